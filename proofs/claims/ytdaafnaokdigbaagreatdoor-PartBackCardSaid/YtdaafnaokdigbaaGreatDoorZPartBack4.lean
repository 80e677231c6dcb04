/-
  Texts in one (only what PartBack needs): PartAP, PartAW, PartLP, PartLW, LPartBackP, LPartBackW, HeadRP, HdSp, HdA, HdD, HdR, HdW, HdL, HdF, HdV, QpPure, QpMore, PartRP, PtQ, HdB.
-/
import Derived.Test.YtdaafnaokdigbaaGreatDoorZPartBack3
import Derived.Lib.ItoaNum
import Derived.Test.YtdaafnaokdigbaaGreatDoorShelf
import Derived.Test.YtdaafnaokdigbaaGreatDoorChecked
import Derived.Lib.SplitLaws
import Derived.Lib.IndexMore
import Derived.Lib.TrimByte
import Derived.Laws.RangeString
import Derived.Laws.RangeAny
set_option linter.unusedVariables false
set_option linter.unusedSimpArgs false
namespace Go.Pv
def parta_k1 : List UInt8 := [97, 98, 99, 100, 101, 102, 103, 104, 105, 106, 107, 108, 109, 110, 111, 112, 113, 114, 115, 116, 117, 118, 119, 120, 121, 122, 48, 49, 50, 51, 52, 53, 54, 55, 56, 57, 47, 45, 61, 59, 32]
def parta_k2 : List UInt8 := [67, 111, 110, 116, 101, 110, 116, 45, 84, 114, 97, 110, 115, 102, 101, 114, 45, 69, 110, 99, 111, 100, 105, 110, 103]
def part_hasC (F : Nat) (a1 : List UInt8) (a4 : List UInt8) : Option Bool :=
grd (okCat a4.length) <|
grd (okS a1.length) <|
grd (decide (2 ≤ a4.length)) <|
grd (okS a4.length) <|
lt (Go.Lib.contains a1 a4) fun x11 =>
some x11
def part_IndexB_j1 : Option Int :=
some (-1)
def part_IndexB_B1 (F : Nat) (a1 : List (List UInt8)) (a4 : List UInt8) (rec7 : Int → Option Int) (y6 : Int) : Option Int :=
bif decide (y6 < (a1.length : Int)) then
  grd (okAt y6 a1.length) <|
  lt (at_ a1 y6) fun x11 =>
  bnd (part_hasC F x11 a4) fun x13 =>
  bif x13 then
    some y6
  else
    grd (okI (y6 + 1)) <|
    rec7 (y6 + 1)
else
  part_IndexB_j1
def part_IndexB_L1 (F : Nat) (a1 : List (List UInt8)) (a4 : List UInt8) (n : Nat) : Int → Option Int :=
  loop (fun rec x => part_IndexB_B1 F a1 a4 rec x) n
def part_IndexB (F : Nat) (a1 : List (List UInt8)) (a4 : List UInt8) : Option Int :=
part_IndexB_L1 F a1 a4 F 0
def part_ContainsB (F : Nat) (a1 : List (List UInt8)) (a4 : List UInt8) : Option Bool :=
bnd (part_IndexB F a1 a4) fun x6 =>
some (decide (0 ≤ x6))
def part_Boundary_B1 (F : Nat) (a1 : List (List UInt8)) (rec5 : Int → Option ((List UInt8))) (y4 : Int) : Option ((List UInt8)) :=
grd (okI y4) <|
lt (Go.Lib.itoa y4) fun x8 =>
grd (okCat (([61, 95] : List UInt8).length + x8.length)) <|
lt (([61, 95] : List UInt8) ++ x8) fun x11 =>
bnd (part_ContainsB F a1 x11) fun x14 =>
bif !x14 then
  some x11
else
  grd (okI (y4 + 1)) <|
  rec5 (y4 + 1)
def part_Boundary_L1 (F : Nat) (a1 : List (List UInt8)) (n : Nat) : Int → Option ((List UInt8)) :=
  loop (fun rec x => part_Boundary_B1 F a1 rec x) n
def part_Boundary (F : Nat) (a1 : List (List UInt8)) : Option ((List UInt8)) :=
part_Boundary_L1 F a1 F 0
def part_kind_j1 (a1 : List UInt8) : Option Bool :=
grdc ((!decide (a1 = ([] : List UInt8))) && (decide ((a1.length : Int) ≤ 60))) (okS a1.length) <|
lt (Go.Lib.trimB a1 32) fun x18 =>
grdc (((!decide (a1 = ([] : List UInt8))) && (decide ((a1.length : Int) ≤ 60))) && (decide (x18 = a1))) (okS a1.length) <|
lt (Go.Lib.contains a1 ([32, 32] : List UInt8)) fun x22 =>
some ((((!decide (a1 = ([] : List UInt8))) && (decide ((a1.length : Int) ≤ 60))) && (decide (x18 = a1))) && (!x22))
def part_kind_B1 (a1 : List UInt8) (rec4 : Int → Option Bool) (y3 : Int) : Option Bool :=
bif decide (y3 < (a1.length : Int)) then
  grd (okAt y3 a1.length) <|
  lt (at_ a1 y3) fun x8 =>
  lt (Go.Lib.indexByte parta_k1 x8) fun x10 =>
  bif decide (x10 < 0) then
    some false
  else
    grd (okI (y3 + 1)) <|
    rec4 (y3 + 1)
else
  part_kind_j1 a1
def part_kind_L1 (a1 : List UInt8) (n : Nat) : Int → Option Bool :=
  loop (fun rec x => part_kind_B1 a1 rec x) n
def part_kind (F : Nat) (a1 : List UInt8) : Option Bool :=
part_kind_L1 a1 F 0
def part_notC (F : Nat) (a1 : List UInt8) : Option Bool :=
bnd (part_kind F a1) fun x3 =>
some (!x3)
def part_IndexK_j1 : Option Int :=
some (-1)
def part_IndexK_B1 (F : Nat) (a1 : List (List UInt8)) (rec5 : Int → Option Int) (y4 : Int) : Option Int :=
bif decide (y4 < (a1.length : Int)) then
  grd (okAt y4 a1.length) <|
  lt (at_ a1 y4) fun x9 =>
  bnd (part_notC F x9) fun x11 =>
  bif x11 then
    some y4
  else
    grd (okI (y4 + 1)) <|
    rec5 (y4 + 1)
else
  part_IndexK_j1
def part_IndexK_L1 (F : Nat) (a1 : List (List UInt8)) (n : Nat) : Int → Option Int :=
  loop (fun rec x => part_IndexK_B1 F a1 rec x) n
def part_IndexK (F : Nat) (a1 : List (List UInt8)) : Option Int :=
part_IndexK_L1 F a1 F 0
def part_ContainsK (F : Nat) (a1 : List (List UInt8)) : Option Bool :=
bnd (part_IndexK F a1) fun x4 =>
some (decide (0 ≤ x4))
def part_put_j1 (a6 : List UInt8) (x10 : List UInt8) (y24 : List UInt8) : Option ((List UInt8)) :=
grd (okCat (y24.length + x10.length)) <|
lt (y24 ++ x10) fun x29 =>
grd (okCat (x29.length + a6.length)) <|
lt (x29 ++ a6) fun x33 =>
grd (okCat (x33.length + ([13, 10] : List UInt8).length)) <|
lt (x33 ++ ([13, 10] : List UInt8)) fun x37 =>
some x37
def part_put (F : Nat) (a2 : List UInt8) (a4 : List UInt8) (a5 : List UInt8) (a6 : List UInt8) : Option ((List UInt8)) :=
bnd2 (head_All F ([(([67, 111, 110, 116, 101, 110, 116, 45, 84, 121, 112, 101] : List UInt8), a5), (parta_k2, ([113, 117, 111, 116, 101, 100, 45, 112, 114, 105, 110, 116, 97, 98, 108, 101] : List UInt8))] : List ((List UInt8) × List UInt8))) fun x10 x11 =>
grd (okCat (([45, 45] : List UInt8).length + a4.length)) <|
lt (([45, 45] : List UInt8) ++ a4) fun x14 =>
grd (okCat (x14.length + ([13, 10] : List UInt8).length)) <|
lt (x14 ++ ([13, 10] : List UInt8)) fun x17 =>
grd (okCat (a2.length + x17.length)) <|
lt (a2 ++ x17) fun x21 =>
part_put_j1 a6 x10 x21
def part_Join_j1 (x34 : List UInt8) (y54 : List UInt8) : Option ((List UInt8) × (List UInt8) × Int) :=
grd (okCat (([45, 45] : List UInt8).length + x34.length)) <|
lt (([45, 45] : List UInt8) ++ x34) fun x58 =>
grd (okCat (x58.length + ([45, 45] : List UInt8).length)) <|
lt (x58 ++ ([45, 45] : List UInt8)) fun x61 =>
grd (okCat (x61.length + ([13, 10] : List UInt8).length)) <|
lt (x61 ++ ([13, 10] : List UInt8)) fun x64 =>
grd (okCat (y54.length + x64.length)) <|
lt (y54 ++ x64) fun x68 =>
some (x68, x34, 0)
def part_Join_B1 (F : Nat) (a1 : List (List UInt8)) (y31 : List (List UInt8)) (x34 : List UInt8) (rec41 : (Int × (List UInt8)) → Option ((List UInt8) × (List UInt8) × Int)) (y38 : Int) (y39 : List UInt8) : Option ((List UInt8) × (List UInt8) × Int) :=
bif decide (y38 < (y31.length : Int)) then
  grd (okAt y38 y31.length) <|
  lt (at_ y31 y38) fun x45 =>
  grd (okAt y38 a1.length) <|
  lt (at_ a1 y38) fun x48 =>
  bnd (part_put F y39 x34 x48 x45) fun x50 =>
  grd (okI (y38 + 1)) <|
  rec41 (y38 + 1, x50)
else
  part_Join_j1 x34 y39
def part_Join_L1 (F : Nat) (a1 : List (List UInt8)) (y31 : List (List UInt8)) (x34 : List UInt8) (n : Nat) : (Int × (List UInt8)) → Option ((List UInt8) × (List UInt8) × Int) :=
  loop (fun rec x => part_Join_B1 F a1 y31 x34 rec x.1 x.2) n
def part_Join_j2 (F : Nat) (a1 : List (List UInt8)) (y31 : List (List UInt8)) : Option ((List UInt8) × (List UInt8) × Int) :=
bnd (part_Boundary F y31) fun x34 =>
part_Join_L1 F a1 y31 x34 F (0, [])
def part_Join_B2 (F : Nat) (a1 : List (List UInt8)) (a3 : List (List UInt8)) (rec18 : ((List (List UInt8)) × Int) → Option ((List UInt8) × (List UInt8) × Int)) (y15 : List (List UInt8)) (y17 : Int) : Option ((List UInt8) × (List UInt8) × Int) :=
bif decide (y17 < (a3.length : Int)) then
  grd (okAt y17 a3.length) <|
  lt (at_ a3 y17) fun x22 =>
  bnd (qp_Encode F x22) fun x24 =>
  grd (okCat (y15.length + ([x24] : List (List UInt8)).length)) <|
  lt (y15 ++ ([x24] : List (List UInt8))) fun x28 =>
  grd (okI (y17 + 1)) <|
  rec18 (x28, y17 + 1)
else
  part_Join_j2 F a1 y15
def part_Join_L2 (F : Nat) (a1 : List (List UInt8)) (a3 : List (List UInt8)) (n : Nat) : ((List (List UInt8)) × Int) → Option ((List UInt8) × (List UInt8) × Int) :=
  loop (fun rec x => part_Join_B2 F a1 a3 rec x.1 x.2) n
def part_Join (F : Nat) (a1 : List (List UInt8)) (a3 : List (List UInt8)) : Option ((List UInt8) × (List UInt8) × Int) :=
bndc (!(((!decide ((a1.length : Int) = (a3.length : Int))) || (decide ((a3.length : Int) = 0))) || (decide (8 < (a3.length : Int))))) (part_ContainsK F a1) fun x11 =>
bif (((!decide ((a1.length : Int) = (a3.length : Int))) || (decide ((a3.length : Int) = 0))) || (decide (8 < (a3.length : Int)))) || x11 then
  some ([], ([] : List UInt8), 1)
else
  part_Join_L2 F a1 a3 F ([], 0)
def part_one (F : Nat) (a1 : List UInt8) : Option ((List UInt8) × (List UInt8) × Bool) :=
bnd3 (head_Cut F a1) fun x6 x7 x8 =>
bif ((!decide (x8 = 0)) || (!decide ((x6.length : Int) = 2))) || (decide ((x7.length : Int) < 2)) then
  some (([] : List UInt8), [], false)
else
  grd (okI ((x7.length : Int) - 2)) <|
  grd (okTo ((x7.length : Int) - 2) x7.length) <|
  lt (to_ x7 ((x7.length : Int) - 2)) fun x15 =>
  bnd2 (qp_Decode F x15) fun x17 x18 =>
  grd (okAt 0 x6.length) <|
  lt (at_ x6 0) fun x21 =>
  some (x21.2, x17, decide (x18 = 0))
def part_Split_j1 (F : Nat) (a1 : List UInt8) (a3 : List UInt8) (y63 : List (List UInt8)) (y65 : List (List UInt8)) : Option ((List (List UInt8)) × (List (List UInt8)) × Int) :=
bnd3 (part_Join F y63 y65) fun x68 x69 x70 =>
lt (decide (x68 = a1)) fun x74 =>
bif ((!decide (x70 = 0)) || (!decide (x69 = a3))) || (!x74) then
  some ([], [], 2)
else
  some (y63, y65, 0)
def part_Split_B1 (F : Nat) (a1 : List UInt8) (a3 : List UInt8) (rec14 : ((List (List UInt8)) × (List (List UInt8)) × (List UInt8)) → Option ((List (List UInt8)) × (List (List UInt8)) × Int)) (y9 : List (List UInt8)) (y11 : List (List UInt8)) (y13 : List UInt8) : Option ((List (List UInt8)) × (List (List UInt8)) × Int) :=
bif decide ((y11.length : Int) ≤ 8) then
  grd (okCat (([45, 45] : List UInt8).length + a3.length)) <|
  lt (([45, 45] : List UInt8) ++ a3) fun x18 =>
  grd (okCat (x18.length + ([13, 10] : List UInt8).length)) <|
  lt (x18 ++ ([13, 10] : List UInt8)) fun x21 =>
  grd (okCat x21.length) <|
  grd (decide (1 ≤ x21.length)) <|
  lt (Go.Lib.trimPrefix y13 x21, Go.Lib.hasPrefix y13 x21) fun x26 =>
  bif !x26.2 then
    part_Split_j1 F a1 a3 y9 y11
  else
    grd (okCat (([45, 45] : List UInt8).length + a3.length)) <|
    lt (([45, 45] : List UInt8) ++ a3) fun x30 =>
    grd (okCat x30.length) <|
    grd (okS x26.1.length) <|
    grd (decide (2 ≤ x30.length)) <|
    grd (okS x30.length) <|
    lt (Go.Lib.index x26.1 x30) fun x37 =>
    bif decide (x37 < 0) then
      some ([], [], 2)
    else
      grd (okTo x37 x26.1.length) <|
      lt (to_ x26.1 x37) fun x41 =>
      bnd3 (part_one F x41) fun x43 x44 x45 =>
      bif !x45 then
        some ([], [], 2)
      else
        grd (okTo x37 x26.1.length) <|
        lt (from_ x26.1 x37) fun x49 =>
        grd (okCat (y9.length + ([x43] : List (List UInt8)).length)) <|
        lt (y9 ++ ([x43] : List (List UInt8))) fun x53 =>
        grd (okCat (y11.length + ([x44] : List (List UInt8)).length)) <|
        lt (y11 ++ ([x44] : List (List UInt8))) fun x57 =>
        rec14 (x53, x57, x49)
else
  part_Split_j1 F a1 a3 y9 y11
def part_Split_L1 (F : Nat) (a1 : List UInt8) (a3 : List UInt8) (n : Nat) : ((List (List UInt8)) × (List (List UInt8)) × (List UInt8)) → Option ((List (List UInt8)) × (List (List UInt8)) × Int) :=
  loop (fun rec x => part_Split_B1 F a1 a3 rec x.1 x.2.1 x.2.2) n
def part_Split (F : Nat) (a1 : List UInt8) (a3 : List UInt8) : Option ((List (List UInt8)) × (List (List UInt8)) × Int) :=
part_Split_L1 F a1 a3 F ([], [], a1)
end Go.Pv
namespace Go.Proofs.YtdaafnaokdigbaaGreatDoor
open Go.RowKit Go.Av Go.Pv
theorem en10_parta : ∀ (args : Array Value) (w : World), (callFunc 10 args).run Tryz.prog w = .ok (.enter 10 args) w := fun _ _ => by kernel_rfl
theorem en12_parta : ∀ (args : Array Value) (w : World), (callFunc 12 args).run Tryz.prog w = .ok (.enter 12 args) w := fun _ _ => by kernel_rfl
theorem en20_parta : ∀ (args : Array Value) (w : World), (callFunc 20 args).run Tryz.prog w = .ok (.enter 20 args) w := fun _ _ => by kernel_rfl
theorem en21_parta : ∀ (args : Array Value) (w : World), (callFunc 21 args).run Tryz.prog w = .ok (.enter 21 args) w := fun _ _ => by kernel_rfl
theorem en22_parta : ∀ (args : Array Value) (w : World), (callFunc 22 args).run Tryz.prog w = .ok (.enter 22 args) w := fun _ _ => by kernel_rfl
theorem en23_parta : ∀ (args : Array Value) (w : World), (callFunc 23 args).run Tryz.prog w = .ok (.enter 23 args) w := fun _ _ => by kernel_rfl
theorem en24_parta : ∀ (args : Array Value) (w : World), (callFunc 24 args).run Tryz.prog w = .ok (.enter 24 args) w := fun _ _ => by kernel_rfl
theorem en27_parta : ∀ (args : Array Value) (w : World), (callFunc 27 args).run Tryz.prog w = .ok (.enter 27 args) w := fun _ _ => by kernel_rfl
theorem en28_parta : ∀ (args : Array Value) (w : World), (callFunc 28 args).run Tryz.prog w = .ok (.enter 28 args) w := fun _ _ => by kernel_rfl
theorem en29_parta : ∀ (args : Array Value) (w : World), (callFunc 29 args).run Tryz.prog w = .ok (.enter 29 args) w := fun _ _ => by kernel_rfl
theorem en30_parta : ∀ (args : Array Value) (w : World), (callFunc 30 args).run Tryz.prog w = .ok (.enter 30 args) w := fun _ _ => by kernel_rfl
theorem en33_parta : ∀ (args : Array Value) (w : World), (callFunc 33 args).run Tryz.prog w = .ok (.enter 33 args) w := fun _ _ => by kernel_rfl
theorem en34_parta : ∀ (args : Array Value) (w : World), (callFunc 34 args).run Tryz.prog w = .ok (.enter 34 args) w := fun _ _ => by kernel_rfl
theorem en35_parta : ∀ (args : Array Value) (w : World), (callFunc 35 args).run Tryz.prog w = .ok (.enter 35 args) w := fun _ _ => by kernel_rfl
theorem en36_parta : ∀ (args : Array Value) (w : World), (callFunc 36 args).run Tryz.prog w = .ok (.enter 36 args) w := fun _ _ => by kernel_rfl
theorem en40_parta : ∀ (args : Array Value) (w : World), (callFunc 40 args).run Tryz.prog w = .ok (.enter 40 args) w := fun _ _ => by kernel_rfl
theorem en41_parta : ∀ (args : Array Value) (w : World), (callFunc 41 args).run Tryz.prog w = .ok (.enter 41 args) w := fun _ _ => by kernel_rfl
theorem en42_parta : ∀ (args : Array Value) (w : World), (callFunc 42 args).run Tryz.prog w = .ok (.enter 42 args) w := fun _ _ => by kernel_rfl
theorem en43_parta : ∀ (args : Array Value) (w : World), (callFunc 43 args).run Tryz.prog w = .ok (.enter 43 args) w := fun _ _ => by kernel_rfl
theorem en46_parta : ∀ (args : Array Value) (w : World), (callFunc 46 args).run Tryz.prog w = .ok (.enter 46 args) w := fun _ _ => by kernel_rfl
theorem en49_parta : ∀ (args : Array Value) (w : World), (callFunc 49 args).run Tryz.prog w = .ok (.enter 49 args) w := fun _ _ => by kernel_rfl
theorem en55_parta : ∀ (args : Array Value) (w : World), (callFunc 55 args).run Tryz.prog w = .ok (.enter 55 args) w := fun _ _ => by kernel_rfl
theorem en56_parta : ∀ (args : Array Value) (w : World), (callFunc 56 args).run Tryz.prog w = .ok (.enter 56 args) w := fun _ _ => by kernel_rfl
set_option maxRecDepth 100000 in
set_option maxHeartbeats 1000000 in
theorem w_part_hasC (F : Nat) (a1 : List UInt8) (q2 : Option Nat) (o3 : Nat) (a4 : List UInt8) (r5 : Bool) (H : part_hasC F a1 a4 = some r5) : ACalls Tryz.prog 29 [slE Enc.byte a1 q2, .pt o3 0] [.obj o3 [S a4]] (fun e A' => e = .ret (B r5) ∧ A' = [.obj o3 [S a4]]) := by
 unfold part_hasC at H
 refine ACalls.of_body Tryz.func29 rfl rfl ?_
 show AW _ _ 8 _ _ _
 refine AW.seq ?_
 refine AW.region ?_
 show AR _ _ _ _ _ [0] _
 refine sS rfl rfl rfl (asg rfl) ?_
 refine AR.nil ?_
 show AW _ _ _ _ _ _
 refine AW.seq ?_
 obtain ⟨g6, H⟩ := grd_s H
 obtain ⟨g8, H⟩ := grd_s H
 obtain ⟨g9, H⟩ := grd_s H
 obtain ⟨g10, H⟩ := grd_s H
 obtain ⟨x11, e12, H⟩ := lt_s H
 refine AW.region ?_
 show AR _ _ _ _ _ [0, 1, 2, 3, 4] _
 refine sS rfl rfl rfl (opS_move (av := slE _ _ _) rfl) ?_
 refine sR rfl rfl rfl (opR_load_pt (i := 0) Tryz.underlying9 rfl rfl rfl rfl) ?_
 refine sX rfl rfl rfl (g_conv_str_bytes (bytes := 1) Tryz.underlying9 Tryz.underlying26 Tryz.underlying5 rfl g6) ?_
 rintro _ _ ⟨t7, rfl, rfl⟩
 refine AR.run rfl rfl (AO.callp rfl en30_parta rfl (show ACalls _ _ _ [] (Ret (B x11) []) from by subst e12; exact lib_bytesContains a1 a4 q2 (some t7) (okS_s g8) (of_decide_eq_true g9) (okS_s g10)) ?_)
 refine sS rfl rfl rfl (asg rfl) ?_
 refine AR.nil ?_
 show AW _ _ _ _ _ _
 refine AW.ret ?_
 obtain rfl := Option.some.inj H
 exact And.intro rfl (Exists.intro _ (Exists.intro _ ⟨ResV.oneW rfl (.refl _), Sub.at [1] rfl, rfl, rfl⟩))
set_option maxRecDepth 100000 in
set_option maxHeartbeats 1000000 in
theorem w_part_IndexB (F : Nat) (a1 : List (List UInt8)) (q2 : Option Nat) (o3 : Nat) (a4 : List UInt8) (r5 : Int) (H : part_IndexB F a1 a4 = some r5) : ACalls Tryz.prog 49 [slE (Enc.sl Enc.byte) a1 q2, .fn (.func 29) [] [.pt o3 0]] [.obj o3 [S a4]] (fun e A' => e = .ret (i64 r5) ∧ A' = [.obj o3 [S a4]]) := by
 unfold part_IndexB at H
 refine ACalls.of_body Tryz.func49 rfl rfl ?_
 show AW _ _ 19 _ _ _
 refine AW.seq ?_
 refine AW.region ?_
 show AR _ _ _ _ _ [0] _
 refine sS rfl rfl rfl (asg rfl) ?_
 refine AR.nil ?_
 show AW _ _ _ _ _ _
 refine AW.cut (X := Unit) (fun _ => ⟨[], [], [.obj o3 [S a4]]⟩) (fun _ => part_IndexB_j1 = some r5) ?_ ?_
 ·
  refine AW.seq ?_
  refine AW.region ?_
  show AR _ _ _ _ _ [0, 1, 2] _
  refine sS rfl rfl rfl (opS_move (av := slE _ _ _) rfl) ?_
  refine sS rfl rfl rfl (opS_len_sl Tryz.underlying23 rfl) ?_
  refine sS rfl rfl rfl (mv rfl) ?_
  refine AR.nil ?_
  show AW _ _ _ _ _ _
  refine AW.block ?_
  refine AW.loop (X := Nat × Int) (fun (n8, y6) => ⟨[(0, slE (Enc.sl Enc.byte) a1 q2), (1, .fn (.func 29) [] [.pt o3 0]), (7, i64 (a1.length : Int)), (8, i64 y6)], [], [.obj o3 [S a4]]⟩) (fun (n8, y6) => part_IndexB_L1 F a1 a4 n8 y6 = some r5) (fun (n8, y6) => n8) (F, 0) H (WK.at [0] (.cons (.refl _) (.cons (.refl _) (.cons (.refl _) (.cons (.refl _) (.nil _))))) rfl) ?_
  rintro ⟨n8, y6⟩ H
  obtain ⟨n8, rfl, H⟩ := loop_s H
  replace H : part_IndexB_B1 F a1 a4 (part_IndexB_L1 F a1 a4 n8) y6 = some r5 := H
  unfold part_IndexB_B1 at H
  show AW _ _ _ _ _ _
  refine AW.seq ?_
  refine AW.region ?_
  show AR _ _ _ _ _ [0] _
  refine sS rfl rfl rfl (opS_lt rfl rfl) ?_
  refine AR.nil ?_
  show AW _ _ _ _ _ _
  refine AW.seq ?_
  refine AW.cond rfl (fun c9 => ?_) (fun c9 => ?_)
  ·replace H := cnd_t c9 H
   refine AW.skip ?_
   show AW _ _ _ _ _ _
   refine AW.seq ?_
   refine AW.block ?_
   refine AW.seq ?_
   refine AW.region ?_
   show AR _ _ _ _ _ [0, 1] _
   refine sS rfl rfl rfl (mv rfl) ?_
   refine sS rfl rfl rfl (asg rfl) ?_
   refine AR.nil ?_
   show AW _ _ _ _ _ _
   refine AW.seq ?_
   obtain ⟨g10, H⟩ := grd_s H
   obtain ⟨x11, e12, H⟩ := lt_s H
   obtain ⟨x13, e14, H⟩ := bnd_s H
   refine AW.region ?_
   show AR _ _ _ _ _ [0, 1, 2, 3, 4, 5] _
   refine sS rfl rfl rfl (opS_move (av := .fn _ _ _) rfl) ?_
   refine sS rfl rfl rfl (opS_move (av := slE _ _ _) rfl) ?_
   refine sS rfl rfl rfl (mv rfl) ?_
   refine sS rfl rfl rfl (g_indexAddr (E := (Enc.sl Enc.byte)) Tryz.underlying23 (by kernel_rfl) rfl rfl g10 e12) ?_
   refine sS rfl rfl rfl (opS_load_cp Tryz.underlying26 rfl rfl) ?_
   refine AR.run rfl rfl (AO.callFAt [0] rfl (.inl rfl) en29_parta rfl (w_part_hasC F x11 none o3 a4 x13 e14) rfl (fun c A' h => by cases h.1) ?_)
   rintro av A' ⟨h, rfl⟩; cases h
   refine AR.nil ?_
   show AW _ _ _ _ _ _
   refine AW.cond rfl (fun c15 => ?_) (fun c15 => ?_)
   ·replace H := cnd_t c15 H
    refine AW.seq ?_
    refine AW.region ?_
    show AR _ _ _ _ _ [0, 1] _
    refine sS rfl rfl rfl (mv rfl) ?_
    refine sS rfl rfl rfl (asg rfl) ?_
    refine AR.nil ?_
    show AW _ _ _ _ _ _
    refine AW.ret ?_
    obtain rfl := Option.some.inj H
    exact And.intro rfl (Exists.intro _ (Exists.intro _ ⟨ResV.oneW rfl (.refl _), Sub.at [0] rfl, rfl, rfl⟩))
   ·replace H := cnd_f c15 H
    refine AW.skip ?_
    show AW _ _ _ _ _ _
    obtain ⟨g16, H⟩ := grd_s H
    refine AW.region ?_
    show AR _ _ _ _ _ [0, 1] _
    refine sS rfl rfl rfl (g_add rfl rfl g16) ?_
    refine sS rfl rfl rfl (mv rfl) ?_
    refine AR.nil ?_
    exact Exists.intro (n8, y6 + 1) ⟨H, Nat.lt_succ_self _, WK.at [0] (.cons (.refl _) (.cons (.refl _) (.cons (.refl _) (.cons (.refl _) (.nil _))))) rfl⟩
  ·replace H := cnd_f c9 H
   refine AW.exit ?_
   exact Exists.intro () ⟨H, WK.at [0] (.nil _) rfl⟩
 rintro _ H
 replace H : part_IndexB_j1 = some r5 := H
 unfold part_IndexB_j1 at H
 show AW _ _ _ _ _ _
 refine AW.seq ?_
 refine AW.region ?_
 show AR _ _ _ _ _ [0] _
 refine sS rfl rfl rfl (asg rfl) ?_
 refine AR.nil ?_
 show AW _ _ _ _ _ _
 refine AW.ret ?_
 obtain rfl := Option.some.inj H
 exact And.intro rfl (Exists.intro _ (Exists.intro _ ⟨ResV.oneW rfl (.refl _), Sub.at [0] rfl, rfl, rfl⟩))
set_option maxRecDepth 100000 in
set_option maxHeartbeats 1000000 in
theorem w_part_ContainsB (F : Nat) (a1 : List (List UInt8)) (q2 : Option Nat) (o3 : Nat) (a4 : List UInt8) (r5 : Bool) (H : part_ContainsB F a1 a4 = some r5) : ACalls Tryz.prog 28 [slE (Enc.sl Enc.byte) a1 q2, .fn (.func 29) [] [.pt o3 0]] [.obj o3 [S a4]] (fun e A' => e = .ret (B r5) ∧ A' = [.obj o3 [S a4]]) := by
 unfold part_ContainsB at H
 refine ACalls.of_body Tryz.func28 rfl rfl ?_
 show AW _ _ 9 _ _ _
 refine AW.seq ?_
 refine AW.region ?_
 show AR _ _ _ _ _ [0] _
 refine sS rfl rfl rfl (asg rfl) ?_
 refine AR.nil ?_
 show AW _ _ _ _ _ _
 refine AW.seq ?_
 obtain ⟨x6, e7, H⟩ := bnd_s H
 refine AW.region ?_
 show AR _ _ _ _ _ [0, 1, 2, 3, 4] _
 refine sS rfl rfl rfl (opS_move (av := slE _ _ _) rfl) ?_
 refine sS rfl rfl rfl (opS_move (av := .fn _ _ _) rfl) ?_
 refine AR.run rfl rfl (AO.callAt [0] rfl en49_parta rfl (w_part_IndexB F a1 q2 o3 a4 x6 e7) rfl (fun c A' h => by cases h.1) ?_)
 rintro av A' ⟨h, rfl⟩; cases h
 refine sS rfl rfl rfl (opS_ge rfl rfl) ?_
 refine sS rfl rfl rfl (asg rfl) ?_
 refine AR.nil ?_
 show AW _ _ _ _ _ _
 refine AW.ret ?_
 obtain rfl := Option.some.inj H
 exact And.intro rfl (Exists.intro _ (Exists.intro _ ⟨ResV.oneW rfl (.refl _), Sub.at [0] rfl, rfl, rfl⟩))
set_option maxRecDepth 100000 in
set_option maxHeartbeats 1000000 in
theorem w_part_Boundary (F : Nat) (a1 : List (List UInt8)) (q2 : Option Nat) (r3 : List UInt8) (H : part_Boundary F a1 = some r3) : ACalls Tryz.prog 12 [slE (Enc.sl Enc.byte) a1 q2] [] (Ret (S r3) []) := by
 unfold part_Boundary at H
 refine ACalls.of_body Tryz.func12 rfl rfl ?_
 show AW _ _ 15 _ _ _
 refine AW.seq ?_
 refine AW.region ?_
 show AR _ _ _ _ _ [0] _
 refine sS rfl rfl rfl (asg rfl) ?_
 refine AR.nil ?_
 show AW _ _ _ _ _ _
 refine AW.seq ?_
 refine AW.region ?_
 show AR _ _ _ _ _ [0] _
 refine sS rfl rfl rfl (asg rfl) ?_
 refine AR.nil ?_
 show AW _ _ _ _ _ _
 refine AW.block ?_
 refine AW.loop (X := Nat × Int) (fun (n6, y4) => ⟨[(0, slE (Enc.sl Enc.byte) a1 q2), (3, i64 y4)], [], []⟩) (fun (n6, y4) => part_Boundary_L1 F a1 n6 y4 = some r3) (fun (n6, y4) => n6) (F, 0) H (WK.at [] (.cons (.refl _) (.cons (.refl _) (.nil _))) rfl) ?_
 rintro ⟨n6, y4⟩ H
 obtain ⟨n6, rfl, H⟩ := loop_s H
 replace H : part_Boundary_B1 F a1 (part_Boundary_L1 F a1 n6) y4 = some r3 := H
 unfold part_Boundary_B1 at H
 show AW _ _ _ _ _ _
 refine AW.seq ?_
 refine AW.block ?_
 refine AW.seq ?_
 obtain ⟨g7, H⟩ := grd_s H
 obtain ⟨x8, e9, H⟩ := lt_s H
 obtain ⟨g10, H⟩ := grd_s H
 obtain ⟨x11, e12, H⟩ := lt_s H
 refine AW.region ?_
 show AR _ _ _ _ _ [0, 1, 2, 3, 4] _
 refine sS rfl rfl rfl (mv rfl) ?_
 refine AR.run rfl rfl (AO.callp rfl en27_parta rfl (show ACalls _ _ _ [] (Ret (S x8) []) from by subst e9; exact lib_ItoaAll y4 (okI_s g7)) ?_)
 refine sS rfl rfl rfl (g_cat rfl rfl g10 e12) ?_
 refine sX rfl rfl rfl (opX_alloc (zs := [.string ⟨#[]⟩]) (by kernel_rfl)) ?_
 rintro _ _ ⟨o13, rfl, rfl⟩
 refine s0 rfl rfl (opR_store_pt (i := 0) (c := .v _) (by kernel_rfl) rfl rfl rfl rfl (Nat.le_of_ble_eq_true rfl)) ?_
 refine AR.nil ?_
 show AW _ _ _ _ _ _
 refine AW.seq ?_
 obtain ⟨x14, e15, H⟩ := bnd_s H
 refine AW.region ?_
 show AR _ _ _ _ _ [0, 1, 2, 3] _
 refine sS rfl rfl rfl (opS_move (av := slE _ _ _) rfl) ?_
 refine sS rfl rfl rfl (opS_makeFunc rfl rfl) ?_
 refine AR.run rfl rfl (AO.callAt [0] rfl en28_parta rfl (w_part_ContainsB F a1 q2 o13 x11 x14 e15) rfl (fun c A' h => by cases h.1) ?_)
 rintro av A' ⟨h, rfl⟩; cases h
 refine sS rfl rfl rfl (opS_not rfl) ?_
 refine AR.nil ?_
 show AW _ _ _ _ _ _
 refine AW.cond rfl (fun c16 => ?_) (fun c16 => ?_)
 ·replace H := cnd_t c16 H
  refine AW.seq ?_
  refine AW.region ?_
  show AR _ _ _ _ _ [0, 1] _
  refine sR rfl rfl rfl (opR_load_pt (i := 0) Tryz.underlying9 rfl rfl rfl rfl) ?_
  refine sS rfl rfl rfl (asg rfl) ?_
  refine AR.nil ?_
  show AW _ _ _ _ _ _
  refine AW.ret ?_
  obtain rfl := Option.some.inj H
  exact And.intro rfl (Exists.intro _ (Exists.intro _ ⟨ResV.oneW rfl (.refl _), Sub.at [] rfl, rfl, rfl⟩))
 ·replace H := cnd_f c16 H
  refine AW.skip ?_
  show AW _ _ _ _ _ _
  obtain ⟨g17, H⟩ := grd_s H
  refine AW.region ?_
  show AR _ _ _ _ _ [0, 1, 2] _
  refine sS rfl rfl rfl (mv rfl) ?_
  refine sS rfl rfl rfl (g_add rfl rfl g17) ?_
  refine sS rfl rfl rfl (asg rfl) ?_
  refine AR.nil ?_
  exact Exists.intro (n6, y4 + 1) ⟨H, Nat.lt_succ_self _, WK.at [] (.cons (.refl _) (.cons (.refl _) (.nil _))) rfl⟩
set_option maxRecDepth 100000 in
set_option maxHeartbeats 1000000 in
theorem w_part_kind (F : Nat) (a1 : List UInt8) (r2 : Bool) (H : part_kind F a1 = some r2) : ACalls Tryz.prog 22 [S a1] [] (Ret (B r2) []) := by
 unfold part_kind at H
 refine ACalls.of_body Tryz.func22 rfl rfl ?_
 show AW _ _ 33 _ _ _
 refine AW.seq ?_
 refine AW.region ?_
 show AR _ _ _ _ _ [0] _
 refine sS rfl rfl rfl (asg rfl) ?_
 refine AR.nil ?_
 show AW _ _ _ _ _ _
 refine AW.cut (X := Unit) (fun _ => ⟨[(0, S a1)], [], []⟩) (fun _ => part_kind_j1 a1 = some r2) ?_ ?_
 ·
  refine AW.seq ?_
  refine AW.region ?_
  show AR _ _ _ _ _ [0, 1, 2] _
  refine sS rfl rfl rfl (mv rfl) ?_
  refine sS rfl rfl rfl (opS_len_str Tryz.underlying9 rfl) ?_
  refine sS rfl rfl rfl (mv rfl) ?_
  refine AR.nil ?_
  show AW _ _ _ _ _ _
  refine AW.block ?_
  refine AW.loop (X := Nat × Int) (fun (n5, y3) => ⟨[(0, S a1), (5, i64 (a1.length : Int)), (6, i64 y3)], [], []⟩) (fun (n5, y3) => part_kind_L1 a1 n5 y3 = some r2) (fun (n5, y3) => n5) (F, 0) H (WK.at [] (.cons (.refl _) (.cons (.refl _) (.cons (.refl _) (.nil _)))) rfl) ?_
  rintro ⟨n5, y3⟩ H
  obtain ⟨n5, rfl, H⟩ := loop_s H
  replace H : part_kind_B1 a1 (part_kind_L1 a1 n5) y3 = some r2 := H
  unfold part_kind_B1 at H
  show AW _ _ _ _ _ _
  refine AW.seq ?_
  refine AW.region ?_
  show AR _ _ _ _ _ [0] _
  refine sS rfl rfl rfl (opS_lt rfl rfl) ?_
  refine AR.nil ?_
  show AW _ _ _ _ _ _
  refine AW.seq ?_
  refine AW.cond rfl (fun c6 => ?_) (fun c6 => ?_)
  ·replace H := cnd_t c6 H
   refine AW.skip ?_
   show AW _ _ _ _ _ _
   refine AW.seq ?_
   refine AW.block ?_
   refine AW.seq ?_
   refine AW.region ?_
   show AR _ _ _ _ _ [0, 1] _
   refine sS rfl rfl rfl (mv rfl) ?_
   refine sS rfl rfl rfl (asg rfl) ?_
   refine AR.nil ?_
   show AW _ _ _ _ _ _
   refine AW.seq ?_
   obtain ⟨g7, H⟩ := grd_s H
   obtain ⟨x8, e9, H⟩ := lt_s H
   obtain ⟨x10, e11, H⟩ := lt_s H
   refine AW.region ?_
   show AR _ _ _ _ _ [0, 1, 2, 3, 4] _
   refine sS rfl rfl rfl (mv rfl) ?_
   refine sS rfl rfl rfl (mv rfl) ?_
   refine sS rfl rfl rfl (g_index_str Tryz.underlying9 rfl rfl g7 e9) ?_
   refine AR.run rfl rfl (AO.callp rfl en41_parta rfl (show ACalls _ _ _ [] (Ret (i64 x10) []) from by subst e11; exact lib_IndexByte parta_k1 x8) ?_)
   refine sS rfl rfl rfl (opS_lt rfl rfl) ?_
   refine AR.nil ?_
   show AW _ _ _ _ _ _
   refine AW.cond rfl (fun c12 => ?_) (fun c12 => ?_)
   ·replace H := cnd_t c12 H
    refine AW.seq ?_
    refine AW.region ?_
    show AR _ _ _ _ _ [0] _
    refine sS rfl rfl rfl (asg rfl) ?_
    refine AR.nil ?_
    show AW _ _ _ _ _ _
    refine AW.ret ?_
    obtain rfl := Option.some.inj H
    exact And.intro rfl (Exists.intro _ (Exists.intro _ ⟨ResV.oneW rfl (.refl _), Sub.at [] rfl, rfl, rfl⟩))
   ·replace H := cnd_f c12 H
    refine AW.skip ?_
    show AW _ _ _ _ _ _
    obtain ⟨g13, H⟩ := grd_s H
    refine AW.region ?_
    show AR _ _ _ _ _ [0, 1] _
    refine sS rfl rfl rfl (g_add rfl rfl g13) ?_
    refine sS rfl rfl rfl (mv rfl) ?_
    refine AR.nil ?_
    exact Exists.intro (n5, y3 + 1) ⟨H, Nat.lt_succ_self _, WK.at [] (.cons (.refl _) (.cons (.refl _) (.cons (.refl _) (.nil _)))) rfl⟩
  ·replace H := cnd_f c6 H
   refine AW.exit ?_
   exact Exists.intro () ⟨H, WK.at [] (.cons (.refl _) (.nil _)) rfl⟩
 rintro _ H
 replace H : part_kind_j1 a1 = some r2 := H
 unfold part_kind_j1 at H
 show AW _ _ _ _ _ _
 refine AW.seq ?_
 obtain ⟨g17, H⟩ := grdc_s H
 obtain ⟨x18, e19, H⟩ := lt_s H
 obtain ⟨g21, H⟩ := grdc_s H
 obtain ⟨x22, e23, H⟩ := lt_s H
 refine AW.region ?_
 show AR _ _ _ _ _ [0, 1, 2, 3, 4, 5, 6, 7, 8, 9, 10, 11, 12, 13, 14, 15, 16, 17, 18] _
 refine sS rfl rfl rfl (mv rfl) ?_
 refine sS rfl rfl rfl (opS_nes rfl rfl) ?_
 refine sS rfl rfl rfl (mv rfl) ?_
 refine AR.meet (l := [7, 8, 9, 10, 11, 12, 13, 14, 15, 16, 17, 18]) 21 (B ((!decide (a1 = ([] : List UInt8))) && (decide ((a1.length : Int) ≤ 60)))) (fun K => ?_) ?_
 ·rcases Bool.eq_false_or_eq_true (!decide (a1 = ([] : List UInt8))) with h15 | h15
  ·
   refine gT h15 rfl rfl rfl rfl rfl rfl (AO.ops rfl rfl (mv rfl) ?_)
   refine gT h15 rfl rfl rfl rfl rfl rfl (AO.ops rfl rfl (opS_len_str Tryz.underlying9 rfl) ?_)
   refine gT h15 rfl rfl rfl rfl rfl rfl (AO.ops rfl rfl (opS_le rfl rfl) ?_)
   refine sS rfl rfl rfl (opS_pick_t (av := .v _) rfl h15 rfl) ?_
   exact K _ 3 _ (B_congr (and_t h15)) rfl rfl
  ·
   refine gF h15 rfl rfl rfl rfl rfl ?_
   refine gF h15 rfl rfl rfl rfl rfl ?_
   refine gF h15 rfl rfl rfl rfl rfl ?_
   refine sS rfl rfl rfl (opS_pick_f (av := .v _) rfl h15 rfl) ?_
   exact K _ 3 _ (B_congr (and_f h15)) rfl rfl
 refine sS rfl rfl rfl (mv rfl) ?_
 refine AR.meet (l := [13, 14, 15, 16, 17, 18]) 27 (B (((!decide (a1 = ([] : List UInt8))) && (decide ((a1.length : Int) ≤ 60))) && (decide (x18 = a1)))) (fun K => ?_) ?_
 ·rcases Bool.eq_false_or_eq_true ((!decide (a1 = ([] : List UInt8))) && (decide ((a1.length : Int) ≤ 60))) with h16 | h16
  ·
   refine gT h16 rfl rfl rfl rfl rfl rfl (AO.ops rfl rfl (mv rfl) ?_)
   refine gT h16 rfl rfl rfl rfl rfl rfl (AO.callp rfl en42_parta rfl (show ACalls _ _ _ [] (Ret (S x18) []) from by subst e19; exact lib_Trim1 a1 32 (by decide) (okS_s (g17 h16))) ?_)
   refine gT h16 rfl rfl rfl rfl rfl rfl (AO.ops rfl rfl (mv rfl) ?_)
   refine gT h16 rfl rfl rfl rfl rfl rfl (AO.ops rfl rfl (opS_eqs rfl rfl) ?_)
   refine sS rfl rfl rfl (opS_pick_t (av := .v _) rfl h16 rfl) ?_
   exact K _ 4 _ (B_congr (and_t h16)) rfl rfl
  ·
   refine gF h16 rfl rfl rfl rfl rfl ?_
   refine gF h16 rfl rfl rfl rfl rfl ?_
   refine gF h16 rfl rfl rfl rfl rfl ?_
   refine gF h16 rfl rfl rfl rfl rfl ?_
   refine sS rfl rfl rfl (opS_pick_f (av := .v _) rfl h16 rfl) ?_
   exact K _ 4 _ (B_congr (and_f h16)) rfl rfl
 refine sS rfl rfl rfl (mv rfl) ?_
 refine AR.meet (l := [18]) 32 (B ((((!decide (a1 = ([] : List UInt8))) && (decide ((a1.length : Int) ≤ 60))) && (decide (x18 = a1))) && (!x22))) (fun K => ?_) ?_
 ·rcases Bool.eq_false_or_eq_true (((!decide (a1 = ([] : List UInt8))) && (decide ((a1.length : Int) ≤ 60))) && (decide (x18 = a1))) with h20 | h20
  ·
   refine gT h20 rfl rfl rfl rfl rfl rfl (AO.ops rfl rfl (mv rfl) ?_)
   refine gT h20 rfl rfl rfl rfl rfl rfl (AO.callp rfl en43_parta rfl (show ACalls _ _ _ [] (Ret (B x22) []) from by subst e23; exact lib_Contains a1 ([32, 32] : List UInt8) (okS_s (g21 h20))) ?_)
   refine gT h20 rfl rfl rfl rfl rfl rfl (AO.ops rfl rfl (opS_not rfl) ?_)
   refine sS rfl rfl rfl (opS_pick_t (av := .v _) rfl h20 rfl) ?_
   exact K _ 3 _ (B_congr (and_t h20)) rfl rfl
  ·
   refine gF h20 rfl rfl rfl rfl rfl ?_
   refine gF h20 rfl rfl rfl rfl rfl ?_
   refine gF h20 rfl rfl rfl rfl rfl ?_
   refine sS rfl rfl rfl (opS_pick_f (av := .v _) rfl h20 rfl) ?_
   exact K _ 3 _ (B_congr (and_f h20)) rfl rfl
 refine sS rfl rfl rfl (asg rfl) ?_
 refine AR.nil ?_
 show AW _ _ _ _ _ _
 refine AW.ret ?_
 obtain rfl := Option.some.inj H
 exact And.intro rfl (Exists.intro _ (Exists.intro _ ⟨ResV.oneW rfl (.refl _), Sub.at [] rfl, rfl, rfl⟩))
set_option maxRecDepth 100000 in
set_option maxHeartbeats 1000000 in
theorem w_part_notC (F : Nat) (a1 : List UInt8) (r2 : Bool) (H : part_notC F a1 = some r2) : ACalls Tryz.prog 21 [S a1] [] (Ret (B r2) []) := by
 unfold part_notC at H
 refine ACalls.of_body Tryz.func21 rfl rfl ?_
 show AW _ _ 6 _ _ _
 refine AW.seq ?_
 refine AW.region ?_
 show AR _ _ _ _ _ [0] _
 refine sS rfl rfl rfl (asg rfl) ?_
 refine AR.nil ?_
 show AW _ _ _ _ _ _
 refine AW.seq ?_
 obtain ⟨x3, e4, H⟩ := bnd_s H
 refine AW.region ?_
 show AR _ _ _ _ _ [0, 1, 2, 3] _
 refine sS rfl rfl rfl (mv rfl) ?_
 refine AR.run rfl rfl (AO.callp rfl en22_parta rfl (w_part_kind F a1 x3 e4) ?_)
 refine sS rfl rfl rfl (opS_not rfl) ?_
 refine sS rfl rfl rfl (asg rfl) ?_
 refine AR.nil ?_
 show AW _ _ _ _ _ _
 refine AW.ret ?_
 obtain rfl := Option.some.inj H
 exact And.intro rfl (Exists.intro _ (Exists.intro _ ⟨ResV.oneW rfl (.refl _), Sub.at [] rfl, rfl, rfl⟩))
set_option maxRecDepth 100000 in
set_option maxHeartbeats 1000000 in
theorem w_part_IndexK (F : Nat) (a1 : List (List UInt8)) (q2 : Option Nat) (r3 : Int) (H : part_IndexK F a1 = some r3) : ACalls Tryz.prog 40 [slE Enc.str a1 q2, .v (.func (.func 21) #[] #[])] [] (Ret (i64 r3) []) := by
 unfold part_IndexK at H
 refine ACalls.of_body Tryz.func40 rfl rfl ?_
 show AW _ _ 19 _ _ _
 refine AW.seq ?_
 refine AW.region ?_
 show AR _ _ _ _ _ [0] _
 refine sS rfl rfl rfl (asg rfl) ?_
 refine AR.nil ?_
 show AW _ _ _ _ _ _
 refine AW.cut (X := Unit) (fun _ => ⟨[], [], []⟩) (fun _ => part_IndexK_j1 = some r3) ?_ ?_
 ·
  refine AW.seq ?_
  refine AW.region ?_
  show AR _ _ _ _ _ [0, 1, 2] _
  refine sS rfl rfl rfl (opS_move (av := slE _ _ _) rfl) ?_
  refine sS rfl rfl rfl (opS_len_sl Tryz.underlying22 rfl) ?_
  refine sS rfl rfl rfl (mv rfl) ?_
  refine AR.nil ?_
  show AW _ _ _ _ _ _
  refine AW.block ?_
  refine AW.loop (X := Nat × Int) (fun (n6, y4) => ⟨[(0, slE Enc.str a1 q2), (1, .v (.func (.func 21) #[] #[])), (7, i64 (a1.length : Int)), (8, i64 y4)], [], []⟩) (fun (n6, y4) => part_IndexK_L1 F a1 n6 y4 = some r3) (fun (n6, y4) => n6) (F, 0) H (WK.at [] (.cons (.refl _) (.cons (.refl _) (.cons (.refl _) (.cons (.refl _) (.nil _))))) rfl) ?_
  rintro ⟨n6, y4⟩ H
  obtain ⟨n6, rfl, H⟩ := loop_s H
  replace H : part_IndexK_B1 F a1 (part_IndexK_L1 F a1 n6) y4 = some r3 := H
  unfold part_IndexK_B1 at H
  show AW _ _ _ _ _ _
  refine AW.seq ?_
  refine AW.region ?_
  show AR _ _ _ _ _ [0] _
  refine sS rfl rfl rfl (opS_lt rfl rfl) ?_
  refine AR.nil ?_
  show AW _ _ _ _ _ _
  refine AW.seq ?_
  refine AW.cond rfl (fun c7 => ?_) (fun c7 => ?_)
  ·replace H := cnd_t c7 H
   refine AW.skip ?_
   show AW _ _ _ _ _ _
   refine AW.seq ?_
   refine AW.block ?_
   refine AW.seq ?_
   refine AW.region ?_
   show AR _ _ _ _ _ [0, 1] _
   refine sS rfl rfl rfl (mv rfl) ?_
   refine sS rfl rfl rfl (asg rfl) ?_
   refine AR.nil ?_
   show AW _ _ _ _ _ _
   refine AW.seq ?_
   obtain ⟨g8, H⟩ := grd_s H
   obtain ⟨x9, e10, H⟩ := lt_s H
   obtain ⟨x11, e12, H⟩ := bnd_s H
   refine AW.region ?_
   show AR _ _ _ _ _ [0, 1, 2, 3, 4, 5] _
   refine sS rfl rfl rfl (mv rfl) ?_
   refine sS rfl rfl rfl (opS_move (av := slE _ _ _) rfl) ?_
   refine sS rfl rfl rfl (mv rfl) ?_
   refine sS rfl rfl rfl (g_indexAddr (E := Enc.str) Tryz.underlying22 (by kernel_rfl) rfl rfl g8 e10) ?_
   refine sS rfl rfl rfl (opS_load_cp Tryz.underlying9 rfl rfl) ?_
   refine AR.run rfl rfl (AO.callFp rfl (.inr ⟨rfl, rfl, rfl⟩) en21_parta rfl (w_part_notC F x9 x11 e12) ?_)
   refine AR.nil ?_
   show AW _ _ _ _ _ _
   refine AW.cond rfl (fun c13 => ?_) (fun c13 => ?_)
   ·replace H := cnd_t c13 H
    refine AW.seq ?_
    refine AW.region ?_
    show AR _ _ _ _ _ [0, 1] _
    refine sS rfl rfl rfl (mv rfl) ?_
    refine sS rfl rfl rfl (asg rfl) ?_
    refine AR.nil ?_
    show AW _ _ _ _ _ _
    refine AW.ret ?_
    obtain rfl := Option.some.inj H
    exact And.intro rfl (Exists.intro _ (Exists.intro _ ⟨ResV.oneW rfl (.refl _), Sub.at [] rfl, rfl, rfl⟩))
   ·replace H := cnd_f c13 H
    refine AW.skip ?_
    show AW _ _ _ _ _ _
    obtain ⟨g14, H⟩ := grd_s H
    refine AW.region ?_
    show AR _ _ _ _ _ [0, 1] _
    refine sS rfl rfl rfl (g_add rfl rfl g14) ?_
    refine sS rfl rfl rfl (mv rfl) ?_
    refine AR.nil ?_
    exact Exists.intro (n6, y4 + 1) ⟨H, Nat.lt_succ_self _, WK.at [] (.cons (.refl _) (.cons (.refl _) (.cons (.refl _) (.cons (.refl _) (.nil _))))) rfl⟩
  ·replace H := cnd_f c7 H
   refine AW.exit ?_
   exact Exists.intro () ⟨H, WK.at [] (.nil _) rfl⟩
 rintro _ H
 replace H : part_IndexK_j1 = some r3 := H
 unfold part_IndexK_j1 at H
 show AW _ _ _ _ _ _
 refine AW.seq ?_
 refine AW.region ?_
 show AR _ _ _ _ _ [0] _
 refine sS rfl rfl rfl (asg rfl) ?_
 refine AR.nil ?_
 show AW _ _ _ _ _ _
 refine AW.ret ?_
 obtain rfl := Option.some.inj H
 exact And.intro rfl (Exists.intro _ (Exists.intro _ ⟨ResV.oneW rfl (.refl _), Sub.at [] rfl, rfl, rfl⟩))
set_option maxRecDepth 100000 in
set_option maxHeartbeats 1000000 in
theorem w_part_ContainsK (F : Nat) (a1 : List (List UInt8)) (q2 : Option Nat) (r3 : Bool) (H : part_ContainsK F a1 = some r3) : ACalls Tryz.prog 20 [slE Enc.str a1 q2, .v (.func (.func 21) #[] #[])] [] (Ret (B r3) []) := by
 unfold part_ContainsK at H
 refine ACalls.of_body Tryz.func20 rfl rfl ?_
 show AW _ _ 9 _ _ _
 refine AW.seq ?_
 refine AW.region ?_
 show AR _ _ _ _ _ [0] _
 refine sS rfl rfl rfl (asg rfl) ?_
 refine AR.nil ?_
 show AW _ _ _ _ _ _
 refine AW.seq ?_
 obtain ⟨x4, e5, H⟩ := bnd_s H
 refine AW.region ?_
 show AR _ _ _ _ _ [0, 1, 2, 3, 4] _
 refine sS rfl rfl rfl (opS_move (av := slE _ _ _) rfl) ?_
 refine sS rfl rfl rfl (mv rfl) ?_
 refine AR.run rfl rfl (AO.callp rfl en40_parta rfl (w_part_IndexK F a1 q2 x4 e5) ?_)
 refine sS rfl rfl rfl (opS_ge rfl rfl) ?_
 refine sS rfl rfl rfl (asg rfl) ?_
 refine AR.nil ?_
 show AW _ _ _ _ _ _
 refine AW.ret ?_
 obtain rfl := Option.some.inj H
 exact And.intro rfl (Exists.intro _ (Exists.intro _ ⟨ResV.oneW rfl (.refl _), Sub.at [] rfl, rfl, rfl⟩))
set_option maxRecDepth 100000 in
set_option maxHeartbeats 1000000 in
theorem w_part_put (F : Nat) (o1 : Nat) (a2 : List UInt8) (t3 : Nat) (a4 : List UInt8) (a5 : List UInt8) (a6 : List UInt8) (q7 : Option Nat) (r8 : List UInt8) (H : part_put F a2 a4 a5 a6 = some r8) : ACalls Tryz.prog 24 [.pt o1 0, S a5, slE Enc.byte a6 q7] [.obj o1 [slE Enc.byte a2 (some t3), S a4], .tok t3 5] (fun e A' => e = .ret (.tup []) ∧ ∃ t9, A' = [.obj o1 [slE Enc.byte r8 (some t9), S a4], .tok t9 5]) := by
 unfold part_put at H
 refine ACalls.of_body Tryz.func24 rfl rfl ?_
 show AW _ _ 42 _ _ _
 refine AW.seq ?_
 obtain ⟨x10, x11, e12, H⟩ := bnd2_s H
 refine AW.region ?_
 show AR _ _ _ _ _ [0, 1, 2, 3, 4, 5, 6, 7, 8, 9] _
 refine sS rfl rfl rfl (mv rfl) ?_
 refine sS rfl rfl rfl (g_build (zs := [.string ⟨#[]⟩, .string ⟨#[]⟩]) (ps := [(0, 1), (1, 1)]) (cs := [S ([67, 111, 110, 116, 101, 110, 116, 45, 84, 121, 112, 101] : List UInt8), S a5]) (by kernel_rfl) rfl rfl) ?_
 refine sS rfl rfl rfl (g_build (zs := [.string ⟨#[]⟩, .string ⟨#[]⟩]) (ps := [(0, 1), (1, 1)]) (cs := [S parta_k2, S ([113, 117, 111, 116, 101, 100, 45, 112, 114, 105, 110, 116, 97, 98, 108, 101] : List UInt8)]) (by kernel_rfl) rfl rfl) ?_
 refine sR rfl rfl rfl (opR_buildBig (E := (Enc.prod Enc.str Enc.str)) (bytes := 32) (zs := [.string ⟨#[]⟩, .string ⟨#[]⟩]) (l := ([(([67, 111, 110, 116, 101, 110, 116, 45, 84, 121, 112, 101] : List UInt8), a5), (parta_k2, ([113, 117, 111, 116, 101, 100, 45, 112, 114, 105, 110, 116, 97, 98, 108, 101] : List UInt8))] : List ((List UInt8) × List UInt8))) Tryz.underlying72 (by kernel_rfl) (by kernel_rfl) rfl rfl rfl rfl rfl) ?_
 refine AR.run rfl rfl (AO.callp rfl en46_parta rfl (w_head_All F ([(([67, 111, 110, 116, 101, 110, 116, 45, 84, 121, 112, 101] : List UInt8), a5), (parta_k2, ([113, 117, 111, 116, 101, 100, 45, 112, 114, 105, 110, 116, 97, 98, 108, 101] : List UInt8))] : List ((List UInt8) × List UInt8)) none x10 x11 e12) ?_)
 refine sS rfl rfl rfl (opS_move (av := .tup _) rfl) ?_
 refine sS rfl rfl rfl (opS_extract (av := slE _ _ _) rfl rfl) ?_
 refine sS rfl rfl rfl (opS_extract (av := .v _) rfl rfl) ?_
 refine sS rfl rfl rfl (opS_assign (av := slE _ _ _) rfl) ?_
 refine sS rfl rfl rfl (asg rfl) ?_
 refine AR.nil ?_
 show AW _ _ _ _ _ _
 refine AW.cut (X := (List UInt8) × Nat) (fun (y24, t25) => ⟨[(0, .pt o1 0), (2, slE Enc.byte a6 q7), (6, slE Enc.byte x10 none)], [], [.obj o1 [slE Enc.byte y24 (some t25), S a4], .tok t25 5]⟩) (fun (y24, t25) => part_put_j1 a6 x10 y24 = some r8) ?_ ?_
 ·
  obtain ⟨g13, H⟩ := grd_s H
  obtain ⟨x14, e15, H⟩ := lt_s H
  obtain ⟨g16, H⟩ := grd_s H
  obtain ⟨x17, e18, H⟩ := lt_s H
  obtain ⟨g20, H⟩ := grd_s H
  obtain ⟨x21, e22, H⟩ := lt_s H
  refine AW.region_draw (by kernel_rfl) ?_
  show AI _ _ _ _ _ 15 (Array.replicate 15 false) _
  refine AI.take (i := 0) rfl rfl (by kernel_rfl) (by kernel_rfl) (by kernel_rfl) (fun _ _ h => h) (opS_move (av := .pt _ _) rfl) ?_
  show AI _ _ _ _ _ _ #[true, false, false, false, false, false, false, false, false, false, false, false, false, false, false] _
  refine AI.take (i := 1) rfl rfl (by kernel_rfl) (by kernel_rfl) (by kernel_rfl) (fun _ _ h => h) (opS_move (av := .pt _ _) rfl) ?_
  show AI _ _ _ _ _ _ #[true, true, false, false, false, false, false, false, false, false, false, false, false, false, false] _
  refine AI.take (i := 2) rfl rfl (by kernel_rfl) (by kernel_rfl) (by kernel_rfl) (fun _ _ h => h) (opS_nilCheck_pt rfl) ?_
  show AI _ _ _ _ _ _ #[true, true, true, false, false, false, false, false, false, false, false, false, false, false, false] _
  refine AI.take (i := 3) rfl rfl (by kernel_rfl) (by kernel_rfl) (by kernel_rfl) (fun _ _ h => h) (opS_fieldAddr_pt (n := 0) (by kernel_rfl) rfl) ?_
  show AI _ _ _ _ _ _ #[true, true, true, true, false, false, false, false, false, false, false, false, false, false, false] _
  refine AI.take (i := 5) rfl rfl (by kernel_rfl) (by kernel_rfl) (by kernel_rfl) (fun _ _ h => h) (opS_move (av := .pt _ _) rfl) ?_
  show AI _ _ _ _ _ _ #[true, true, true, true, false, true, false, false, false, false, false, false, false, false, false] _
  refine AI.take (i := 6) rfl rfl (by kernel_rfl) (by kernel_rfl) (by kernel_rfl) (fun _ _ h => h) (opS_nilCheck_pt rfl) ?_
  show AI _ _ _ _ _ _ #[true, true, true, true, false, true, true, false, false, false, false, false, false, false, false] _
  refine AI.take (i := 7) rfl rfl (by kernel_rfl) (by kernel_rfl) (by kernel_rfl) (fun _ _ h => h) (opS_fieldAddr_pt (n := 1) (by kernel_rfl) rfl) ?_
  show AI _ _ _ _ _ _ #[true, true, true, true, false, true, true, true, false, false, false, false, false, false, false] _
  refine AI.two (i := 4) (j := 8) (by kernel_rfl) rfl rfl rfl rfl ?_ ?_
  ·
   refine AIO.op rfl (opR_load_pt (i := 0) Tryz.underlying26 rfl rfl rfl rfl) ?_
   show AI _ _ _ _ _ _ #[true, true, true, true, true, true, true, true, false, false, false, false, false, false, false] _
   refine AI.one (i := 8) (by kernel_rfl) rfl rfl ?_
   refine AIO.op rfl (opR_load_pt (i := 0) Tryz.underlying9 rfl rfl rfl rfl) ?_
   show AI _ _ _ _ _ _ #[true, true, true, true, true, true, true, true, true, false, false, false, false, false, false] _
   refine AI.take (i := 9) rfl rfl (by kernel_rfl) (by kernel_rfl) (by kernel_rfl) (fun _ _ h => h) (g_cat rfl rfl g13 e15) ?_
   show AI _ _ _ _ _ _ #[true, true, true, true, true, true, true, true, true, true, false, false, false, false, false] _
   refine AI.take (i := 10) rfl rfl (by kernel_rfl) (by kernel_rfl) (by kernel_rfl) (fun _ _ h => h) (g_cat rfl rfl g16 e18) ?_
   show AI _ _ _ _ _ _ #[true, true, true, true, true, true, true, true, true, true, true, false, false, false, false] _
   refine AI.one (i := 11) (by kernel_rfl) rfl rfl ?_
   refine AIO.opx rfl (g_append_str (bytes := 1) 1 Tryz.underlying26 Tryz.underlying9 rfl (by kernel_rfl) rfl rfl rfl rfl g20 e22) ?_
   rintro _ _ ⟨t19, rfl, rfl⟩
   show AI _ _ _ _ _ _ #[true, true, true, true, true, true, true, true, true, true, true, true, false, false, false] _
   refine AI.take (i := 12) rfl rfl (by kernel_rfl) (by kernel_rfl) (by kernel_rfl) (fun _ _ h => h) (opS_nilCheck_pt rfl) ?_
   show AI _ _ _ _ _ _ #[true, true, true, true, true, true, true, true, true, true, true, true, true, false, false] _
   refine AI.take (i := 13) rfl rfl (by kernel_rfl) (by kernel_rfl) (by kernel_rfl) (fun _ _ h => h) (opS_fieldAddr_pt (n := 0) (by kernel_rfl) rfl) ?_
   show AI _ _ _ _ _ _ #[true, true, true, true, true, true, true, true, true, true, true, true, true, true, false] _
   refine AI.one (i := 14) (by kernel_rfl) rfl rfl ?_
   refine AIO.op0 (opR_store_pt (i := 0) (c := slE _ _ _) (by kernel_rfl) rfl rfl rfl rfl (Nat.le_of_ble_eq_true rfl)) ?_
   show AI _ _ _ _ _ _ #[true, true, true, true, true, true, true, true, true, true, true, true, true, true, true] _
   refine AI.done rfl ?_
   exact Exists.intro (x21, t19) ⟨H, WK.at [0, 0] (.cons (.refl _) (.cons (.refl _) (.cons (.refl _) (.nil _)))) rfl⟩
  ·
   refine AIO.op rfl (opR_load_pt (i := 0) Tryz.underlying9 rfl rfl rfl rfl) ?_
   show AI _ _ _ _ _ _ #[true, true, true, true, false, true, true, true, true, false, false, false, false, false, false] _
   refine AI.take (i := 9) rfl rfl (by kernel_rfl) (by kernel_rfl) (by kernel_rfl) (fun _ _ h => h) (g_cat rfl rfl g13 e15) ?_
   show AI _ _ _ _ _ _ #[true, true, true, true, false, true, true, true, true, true, false, false, false, false, false] _
   refine AI.take (i := 10) rfl rfl (by kernel_rfl) (by kernel_rfl) (by kernel_rfl) (fun _ _ h => h) (g_cat rfl rfl g16 e18) ?_
   show AI _ _ _ _ _ _ #[true, true, true, true, false, true, true, true, true, true, true, false, false, false, false] _
   refine AI.one (i := 4) (by kernel_rfl) rfl rfl ?_
   refine AIO.op rfl (opR_load_pt (i := 0) Tryz.underlying26 rfl rfl rfl rfl) ?_
   show AI _ _ _ _ _ _ #[true, true, true, true, true, true, true, true, true, true, true, false, false, false, false] _
   refine AI.one (i := 11) (by kernel_rfl) rfl rfl ?_
   refine AIO.opx rfl (g_append_str (bytes := 1) 1 Tryz.underlying26 Tryz.underlying9 rfl (by kernel_rfl) rfl rfl rfl rfl g20 e22) ?_
   rintro _ _ ⟨t23, rfl, rfl⟩
   show AI _ _ _ _ _ _ #[true, true, true, true, true, true, true, true, true, true, true, true, false, false, false] _
   refine AI.take (i := 12) rfl rfl (by kernel_rfl) (by kernel_rfl) (by kernel_rfl) (fun _ _ h => h) (opS_nilCheck_pt rfl) ?_
   show AI _ _ _ _ _ _ #[true, true, true, true, true, true, true, true, true, true, true, true, true, false, false] _
   refine AI.take (i := 13) rfl rfl (by kernel_rfl) (by kernel_rfl) (by kernel_rfl) (fun _ _ h => h) (opS_fieldAddr_pt (n := 0) (by kernel_rfl) rfl) ?_
   show AI _ _ _ _ _ _ #[true, true, true, true, true, true, true, true, true, true, true, true, true, true, false] _
   refine AI.one (i := 14) (by kernel_rfl) rfl rfl ?_
   refine AIO.op0 (opR_store_pt (i := 0) (c := slE _ _ _) (by kernel_rfl) rfl rfl rfl rfl (Nat.le_of_ble_eq_true rfl)) ?_
   show AI _ _ _ _ _ _ #[true, true, true, true, true, true, true, true, true, true, true, true, true, true, true] _
   refine AI.done rfl ?_
   exact Exists.intro (x21, t23) ⟨H, WK.at [0, 0] (.cons (.refl _) (.cons (.refl _) (.cons (.refl _) (.nil _)))) rfl⟩
 rintro ⟨y24, t25⟩ H
 replace H : part_put_j1 a6 x10 y24 = some r8 := H
 unfold part_put_j1 at H
 show AW _ _ _ _ _ _
 obtain ⟨g28, H⟩ := grd_s H
 obtain ⟨x29, e30, H⟩ := lt_s H
 obtain ⟨g32, H⟩ := grd_s H
 obtain ⟨x33, e34, H⟩ := lt_s H
 obtain ⟨g36, H⟩ := grd_s H
 obtain ⟨x37, e38, H⟩ := lt_s H
 refine AW.region ?_
 show AR _ _ _ _ _ [0, 1, 2, 3, 4, 5, 6, 7, 8, 9, 10, 11, 12] _
 refine sS rfl rfl rfl (opS_move (av := .pt _ _) rfl) ?_
 refine sS rfl rfl rfl (opS_move (av := .pt _ _) rfl) ?_
 refine sS rfl rfl rfl (opS_nilCheck_pt rfl) ?_
 refine sS rfl rfl rfl (opS_fieldAddr_pt (n := 0) (by kernel_rfl) rfl) ?_
 refine sR rfl rfl rfl (opR_load_pt (i := 0) Tryz.underlying26 rfl rfl rfl rfl) ?_
 refine sS rfl rfl rfl (opS_move (av := slE _ _ _) rfl) ?_
 refine sX rfl rfl rfl (g_append (E := Enc.byte) (bytes := 1) 1 Tryz.underlying26 Tryz.underlying26 rfl (by kernel_rfl) rfl rfl rfl rfl g28 e30) ?_
 rintro _ _ ⟨t27, rfl, rfl⟩
 refine sS rfl rfl rfl (opS_move (av := slE _ _ _) rfl) ?_
 refine sX rfl rfl rfl (g_append (E := Enc.byte) (bytes := 1) 1 Tryz.underlying26 Tryz.underlying26 rfl (by kernel_rfl) rfl rfl rfl rfl g32 e34) ?_
 rintro _ _ ⟨t31, rfl, rfl⟩
 refine sX rfl rfl rfl (g_append_str (bytes := 1) 1 Tryz.underlying26 Tryz.underlying9 rfl (by kernel_rfl) rfl rfl rfl rfl g36 e38) ?_
 rintro _ _ ⟨t35, rfl, rfl⟩
 refine sS rfl rfl rfl (opS_nilCheck_pt rfl) ?_
 refine sS rfl rfl rfl (opS_fieldAddr_pt (n := 0) (by kernel_rfl) rfl) ?_
 refine s0 rfl rfl (opR_store_pt (i := 0) (c := slE _ _ _) (by kernel_rfl) rfl rfl rfl rfl (Nat.le_of_ble_eq_true rfl)) ?_
 refine AR.nil ?_
 obtain rfl := Option.some.inj H
 exact And.intro rfl (Exists.intro _ (Exists.intro _ ⟨ResV.noneW rfl, Sub.at [0, 0] rfl, rfl, t35, rfl⟩))
set_option maxRecDepth 100000 in
set_option maxHeartbeats 1000000 in
theorem w_part_Join (F : Nat) (a1 : List (List UInt8)) (q2 : Option Nat) (a3 : List (List UInt8)) (q4 : Option Nat) (r5 : List UInt8) (r6 : List UInt8) (r7 : Int) (H : part_Join F a1 a3 = some (r5, r6, r7)) : ACalls Tryz.prog 10 [slE Enc.str a1 q2, slE (Enc.sl Enc.byte) a3 q4] [] (Ret (.tup [slE Enc.byte r5 none, S r6, i64 r7]) []) := by
 unfold part_Join at H
 refine ACalls.of_body Tryz.func10 rfl rfl ?_
 show AW _ _ 82 _ _ _
 refine AW.seq ?_
 refine AW.region ?_
 show AR _ _ _ _ _ [0, 1, 2] _
 refine sS rfl rfl rfl (asg rfl) ?_
 refine sS rfl rfl rfl (asg rfl) ?_
 refine sS rfl rfl rfl (asg rfl) ?_
 refine AR.nil ?_
 show AW _ _ _ _ _ _
 refine AW.seq ?_
 refine AW.seq ?_
 obtain ⟨x11, e12, H⟩ := bndc_s H
 refine AW.region ?_
 show AR _ _ _ _ _ [0, 1, 2, 3, 4, 5, 6, 7, 8, 9, 10, 11, 12, 13, 14, 15, 16, 17, 18] _
 refine sS rfl rfl rfl (opS_move (av := slE _ _ _) rfl) ?_
 refine sS rfl rfl rfl (opS_len_sl Tryz.underlying22 rfl) ?_
 refine sS rfl rfl rfl (opS_move (av := slE _ _ _) rfl) ?_
 refine sS rfl rfl rfl (opS_len_sl Tryz.underlying23 rfl) ?_
 refine sS rfl rfl rfl (opS_nei rfl rfl) ?_
 refine sS rfl rfl rfl (mv rfl) ?_
 refine AR.meet (l := [10, 11, 12, 13, 14, 15, 16, 17, 18]) 23 (B ((!decide ((a1.length : Int) = (a3.length : Int))) || (decide ((a3.length : Int) = 0)))) (fun K => ?_) ?_
 ·rcases Bool.eq_false_or_eq_true (!decide ((a1.length : Int) = (a3.length : Int))) with h8 | h8
  ·
   refine gF h8 rfl rfl rfl rfl rfl ?_
   refine gF h8 rfl rfl rfl rfl rfl ?_
   refine gF h8 rfl rfl rfl rfl rfl ?_
   refine sS rfl rfl rfl (opS_pick_t (av := .v _) rfl h8 rfl) ?_
   exact K _ 3 _ (B_congr (or_t h8)) rfl rfl
  ·
   refine gT h8 rfl rfl rfl rfl rfl rfl (AO.ops rfl rfl (opS_move (av := slE _ _ _) rfl) ?_)
   refine gT h8 rfl rfl rfl rfl rfl rfl (AO.ops rfl rfl (opS_len_sl Tryz.underlying23 rfl) ?_)
   refine gT h8 rfl rfl rfl rfl rfl rfl (AO.ops rfl rfl (opS_eqi rfl rfl) ?_)
   refine sS rfl rfl rfl (opS_pick_f (av := .v _) rfl h8 rfl) ?_
   exact K _ 3 _ (B_congr (or_f h8)) rfl rfl
 refine sS rfl rfl rfl (mv rfl) ?_
 refine AR.meet (l := [15, 16, 17, 18]) 28 (B (((!decide ((a1.length : Int) = (a3.length : Int))) || (decide ((a3.length : Int) = 0))) || (decide (8 < (a3.length : Int))))) (fun K => ?_) ?_
 ·rcases Bool.eq_false_or_eq_true ((!decide ((a1.length : Int) = (a3.length : Int))) || (decide ((a3.length : Int) = 0))) with h9 | h9
  ·
   refine gF h9 rfl rfl rfl rfl rfl ?_
   refine gF h9 rfl rfl rfl rfl rfl ?_
   refine gF h9 rfl rfl rfl rfl rfl ?_
   refine sS rfl rfl rfl (opS_pick_t (av := .v _) rfl h9 rfl) ?_
   exact K _ 3 _ (B_congr (or_t h9)) rfl rfl
  ·
   refine gT h9 rfl rfl rfl rfl rfl rfl (AO.ops rfl rfl (opS_move (av := slE _ _ _) rfl) ?_)
   refine gT h9 rfl rfl rfl rfl rfl rfl (AO.ops rfl rfl (opS_len_sl Tryz.underlying23 rfl) ?_)
   refine gT h9 rfl rfl rfl rfl rfl rfl (AO.ops rfl rfl (opS_gt rfl rfl) ?_)
   refine sS rfl rfl rfl (opS_pick_f (av := .v _) rfl h9 rfl) ?_
   exact K _ 3 _ (B_congr (or_f h9)) rfl rfl
 refine sS rfl rfl rfl (mv rfl) ?_
 refine AR.meet (l := []) 32 (B ((((!decide ((a1.length : Int) = (a3.length : Int))) || (decide ((a3.length : Int) = 0))) || (decide (8 < (a3.length : Int)))) || x11)) (fun K => ?_) ?_
 ·rcases Bool.eq_false_or_eq_true (((!decide ((a1.length : Int) = (a3.length : Int))) || (decide ((a3.length : Int) = 0))) || (decide (8 < (a3.length : Int)))) with h10 | h10
  ·
   refine gF h10 rfl rfl rfl rfl rfl ?_
   refine gF h10 rfl rfl rfl rfl rfl ?_
   refine sS rfl rfl rfl (opS_pick_t (av := .v _) rfl h10 rfl) ?_
   exact K _ 2 _ (B_congr (or_t h10)) rfl rfl
  ·
   refine gT h10 rfl rfl rfl rfl rfl rfl (AO.ops rfl rfl (opS_move (av := slE _ _ _) rfl) ?_)
   refine gT h10 rfl rfl rfl rfl rfl rfl (AO.callp rfl en20_parta rfl (w_part_ContainsK F a1 q2 x11 (e12 (nf h10))) ?_)
   refine sS rfl rfl rfl (opS_pick_f (av := .v _) rfl h10 rfl) ?_
   exact K _ 2 _ (B_congr (or_f h10)) rfl rfl
 refine AR.nil ?_
 show AW _ _ _ _ _ _
 refine AW.cond rfl (fun c13 => ?_) (fun c13 => ?_)
 ·replace H := cnd_t c13 H
  refine AW.seq ?_
  refine AW.region ?_
  show AR _ _ _ _ _ [0, 1, 2] _
  refine sS rfl rfl rfl (asg rfl) ?_
  refine sS rfl rfl rfl (asg rfl) ?_
  refine sS rfl rfl rfl (asg rfl) ?_
  refine AR.nil ?_
  show AW _ _ _ _ _ _
  refine AW.ret ?_
  obtain ⟨rfl, rfl, rfl⟩ := res3 H
  exact And.intro rfl (Exists.intro _ (Exists.intro _ ⟨ResV.threeW rfl (.nil _) (.refl _) (.refl _), Sub.at [] rfl, rfl, rfl⟩))
 ·replace H := cnd_f c13 H
  refine AW.skip ?_
  show AW _ _ _ _ _ _
  refine AW.seq ?_
  refine AW.region ?_
  show AR _ _ _ _ _ [0] _
  refine sS rfl rfl rfl (asg rfl) ?_
  refine AR.nil ?_
  show AW _ _ _ _ _ _
  refine AW.nil_grows 7 1 26 rfl fun t14 => ?_
  show AW _ _ _ _ _ ⟨(7, slE (Enc.sl Enc.byte) [] (some t14)) :: _, _, _⟩
  refine AW.cut (X := (List (List UInt8)) × Nat) (fun (y31, t32) => ⟨[(0, slE Enc.str a1 q2), (7, slE (Enc.sl Enc.byte) y31 (some t32))], [], [.tok t32 26]⟩) (fun (y31, t32) => part_Join_j2 F a1 y31 = some (r5, r6, r7)) ?_ ?_
  ·
   refine AW.seq ?_
   refine AW.region ?_
   show AR _ _ _ _ _ [0, 1, 2] _
   refine sS rfl rfl rfl (opS_move (av := slE _ _ _) rfl) ?_
   refine sS rfl rfl rfl (opS_len_sl Tryz.underlying23 rfl) ?_
   refine sS rfl rfl rfl (mv rfl) ?_
   refine AR.nil ?_
   show AW _ _ _ _ _ _
   refine AW.block ?_
   refine AW.loop (X := Nat × (List (List UInt8)) × Nat × Int) (fun (n19, y15, t16, y17) => ⟨[(0, slE Enc.str a1 q2), (7, slE (Enc.sl Enc.byte) y15 (some t16)), (33, slE (Enc.sl Enc.byte) a3 q4), (34, i64 (a3.length : Int)), (35, i64 y17)], [], [.tok t16 26]⟩) (fun (n19, y15, t16, y17) => part_Join_L2 F a1 a3 n19 (y15, y17) = some (r5, r6, r7)) (fun (n19, y15, t16, y17) => n19) (F, [], t14, 0) H (WK.at [0] (.cons (.refl _) (.cons (.refl _) (.cons (.refl _) (.cons (.refl _) (.cons (.refl _) (.nil _)))))) rfl) ?_
   rintro ⟨n19, y15, t16, y17⟩ H
   obtain ⟨n19, rfl, H⟩ := loop_s H
   replace H : part_Join_B2 F a1 a3 (part_Join_L2 F a1 a3 n19) y15 y17 = some (r5, r6, r7) := H
   unfold part_Join_B2 at H
   show AW _ _ _ _ _ _
   refine AW.seq ?_
   refine AW.region ?_
   show AR _ _ _ _ _ [0] _
   refine sS rfl rfl rfl (opS_lt rfl rfl) ?_
   refine AR.nil ?_
   show AW _ _ _ _ _ _
   refine AW.seq ?_
   refine AW.cond rfl (fun c20 => ?_) (fun c20 => ?_)
   ·replace H := cnd_t c20 H
    refine AW.skip ?_
    show AW _ _ _ _ _ _
    refine AW.seq ?_
    refine AW.block ?_
    refine AW.seq ?_
    obtain ⟨g21, H⟩ := grd_s H
    obtain ⟨x22, e23, H⟩ := lt_s H
    refine AW.region ?_
    show AR _ _ _ _ _ [0, 1, 2] _
    refine sS rfl rfl rfl (g_indexAddr (E := (Enc.sl Enc.byte)) Tryz.underlying23 (by kernel_rfl) rfl rfl g21 e23) ?_
    refine sS rfl rfl rfl (opS_load_cp Tryz.underlying26 rfl rfl) ?_
    refine sS rfl rfl rfl (opS_assign (av := slE _ _ _) rfl) ?_
    refine AR.nil ?_
    show AW _ _ _ _ _ _
    obtain ⟨x24, e25, H⟩ := bnd_s H
    obtain ⟨g27, H⟩ := grd_s H
    obtain ⟨x28, e29, H⟩ := lt_s H
    refine AW.region ?_
    show AR _ _ _ _ _ [0, 1, 2, 3, 4, 5] _
    refine sS rfl rfl rfl (opS_move (av := slE _ _ _) rfl) ?_
    refine sS rfl rfl rfl (opS_move (av := slE _ _ _) rfl) ?_
    refine AR.run rfl rfl (AO.callp rfl en23_parta rfl (w_qp_Encode F x22 none x24 e25) ?_)
    refine sR rfl rfl rfl (opR_buildE (E := (Enc.sl Enc.byte)) (bytes := 24) (xs := [.tmp 41]) (l := ([x24] : List (List UInt8))) Tryz.underlying23 (by kernel_rfl) rfl rfl (by decide) rfl rfl) ?_
    refine sX rfl rfl rfl (g_append (E := (Enc.sl Enc.byte)) (bytes := 24) 0 Tryz.underlying23 Tryz.underlying23 rfl (by kernel_rfl) rfl rfl rfl rfl g27 e29) ?_
    rintro _ _ ⟨t26, rfl, rfl⟩
    refine sS rfl rfl rfl (opS_assign (av := slE _ _ _) rfl) ?_
    refine AR.nil ?_
    show AW _ _ _ _ _ _
    obtain ⟨g30, H⟩ := grd_s H
    refine AW.region ?_
    show AR _ _ _ _ _ [0, 1] _
    refine sS rfl rfl rfl (g_add rfl rfl g30) ?_
    refine sS rfl rfl rfl (mv rfl) ?_
    refine AR.nil ?_
    exact Exists.intro (n19, x28, t26, y17 + 1) ⟨H, Nat.lt_succ_self _, WK.at [0] (.cons (.refl _) (.cons (.refl _) (.cons (.refl _) (.cons (.refl _) (.cons (.refl _) (.nil _)))))) rfl⟩
   ·replace H := cnd_f c20 H
    refine AW.exit ?_
    exact Exists.intro (y15, t16) ⟨H, WK.at [0] (.cons (.refl _) (.cons (.refl _) (.nil _))) rfl⟩
  rintro ⟨y31, t32⟩ H
  replace H : part_Join_j2 F a1 y31 = some (r5, r6, r7) := H
  unfold part_Join_j2 at H
  show AW _ _ _ _ _ _
  refine AW.seq ?_
  obtain ⟨x34, e35, H⟩ := bnd_s H
  refine AW.region ?_
  show AR _ _ _ _ _ [0, 1, 2, 3, 4] _
  refine sS rfl rfl rfl (opS_move (av := slE _ _ _) rfl) ?_
  refine AR.run rfl rfl (AO.callp rfl en12_parta rfl (w_part_Boundary F y31 (some t32) x34 e35) ?_)
  refine sS rfl rfl rfl (g_build (zs := [.slice none 0 0, .string ⟨#[]⟩]) (ps := [(0, 1), (1, 1)]) (cs := [nilS, S x34]) (by kernel_rfl) rfl rfl) ?_
  refine sX rfl rfl rfl (opX_box rfl (.inr ⟨_, rfl⟩)) ?_
  rintro _ _ ⟨o36, rfl, rfl⟩
  refine sS rfl rfl rfl (opS_assign (av := .pt _ _) rfl) ?_
  refine AR.nil ?_
  show AW _ _ _ _ _ _
  refine AW.nil_objAt 0 0 1 5 rfl rfl fun t37 => ?_
  show AW _ _ _ _ _ ⟨_, _, [.tok t37 5, .obj o36 [slE Enc.byte [] (some t37), S x34], .tok t32 26]⟩
  refine AW.seq ?_
  refine AW.region ?_
  show AR _ _ _ _ _ [0, 1, 2] _
  refine sS rfl rfl rfl (opS_move (av := .pt _ _) rfl) ?_
  refine sS rfl rfl rfl (opS_makeFunc rfl rfl) ?_
  refine sS rfl rfl rfl (opS_assign (av := .fn _ _ _) rfl) ?_
  refine AR.nil ?_
  show AW _ _ _ _ _ _
  refine AW.cut (X := (List UInt8) × Nat) (fun (y54, t55) => ⟨[(10, .pt o36 0)], [], [.obj o36 [slE Enc.byte y54 (some t55), S x34], .tok t55 5]⟩) (fun (y54, t55) => part_Join_j1 x34 y54 = some (r5, r6, r7)) ?_ ?_
  ·
   refine AW.seq ?_
   refine AW.region ?_
   show AR _ _ _ _ _ [0, 1, 2] _
   refine sS rfl rfl rfl (opS_move (av := slE _ _ _) rfl) ?_
   refine sS rfl rfl rfl (opS_len_sl Tryz.underlying23 rfl) ?_
   refine sS rfl rfl rfl (mv rfl) ?_
   refine AR.nil ?_
   show AW _ _ _ _ _ _
   refine AW.block ?_
   refine AW.loop (X := Nat × Int × (List UInt8) × Nat) (fun (n42, y38, y39, t40) => ⟨[(0, slE Enc.str a1 q2), (10, .pt o36 0), (11, .fn (.func 24) [.pt o36 0] []), (51, slE (Enc.sl Enc.byte) y31 (some t32)), (52, i64 (y31.length : Int)), (53, i64 y38)], [], [.obj o36 [slE Enc.byte y39 (some t40), S x34], .tok t32 26, .tok t40 5]⟩) (fun (n42, y38, y39, t40) => part_Join_L1 F a1 y31 x34 n42 (y38, y39) = some (r5, r6, r7)) (fun (n42, y38, y39, t40) => n42) (F, 0, [], t37) H (WK.at [1, 1, 0] (.cons (.refl _) (.cons (.refl _) (.cons (.refl _) (.cons (.refl _) (.cons (.refl _) (.cons (.refl _) (.nil _))))))) rfl) ?_
   rintro ⟨n42, y38, y39, t40⟩ H
   obtain ⟨n42, rfl, H⟩ := loop_s H
   replace H : part_Join_B1 F a1 y31 x34 (part_Join_L1 F a1 y31 x34 n42) y38 y39 = some (r5, r6, r7) := H
   unfold part_Join_B1 at H
   show AW _ _ _ _ _ _
   refine AW.seq ?_
   refine AW.region ?_
   show AR _ _ _ _ _ [0] _
   refine sS rfl rfl rfl (opS_lt rfl rfl) ?_
   refine AR.nil ?_
   show AW _ _ _ _ _ _
   refine AW.seq ?_
   refine AW.cond rfl (fun c43 => ?_) (fun c43 => ?_)
   ·replace H := cnd_t c43 H
    refine AW.skip ?_
    show AW _ _ _ _ _ _
    refine AW.seq ?_
    refine AW.block ?_
    refine AW.seq ?_
    obtain ⟨g44, H⟩ := grd_s H
    obtain ⟨x45, e46, H⟩ := lt_s H
    refine AW.region ?_
    show AR _ _ _ _ _ [0, 1, 2, 3, 4] _
    refine sS rfl rfl rfl (mv rfl) ?_
    refine sS rfl rfl rfl (g_indexAddr (E := (Enc.sl Enc.byte)) Tryz.underlying23 (by kernel_rfl) rfl rfl g44 e46) ?_
    refine sS rfl rfl rfl (opS_load_cp Tryz.underlying26 rfl rfl) ?_
    refine sS rfl rfl rfl (asg rfl) ?_
    refine sS rfl rfl rfl (opS_assign (av := slE _ _ _) rfl) ?_
    refine AR.nil ?_
    show AW _ _ _ _ _ _
    obtain ⟨g47, H⟩ := grd_s H
    obtain ⟨x48, e49, H⟩ := lt_s H
    obtain ⟨x50, e51, H⟩ := bnd_s H
    refine AW.region ?_
    show AR _ _ _ _ _ [0, 1, 2, 3, 4, 5, 6] _
    refine sS rfl rfl rfl (opS_move (av := .fn _ _ _) rfl) ?_
    refine sS rfl rfl rfl (opS_move (av := slE _ _ _) rfl) ?_
    refine sS rfl rfl rfl (mv rfl) ?_
    refine sS rfl rfl rfl (g_indexAddr (E := Enc.str) Tryz.underlying22 (by kernel_rfl) rfl rfl g47 e49) ?_
    refine sS rfl rfl rfl (opS_load_cp Tryz.underlying9 rfl rfl) ?_
    refine sS rfl rfl rfl (opS_move (av := slE _ _ _) rfl) ?_
    refine AR.run rfl rfl (AO.callFAt [0, 1] rfl (.inl rfl) en24_parta rfl (w_part_put F o36 y39 t40 x34 x48 x45 none x50 e51) rfl (fun c A' h => by cases h.1) ?_)
    rintro av A' ⟨h, t52, rfl⟩; cases h
    refine AR.nil ?_
    show AW _ _ _ _ _ _
    obtain ⟨g53, H⟩ := grd_s H
    refine AW.region ?_
    show AR _ _ _ _ _ [0, 1] _
    refine sS rfl rfl rfl (g_add rfl rfl g53) ?_
    refine sS rfl rfl rfl (mv rfl) ?_
    refine AR.nil ?_
    exact Exists.intro (n42, y38 + 1, x50, t52) ⟨H, Nat.lt_succ_self _, WK.at [0, 1, 0] (.cons (.refl _) (.cons (.refl _) (.cons (.refl _) (.cons (.refl _) (.cons (.refl _) (.cons (.refl _) (.nil _))))))) rfl⟩
   ·replace H := cnd_f c43 H
    refine AW.exit ?_
    exact Exists.intro (y39, t40) ⟨H, WK.at [0, 1] (.cons (.refl _) (.nil _)) rfl⟩
  rintro ⟨y54, t55⟩ H
  replace H : part_Join_j1 x34 y54 = some (r5, r6, r7) := H
  unfold part_Join_j1 at H
  show AW _ _ _ _ _ _
  refine AW.seq ?_
  obtain ⟨g57, H⟩ := grd_s H
  obtain ⟨x58, e59, H⟩ := lt_s H
  obtain ⟨g60, H⟩ := grd_s H
  obtain ⟨x61, e62, H⟩ := lt_s H
  obtain ⟨g63, H⟩ := grd_s H
  obtain ⟨x64, e65, H⟩ := lt_s H
  obtain ⟨g67, H⟩ := grd_s H
  obtain ⟨x68, e69, H⟩ := lt_s H
  refine AW.region_draw (by kernel_rfl) ?_
  show AI _ _ _ _ _ 19 (Array.replicate 19 false) _
  refine AI.take (i := 0) rfl rfl (by kernel_rfl) (by kernel_rfl) (by kernel_rfl) (fun _ _ h => h) (opS_move (av := .pt _ _) rfl) ?_
  show AI _ _ _ _ _ _ #[true, false, false, false, false, false, false, false, false, false, false, false, false, false, false, false, false, false, false] _
  refine AI.take (i := 1) rfl rfl (by kernel_rfl) (by kernel_rfl) (by kernel_rfl) (fun _ _ h => h) (opS_nilCheck_pt rfl) ?_
  show AI _ _ _ _ _ _ #[true, true, false, false, false, false, false, false, false, false, false, false, false, false, false, false, false, false, false] _
  refine AI.take (i := 2) rfl rfl (by kernel_rfl) (by kernel_rfl) (by kernel_rfl) (fun _ _ h => h) (opS_fieldAddr_pt (n := 0) (by kernel_rfl) rfl) ?_
  show AI _ _ _ _ _ _ #[true, true, true, false, false, false, false, false, false, false, false, false, false, false, false, false, false, false, false] _
  refine AI.take (i := 4) rfl rfl (by kernel_rfl) (by kernel_rfl) (by kernel_rfl) (fun _ _ h => h) (opS_move (av := .pt _ _) rfl) ?_
  show AI _ _ _ _ _ _ #[true, true, true, false, true, false, false, false, false, false, false, false, false, false, false, false, false, false, false] _
  refine AI.take (i := 5) rfl rfl (by kernel_rfl) (by kernel_rfl) (by kernel_rfl) (fun _ _ h => h) (opS_nilCheck_pt rfl) ?_
  show AI _ _ _ _ _ _ #[true, true, true, false, true, true, false, false, false, false, false, false, false, false, false, false, false, false, false] _
  refine AI.take (i := 6) rfl rfl (by kernel_rfl) (by kernel_rfl) (by kernel_rfl) (fun _ _ h => h) (opS_fieldAddr_pt (n := 1) (by kernel_rfl) rfl) ?_
  show AI _ _ _ _ _ _ #[true, true, true, false, true, true, true, false, false, false, false, false, false, false, false, false, false, false, false] _
  refine AI.take (i := 12) rfl rfl (by kernel_rfl) (by kernel_rfl) (by kernel_rfl) (fun _ _ h => h) (opS_move (av := .pt _ _) rfl) ?_
  show AI _ _ _ _ _ _ #[true, true, true, false, true, true, true, false, false, false, false, false, true, false, false, false, false, false, false] _
  refine AI.take (i := 13) rfl rfl (by kernel_rfl) (by kernel_rfl) (by kernel_rfl) (fun _ _ h => h) (opS_nilCheck_pt rfl) ?_
  show AI _ _ _ _ _ _ #[true, true, true, false, true, true, true, false, false, false, false, false, true, true, false, false, false, false, false] _
  refine AI.take (i := 14) rfl rfl (by kernel_rfl) (by kernel_rfl) (by kernel_rfl) (fun _ _ h => h) (opS_fieldAddr_pt (n := 1) (by kernel_rfl) rfl) ?_
  show AI _ _ _ _ _ _ #[true, true, true, false, true, true, true, false, false, false, false, false, true, true, true, false, false, false, false] _
  refine AI.three (i := 3) (j := 7) (l := 15) (by kernel_rfl) rfl rfl rfl rfl rfl rfl ?_ ?_ ?_
  ·
   refine AIO.op rfl (opR_load_pt (i := 0) Tryz.underlying26 rfl rfl rfl rfl) ?_
   show AI _ _ _ _ _ _ #[true, true, true, true, true, true, true, false, false, false, false, false, true, true, true, false, false, false, false] _
   refine AI.two (i := 7) (j := 15) (by kernel_rfl) rfl rfl rfl rfl ?_ ?_
   ·
    refine AIO.op rfl (opR_load_pt (i := 0) Tryz.underlying9 rfl rfl rfl rfl) ?_
    show AI _ _ _ _ _ _ #[true, true, true, true, true, true, true, true, false, false, false, false, true, true, true, false, false, false, false] _
    refine AI.take (i := 8) rfl rfl (by kernel_rfl) (by kernel_rfl) (by kernel_rfl) (fun _ _ h => h) (g_cat rfl rfl g57 e59) ?_
    show AI _ _ _ _ _ _ #[true, true, true, true, true, true, true, true, true, false, false, false, true, true, true, false, false, false, false] _
    refine AI.take (i := 9) rfl rfl (by kernel_rfl) (by kernel_rfl) (by kernel_rfl) (fun _ _ h => h) (g_cat rfl rfl g60 e62) ?_
    show AI _ _ _ _ _ _ #[true, true, true, true, true, true, true, true, true, true, false, false, true, true, true, false, false, false, false] _
    refine AI.take (i := 10) rfl rfl (by kernel_rfl) (by kernel_rfl) (by kernel_rfl) (fun _ _ h => h) (g_cat rfl rfl g63 e65) ?_
    show AI _ _ _ _ _ _ #[true, true, true, true, true, true, true, true, true, true, true, false, true, true, true, false, false, false, false] _
    refine AI.two (i := 11) (j := 15) (by kernel_rfl) rfl rfl rfl rfl ?_ ?_
    ·
     refine AIO.opx rfl (g_append_str (bytes := 1) 1 Tryz.underlying26 Tryz.underlying9 rfl (by kernel_rfl) rfl rfl rfl rfl g67 e69) ?_
     rintro _ _ ⟨t66, rfl, rfl⟩
     show AI _ _ _ _ _ _ #[true, true, true, true, true, true, true, true, true, true, true, true, true, true, true, false, false, false, false] _
     refine AI.take (i := 16) rfl rfl (by kernel_rfl) (by kernel_rfl) (by kernel_rfl) (fun _ _ h => h) (opS_assign (av := slE _ _ _) rfl) ?_
     show AI _ _ _ _ _ _ #[true, true, true, true, true, true, true, true, true, true, true, true, true, true, true, false, true, false, false] _
     refine AI.one (i := 15) (by kernel_rfl) rfl rfl ?_
     refine AIO.op rfl (opR_load_pt (i := 0) Tryz.underlying9 rfl rfl rfl rfl) ?_
     show AI _ _ _ _ _ _ #[true, true, true, true, true, true, true, true, true, true, true, true, true, true, true, true, true, false, false] _
     refine AI.take (i := 17) rfl rfl (by kernel_rfl) (by kernel_rfl) (by kernel_rfl) (fun _ _ h => h) (asg rfl) ?_
     show AI _ _ _ _ _ _ #[true, true, true, true, true, true, true, true, true, true, true, true, true, true, true, true, true, true, false] _
     refine AI.take (i := 18) rfl rfl (by kernel_rfl) (by kernel_rfl) (by kernel_rfl) (fun _ _ h => h) (asg rfl) ?_
     show AI _ _ _ _ _ _ #[true, true, true, true, true, true, true, true, true, true, true, true, true, true, true, true, true, true, true] _
     refine AI.done rfl ?_
     show AW _ _ _ _ _ _
     refine AW.ret ?_
     obtain ⟨rfl, rfl, rfl⟩ := res3 H
     exact And.intro rfl (Exists.intro _ (Exists.intro _ ⟨ResV.threeW rfl (.tok _ _ _) (.refl _) (.refl _), Sub.at [] rfl, rfl, rfl⟩))
    ·
     refine AIO.op rfl (opR_load_pt (i := 0) Tryz.underlying9 rfl rfl rfl rfl) ?_
     show AI _ _ _ _ _ _ #[true, true, true, true, true, true, true, true, true, true, true, false, true, true, true, true, false, false, false] _
     refine AI.one (i := 11) (by kernel_rfl) rfl rfl ?_
     refine AIO.opx rfl (g_append_str (bytes := 1) 1 Tryz.underlying26 Tryz.underlying9 rfl (by kernel_rfl) rfl rfl rfl rfl g67 e69) ?_
     rintro _ _ ⟨t70, rfl, rfl⟩
     show AI _ _ _ _ _ _ #[true, true, true, true, true, true, true, true, true, true, true, true, true, true, true, true, false, false, false] _
     refine AI.take (i := 16) rfl rfl (by kernel_rfl) (by kernel_rfl) (by kernel_rfl) (fun _ _ h => h) (opS_assign (av := slE _ _ _) rfl) ?_
     show AI _ _ _ _ _ _ #[true, true, true, true, true, true, true, true, true, true, true, true, true, true, true, true, true, false, false] _
     refine AI.take (i := 17) rfl rfl (by kernel_rfl) (by kernel_rfl) (by kernel_rfl) (fun _ _ h => h) (asg rfl) ?_
     show AI _ _ _ _ _ _ #[true, true, true, true, true, true, true, true, true, true, true, true, true, true, true, true, true, true, false] _
     refine AI.take (i := 18) rfl rfl (by kernel_rfl) (by kernel_rfl) (by kernel_rfl) (fun _ _ h => h) (asg rfl) ?_
     show AI _ _ _ _ _ _ #[true, true, true, true, true, true, true, true, true, true, true, true, true, true, true, true, true, true, true] _
     refine AI.done rfl ?_
     show AW _ _ _ _ _ _
     refine AW.ret ?_
     obtain ⟨rfl, rfl, rfl⟩ := res3 H
     exact And.intro rfl (Exists.intro _ (Exists.intro _ ⟨ResV.threeW rfl (.tok _ _ _) (.refl _) (.refl _), Sub.at [] rfl, rfl, rfl⟩))
   ·
    refine AIO.op rfl (opR_load_pt (i := 0) Tryz.underlying9 rfl rfl rfl rfl) ?_
    show AI _ _ _ _ _ _ #[true, true, true, true, true, true, true, false, false, false, false, false, true, true, true, true, false, false, false] _
    refine AI.one (i := 7) (by kernel_rfl) rfl rfl ?_
    refine AIO.op rfl (opR_load_pt (i := 0) Tryz.underlying9 rfl rfl rfl rfl) ?_
    show AI _ _ _ _ _ _ #[true, true, true, true, true, true, true, true, false, false, false, false, true, true, true, true, false, false, false] _
    refine AI.take (i := 8) rfl rfl (by kernel_rfl) (by kernel_rfl) (by kernel_rfl) (fun _ _ h => h) (g_cat rfl rfl g57 e59) ?_
    show AI _ _ _ _ _ _ #[true, true, true, true, true, true, true, true, true, false, false, false, true, true, true, true, false, false, false] _
    refine AI.take (i := 9) rfl rfl (by kernel_rfl) (by kernel_rfl) (by kernel_rfl) (fun _ _ h => h) (g_cat rfl rfl g60 e62) ?_
    show AI _ _ _ _ _ _ #[true, true, true, true, true, true, true, true, true, true, false, false, true, true, true, true, false, false, false] _
    refine AI.take (i := 10) rfl rfl (by kernel_rfl) (by kernel_rfl) (by kernel_rfl) (fun _ _ h => h) (g_cat rfl rfl g63 e65) ?_
    show AI _ _ _ _ _ _ #[true, true, true, true, true, true, true, true, true, true, true, false, true, true, true, true, false, false, false] _
    refine AI.one (i := 11) (by kernel_rfl) rfl rfl ?_
    refine AIO.opx rfl (g_append_str (bytes := 1) 1 Tryz.underlying26 Tryz.underlying9 rfl (by kernel_rfl) rfl rfl rfl rfl g67 e69) ?_
    rintro _ _ ⟨t71, rfl, rfl⟩
    show AI _ _ _ _ _ _ #[true, true, true, true, true, true, true, true, true, true, true, true, true, true, true, true, false, false, false] _
    refine AI.take (i := 16) rfl rfl (by kernel_rfl) (by kernel_rfl) (by kernel_rfl) (fun _ _ h => h) (opS_assign (av := slE _ _ _) rfl) ?_
    show AI _ _ _ _ _ _ #[true, true, true, true, true, true, true, true, true, true, true, true, true, true, true, true, true, false, false] _
    refine AI.take (i := 17) rfl rfl (by kernel_rfl) (by kernel_rfl) (by kernel_rfl) (fun _ _ h => h) (asg rfl) ?_
    show AI _ _ _ _ _ _ #[true, true, true, true, true, true, true, true, true, true, true, true, true, true, true, true, true, true, false] _
    refine AI.take (i := 18) rfl rfl (by kernel_rfl) (by kernel_rfl) (by kernel_rfl) (fun _ _ h => h) (asg rfl) ?_
    show AI _ _ _ _ _ _ #[true, true, true, true, true, true, true, true, true, true, true, true, true, true, true, true, true, true, true] _
    refine AI.done rfl ?_
    show AW _ _ _ _ _ _
    refine AW.ret ?_
    obtain ⟨rfl, rfl, rfl⟩ := res3 H
    exact And.intro rfl (Exists.intro _ (Exists.intro _ ⟨ResV.threeW rfl (.tok _ _ _) (.refl _) (.refl _), Sub.at [] rfl, rfl, rfl⟩))
  ·
   refine AIO.op rfl (opR_load_pt (i := 0) Tryz.underlying9 rfl rfl rfl rfl) ?_
   show AI _ _ _ _ _ _ #[true, true, true, false, true, true, true, true, false, false, false, false, true, true, true, false, false, false, false] _
   refine AI.take (i := 8) rfl rfl (by kernel_rfl) (by kernel_rfl) (by kernel_rfl) (fun _ _ h => h) (g_cat rfl rfl g57 e59) ?_
   show AI _ _ _ _ _ _ #[true, true, true, false, true, true, true, true, true, false, false, false, true, true, true, false, false, false, false] _
   refine AI.take (i := 9) rfl rfl (by kernel_rfl) (by kernel_rfl) (by kernel_rfl) (fun _ _ h => h) (g_cat rfl rfl g60 e62) ?_
   show AI _ _ _ _ _ _ #[true, true, true, false, true, true, true, true, true, true, false, false, true, true, true, false, false, false, false] _
   refine AI.take (i := 10) rfl rfl (by kernel_rfl) (by kernel_rfl) (by kernel_rfl) (fun _ _ h => h) (g_cat rfl rfl g63 e65) ?_
   show AI _ _ _ _ _ _ #[true, true, true, false, true, true, true, true, true, true, true, false, true, true, true, false, false, false, false] _
   refine AI.two (i := 3) (j := 15) (by kernel_rfl) rfl rfl rfl rfl ?_ ?_
   ·
    refine AIO.op rfl (opR_load_pt (i := 0) Tryz.underlying26 rfl rfl rfl rfl) ?_
    show AI _ _ _ _ _ _ #[true, true, true, true, true, true, true, true, true, true, true, false, true, true, true, false, false, false, false] _
    refine AI.two (i := 11) (j := 15) (by kernel_rfl) rfl rfl rfl rfl ?_ ?_
    ·
     refine AIO.opx rfl (g_append_str (bytes := 1) 1 Tryz.underlying26 Tryz.underlying9 rfl (by kernel_rfl) rfl rfl rfl rfl g67 e69) ?_
     rintro _ _ ⟨t72, rfl, rfl⟩
     show AI _ _ _ _ _ _ #[true, true, true, true, true, true, true, true, true, true, true, true, true, true, true, false, false, false, false] _
     refine AI.take (i := 16) rfl rfl (by kernel_rfl) (by kernel_rfl) (by kernel_rfl) (fun _ _ h => h) (opS_assign (av := slE _ _ _) rfl) ?_
     show AI _ _ _ _ _ _ #[true, true, true, true, true, true, true, true, true, true, true, true, true, true, true, false, true, false, false] _
     refine AI.one (i := 15) (by kernel_rfl) rfl rfl ?_
     refine AIO.op rfl (opR_load_pt (i := 0) Tryz.underlying9 rfl rfl rfl rfl) ?_
     show AI _ _ _ _ _ _ #[true, true, true, true, true, true, true, true, true, true, true, true, true, true, true, true, true, false, false] _
     refine AI.take (i := 17) rfl rfl (by kernel_rfl) (by kernel_rfl) (by kernel_rfl) (fun _ _ h => h) (asg rfl) ?_
     show AI _ _ _ _ _ _ #[true, true, true, true, true, true, true, true, true, true, true, true, true, true, true, true, true, true, false] _
     refine AI.take (i := 18) rfl rfl (by kernel_rfl) (by kernel_rfl) (by kernel_rfl) (fun _ _ h => h) (asg rfl) ?_
     show AI _ _ _ _ _ _ #[true, true, true, true, true, true, true, true, true, true, true, true, true, true, true, true, true, true, true] _
     refine AI.done rfl ?_
     show AW _ _ _ _ _ _
     refine AW.ret ?_
     obtain ⟨rfl, rfl, rfl⟩ := res3 H
     exact And.intro rfl (Exists.intro _ (Exists.intro _ ⟨ResV.threeW rfl (.tok _ _ _) (.refl _) (.refl _), Sub.at [] rfl, rfl, rfl⟩))
    ·
     refine AIO.op rfl (opR_load_pt (i := 0) Tryz.underlying9 rfl rfl rfl rfl) ?_
     show AI _ _ _ _ _ _ #[true, true, true, true, true, true, true, true, true, true, true, false, true, true, true, true, false, false, false] _
     refine AI.one (i := 11) (by kernel_rfl) rfl rfl ?_
     refine AIO.opx rfl (g_append_str (bytes := 1) 1 Tryz.underlying26 Tryz.underlying9 rfl (by kernel_rfl) rfl rfl rfl rfl g67 e69) ?_
     rintro _ _ ⟨t73, rfl, rfl⟩
     show AI _ _ _ _ _ _ #[true, true, true, true, true, true, true, true, true, true, true, true, true, true, true, true, false, false, false] _
     refine AI.take (i := 16) rfl rfl (by kernel_rfl) (by kernel_rfl) (by kernel_rfl) (fun _ _ h => h) (opS_assign (av := slE _ _ _) rfl) ?_
     show AI _ _ _ _ _ _ #[true, true, true, true, true, true, true, true, true, true, true, true, true, true, true, true, true, false, false] _
     refine AI.take (i := 17) rfl rfl (by kernel_rfl) (by kernel_rfl) (by kernel_rfl) (fun _ _ h => h) (asg rfl) ?_
     show AI _ _ _ _ _ _ #[true, true, true, true, true, true, true, true, true, true, true, true, true, true, true, true, true, true, false] _
     refine AI.take (i := 18) rfl rfl (by kernel_rfl) (by kernel_rfl) (by kernel_rfl) (fun _ _ h => h) (asg rfl) ?_
     show AI _ _ _ _ _ _ #[true, true, true, true, true, true, true, true, true, true, true, true, true, true, true, true, true, true, true] _
     refine AI.done rfl ?_
     show AW _ _ _ _ _ _
     refine AW.ret ?_
     obtain ⟨rfl, rfl, rfl⟩ := res3 H
     exact And.intro rfl (Exists.intro _ (Exists.intro _ ⟨ResV.threeW rfl (.tok _ _ _) (.refl _) (.refl _), Sub.at [] rfl, rfl, rfl⟩))
   ·
    refine AIO.op rfl (opR_load_pt (i := 0) Tryz.underlying9 rfl rfl rfl rfl) ?_
    show AI _ _ _ _ _ _ #[true, true, true, false, true, true, true, true, true, true, true, false, true, true, true, true, false, false, false] _
    refine AI.one (i := 3) (by kernel_rfl) rfl rfl ?_
    refine AIO.op rfl (opR_load_pt (i := 0) Tryz.underlying26 rfl rfl rfl rfl) ?_
    show AI _ _ _ _ _ _ #[true, true, true, true, true, true, true, true, true, true, true, false, true, true, true, true, false, false, false] _
    refine AI.one (i := 11) (by kernel_rfl) rfl rfl ?_
    refine AIO.opx rfl (g_append_str (bytes := 1) 1 Tryz.underlying26 Tryz.underlying9 rfl (by kernel_rfl) rfl rfl rfl rfl g67 e69) ?_
    rintro _ _ ⟨t74, rfl, rfl⟩
    show AI _ _ _ _ _ _ #[true, true, true, true, true, true, true, true, true, true, true, true, true, true, true, true, false, false, false] _
    refine AI.take (i := 16) rfl rfl (by kernel_rfl) (by kernel_rfl) (by kernel_rfl) (fun _ _ h => h) (opS_assign (av := slE _ _ _) rfl) ?_
    show AI _ _ _ _ _ _ #[true, true, true, true, true, true, true, true, true, true, true, true, true, true, true, true, true, false, false] _
    refine AI.take (i := 17) rfl rfl (by kernel_rfl) (by kernel_rfl) (by kernel_rfl) (fun _ _ h => h) (asg rfl) ?_
    show AI _ _ _ _ _ _ #[true, true, true, true, true, true, true, true, true, true, true, true, true, true, true, true, true, true, false] _
    refine AI.take (i := 18) rfl rfl (by kernel_rfl) (by kernel_rfl) (by kernel_rfl) (fun _ _ h => h) (asg rfl) ?_
    show AI _ _ _ _ _ _ #[true, true, true, true, true, true, true, true, true, true, true, true, true, true, true, true, true, true, true] _
    refine AI.done rfl ?_
    show AW _ _ _ _ _ _
    refine AW.ret ?_
    obtain ⟨rfl, rfl, rfl⟩ := res3 H
    exact And.intro rfl (Exists.intro _ (Exists.intro _ ⟨ResV.threeW rfl (.tok _ _ _) (.refl _) (.refl _), Sub.at [] rfl, rfl, rfl⟩))
  ·
   refine AIO.op rfl (opR_load_pt (i := 0) Tryz.underlying9 rfl rfl rfl rfl) ?_
   show AI _ _ _ _ _ _ #[true, true, true, false, true, true, true, false, false, false, false, false, true, true, true, true, false, false, false] _
   refine AI.two (i := 3) (j := 7) (by kernel_rfl) rfl rfl rfl rfl ?_ ?_
   ·
    refine AIO.op rfl (opR_load_pt (i := 0) Tryz.underlying26 rfl rfl rfl rfl) ?_
    show AI _ _ _ _ _ _ #[true, true, true, true, true, true, true, false, false, false, false, false, true, true, true, true, false, false, false] _
    refine AI.one (i := 7) (by kernel_rfl) rfl rfl ?_
    refine AIO.op rfl (opR_load_pt (i := 0) Tryz.underlying9 rfl rfl rfl rfl) ?_
    show AI _ _ _ _ _ _ #[true, true, true, true, true, true, true, true, false, false, false, false, true, true, true, true, false, false, false] _
    refine AI.take (i := 8) rfl rfl (by kernel_rfl) (by kernel_rfl) (by kernel_rfl) (fun _ _ h => h) (g_cat rfl rfl g57 e59) ?_
    show AI _ _ _ _ _ _ #[true, true, true, true, true, true, true, true, true, false, false, false, true, true, true, true, false, false, false] _
    refine AI.take (i := 9) rfl rfl (by kernel_rfl) (by kernel_rfl) (by kernel_rfl) (fun _ _ h => h) (g_cat rfl rfl g60 e62) ?_
    show AI _ _ _ _ _ _ #[true, true, true, true, true, true, true, true, true, true, false, false, true, true, true, true, false, false, false] _
    refine AI.take (i := 10) rfl rfl (by kernel_rfl) (by kernel_rfl) (by kernel_rfl) (fun _ _ h => h) (g_cat rfl rfl g63 e65) ?_
    show AI _ _ _ _ _ _ #[true, true, true, true, true, true, true, true, true, true, true, false, true, true, true, true, false, false, false] _
    refine AI.one (i := 11) (by kernel_rfl) rfl rfl ?_
    refine AIO.opx rfl (g_append_str (bytes := 1) 1 Tryz.underlying26 Tryz.underlying9 rfl (by kernel_rfl) rfl rfl rfl rfl g67 e69) ?_
    rintro _ _ ⟨t75, rfl, rfl⟩
    show AI _ _ _ _ _ _ #[true, true, true, true, true, true, true, true, true, true, true, true, true, true, true, true, false, false, false] _
    refine AI.take (i := 16) rfl rfl (by kernel_rfl) (by kernel_rfl) (by kernel_rfl) (fun _ _ h => h) (opS_assign (av := slE _ _ _) rfl) ?_
    show AI _ _ _ _ _ _ #[true, true, true, true, true, true, true, true, true, true, true, true, true, true, true, true, true, false, false] _
    refine AI.take (i := 17) rfl rfl (by kernel_rfl) (by kernel_rfl) (by kernel_rfl) (fun _ _ h => h) (asg rfl) ?_
    show AI _ _ _ _ _ _ #[true, true, true, true, true, true, true, true, true, true, true, true, true, true, true, true, true, true, false] _
    refine AI.take (i := 18) rfl rfl (by kernel_rfl) (by kernel_rfl) (by kernel_rfl) (fun _ _ h => h) (asg rfl) ?_
    show AI _ _ _ _ _ _ #[true, true, true, true, true, true, true, true, true, true, true, true, true, true, true, true, true, true, true] _
    refine AI.done rfl ?_
    show AW _ _ _ _ _ _
    refine AW.ret ?_
    obtain ⟨rfl, rfl, rfl⟩ := res3 H
    exact And.intro rfl (Exists.intro _ (Exists.intro _ ⟨ResV.threeW rfl (.tok _ _ _) (.refl _) (.refl _), Sub.at [] rfl, rfl, rfl⟩))
   ·
    refine AIO.op rfl (opR_load_pt (i := 0) Tryz.underlying9 rfl rfl rfl rfl) ?_
    show AI _ _ _ _ _ _ #[true, true, true, false, true, true, true, true, false, false, false, false, true, true, true, true, false, false, false] _
    refine AI.take (i := 8) rfl rfl (by kernel_rfl) (by kernel_rfl) (by kernel_rfl) (fun _ _ h => h) (g_cat rfl rfl g57 e59) ?_
    show AI _ _ _ _ _ _ #[true, true, true, false, true, true, true, true, true, false, false, false, true, true, true, true, false, false, false] _
    refine AI.take (i := 9) rfl rfl (by kernel_rfl) (by kernel_rfl) (by kernel_rfl) (fun _ _ h => h) (g_cat rfl rfl g60 e62) ?_
    show AI _ _ _ _ _ _ #[true, true, true, false, true, true, true, true, true, true, false, false, true, true, true, true, false, false, false] _
    refine AI.take (i := 10) rfl rfl (by kernel_rfl) (by kernel_rfl) (by kernel_rfl) (fun _ _ h => h) (g_cat rfl rfl g63 e65) ?_
    show AI _ _ _ _ _ _ #[true, true, true, false, true, true, true, true, true, true, true, false, true, true, true, true, false, false, false] _
    refine AI.one (i := 3) (by kernel_rfl) rfl rfl ?_
    refine AIO.op rfl (opR_load_pt (i := 0) Tryz.underlying26 rfl rfl rfl rfl) ?_
    show AI _ _ _ _ _ _ #[true, true, true, true, true, true, true, true, true, true, true, false, true, true, true, true, false, false, false] _
    refine AI.one (i := 11) (by kernel_rfl) rfl rfl ?_
    refine AIO.opx rfl (g_append_str (bytes := 1) 1 Tryz.underlying26 Tryz.underlying9 rfl (by kernel_rfl) rfl rfl rfl rfl g67 e69) ?_
    rintro _ _ ⟨t76, rfl, rfl⟩
    show AI _ _ _ _ _ _ #[true, true, true, true, true, true, true, true, true, true, true, true, true, true, true, true, false, false, false] _
    refine AI.take (i := 16) rfl rfl (by kernel_rfl) (by kernel_rfl) (by kernel_rfl) (fun _ _ h => h) (opS_assign (av := slE _ _ _) rfl) ?_
    show AI _ _ _ _ _ _ #[true, true, true, true, true, true, true, true, true, true, true, true, true, true, true, true, true, false, false] _
    refine AI.take (i := 17) rfl rfl (by kernel_rfl) (by kernel_rfl) (by kernel_rfl) (fun _ _ h => h) (asg rfl) ?_
    show AI _ _ _ _ _ _ #[true, true, true, true, true, true, true, true, true, true, true, true, true, true, true, true, true, true, false] _
    refine AI.take (i := 18) rfl rfl (by kernel_rfl) (by kernel_rfl) (by kernel_rfl) (fun _ _ h => h) (asg rfl) ?_
    show AI _ _ _ _ _ _ #[true, true, true, true, true, true, true, true, true, true, true, true, true, true, true, true, true, true, true] _
    refine AI.done rfl ?_
    show AW _ _ _ _ _ _
    refine AW.ret ?_
    obtain ⟨rfl, rfl, rfl⟩ := res3 H
    exact And.intro rfl (Exists.intro _ (Exists.intro _ ⟨ResV.threeW rfl (.tok _ _ _) (.refl _) (.refl _), Sub.at [] rfl, rfl, rfl⟩))
set_option maxRecDepth 100000 in
set_option maxHeartbeats 1000000 in
theorem w_part_one (F : Nat) (a1 : List UInt8) (q2 : Option Nat) (r3 : List UInt8) (r4 : List UInt8) (r5 : Bool) (H : part_one F a1 = some (r3, r4, r5)) : ACalls Tryz.prog 35 [slE Enc.byte a1 q2] [] (Ret (.tup [S r3, slE Enc.byte r4 none, B r5]) []) := by
 unfold part_one at H
 refine ACalls.of_body Tryz.func35 rfl rfl ?_
 show AW _ _ 43 _ _ _
 refine AW.seq ?_
 refine AW.region ?_
 show AR _ _ _ _ _ [0, 1, 2] _
 refine sS rfl rfl rfl (asg rfl) ?_
 refine sS rfl rfl rfl (asg rfl) ?_
 refine sS rfl rfl rfl (asg rfl) ?_
 refine AR.nil ?_
 show AW _ _ _ _ _ _
 refine AW.seq ?_
 obtain ⟨x6, x7, x8, e9, H⟩ := bnd3_s H
 refine AW.region ?_
 show AR _ _ _ _ _ [0, 1, 2, 3, 4, 5, 6, 7, 8] _
 refine sS rfl rfl rfl (opS_move (av := slE _ _ _) rfl) ?_
 refine AR.run rfl rfl (AO.callp rfl en55_parta rfl (w_head_Cut F a1 q2 x6 x7 x8 e9) ?_)
 refine sS rfl rfl rfl (opS_move (av := .tup _) rfl) ?_
 refine sS rfl rfl rfl (opS_extract (av := slE _ _ _) rfl rfl) ?_
 refine sS rfl rfl rfl (opS_extract (av := slE _ _ _) rfl rfl) ?_
 refine sS rfl rfl rfl (opS_extract (av := .v _) rfl rfl) ?_
 refine sS rfl rfl rfl (opS_assign (av := slE _ _ _) rfl) ?_
 refine sS rfl rfl rfl (opS_assign (av := slE _ _ _) rfl) ?_
 refine sS rfl rfl rfl (asg rfl) ?_
 refine AR.nil ?_
 show AW _ _ _ _ _ _
 refine AW.seq ?_
 refine AW.seq ?_
 refine AW.region ?_
 show AR _ _ _ _ _ [0, 1, 2, 3, 4, 5, 6, 7, 8, 9, 10, 11] _
 refine sS rfl rfl rfl (mv rfl) ?_
 refine sS rfl rfl rfl (opS_nei rfl rfl) ?_
 refine sS rfl rfl rfl (mv rfl) ?_
 refine AR.meet (l := [7, 8, 9, 10, 11]) 21 (B ((!decide (x8 = 0)) || (!decide ((x6.length : Int) = 2)))) (fun K => ?_) ?_
 ·rcases Bool.eq_false_or_eq_true (!decide (x8 = 0)) with h10 | h10
  ·
   refine gF h10 rfl rfl rfl rfl rfl ?_
   refine gF h10 rfl rfl rfl rfl rfl ?_
   refine gF h10 rfl rfl rfl rfl rfl ?_
   refine sS rfl rfl rfl (opS_pick_t (av := .v _) rfl h10 rfl) ?_
   exact K _ 3 _ (B_congr (or_t h10)) rfl rfl
  ·
   refine gT h10 rfl rfl rfl rfl rfl rfl (AO.ops rfl rfl (opS_move (av := slE _ _ _) rfl) ?_)
   refine gT h10 rfl rfl rfl rfl rfl rfl (AO.ops rfl rfl (opS_len_sl Tryz.underlying72 rfl) ?_)
   refine gT h10 rfl rfl rfl rfl rfl rfl (AO.ops rfl rfl (opS_nei rfl rfl) ?_)
   refine sS rfl rfl rfl (opS_pick_f (av := .v _) rfl h10 rfl) ?_
   exact K _ 3 _ (B_congr (or_f h10)) rfl rfl
 refine sS rfl rfl rfl (mv rfl) ?_
 refine AR.meet (l := []) 26 (B (((!decide (x8 = 0)) || (!decide ((x6.length : Int) = 2))) || (decide ((x7.length : Int) < 2)))) (fun K => ?_) ?_
 ·rcases Bool.eq_false_or_eq_true ((!decide (x8 = 0)) || (!decide ((x6.length : Int) = 2))) with h11 | h11
  ·
   refine gF h11 rfl rfl rfl rfl rfl ?_
   refine gF h11 rfl rfl rfl rfl rfl ?_
   refine gF h11 rfl rfl rfl rfl rfl ?_
   refine sS rfl rfl rfl (opS_pick_t (av := .v _) rfl h11 rfl) ?_
   exact K _ 3 _ (B_congr (or_t h11)) rfl rfl
  ·
   refine gT h11 rfl rfl rfl rfl rfl rfl (AO.ops rfl rfl (opS_move (av := slE _ _ _) rfl) ?_)
   refine gT h11 rfl rfl rfl rfl rfl rfl (AO.ops rfl rfl (opS_len_sl Tryz.underlying26 rfl) ?_)
   refine gT h11 rfl rfl rfl rfl rfl rfl (AO.ops rfl rfl (opS_lt rfl rfl) ?_)
   refine sS rfl rfl rfl (opS_pick_f (av := .v _) rfl h11 rfl) ?_
   exact K _ 3 _ (B_congr (or_f h11)) rfl rfl
 refine AR.nil ?_
 show AW _ _ _ _ _ _
 refine AW.cond rfl (fun c12 => ?_) (fun c12 => ?_)
 ·replace H := cnd_t c12 H
  refine AW.seq ?_
  refine AW.region ?_
  show AR _ _ _ _ _ [0, 1, 2] _
  refine sS rfl rfl rfl (asg rfl) ?_
  refine sS rfl rfl rfl (asg rfl) ?_
  refine sS rfl rfl rfl (asg rfl) ?_
  refine AR.nil ?_
  show AW _ _ _ _ _ _
  refine AW.ret ?_
  obtain ⟨rfl, rfl, rfl⟩ := res3 H
  exact And.intro rfl (Exists.intro _ (Exists.intro _ ⟨ResV.threeW rfl (.refl _) (.nil _) (.refl _), Sub.at [] rfl, rfl, rfl⟩))
 ·replace H := cnd_f c12 H
  refine AW.skip ?_
  show AW _ _ _ _ _ _
  refine AW.seq ?_
  obtain ⟨g13, H⟩ := grd_s H
  obtain ⟨g14, H⟩ := grd_s H
  obtain ⟨x15, e16, H⟩ := lt_s H
  obtain ⟨x17, x18, e19, H⟩ := bnd2_s H
  refine AW.region ?_
  show AR _ _ _ _ _ [0, 1, 2, 3, 4, 5, 6, 7, 8, 9, 10] _
  refine sS rfl rfl rfl (opS_move (av := slE _ _ _) rfl) ?_
  refine sS rfl rfl rfl (opS_move (av := slE _ _ _) rfl) ?_
  refine sS rfl rfl rfl (opS_len_sl Tryz.underlying26 rfl) ?_
  refine sS rfl rfl rfl (g_sub rfl rfl g13) ?_
  refine sS rfl rfl rfl (g_to_sl (E := Enc.byte) Tryz.underlying26 (by kernel_rfl) rfl rfl g14 e16) ?_
  refine AR.run rfl rfl (AO.callp rfl en56_parta rfl (w_qp_Decode F x15 none x17 x18 e19) ?_)
  refine sS rfl rfl rfl (opS_move (av := .tup _) rfl) ?_
  refine sS rfl rfl rfl (opS_extract (av := slE _ _ _) rfl rfl) ?_
  refine sS rfl rfl rfl (opS_extract (av := .v _) rfl rfl) ?_
  refine sS rfl rfl rfl (opS_assign (av := slE _ _ _) rfl) ?_
  refine sS rfl rfl rfl (asg rfl) ?_
  refine AR.nil ?_
  show AW _ _ _ _ _ _
  refine AW.seq ?_
  obtain ⟨g20, H⟩ := grd_s H
  obtain ⟨x21, e22, H⟩ := lt_s H
  refine AW.region ?_
  show AR _ _ _ _ _ [0, 1, 2, 3, 4, 5, 6, 7, 8, 9] _
  refine sS rfl rfl rfl (opS_move (av := slE _ _ _) rfl) ?_
  refine sS rfl rfl rfl (g_indexAddr (E := (Enc.prod Enc.str Enc.str)) Tryz.underlying72 (by kernel_rfl) rfl rfl g20 e22) ?_
  refine sS rfl rfl rfl (opS_fieldAddr_cp (n := 1) (by kernel_rfl) rfl (Nat.le_of_ble_eq_true rfl)) ?_
  refine sS rfl rfl rfl (opS_load_cp Tryz.underlying9 rfl rfl) ?_
  refine sS rfl rfl rfl (opS_move (av := slE _ _ _) rfl) ?_
  refine sS rfl rfl rfl (mv rfl) ?_
  refine sS rfl rfl rfl (opS_eqi rfl rfl) ?_
  refine sS rfl rfl rfl (asg rfl) ?_
  refine sS rfl rfl rfl (opS_assign (av := slE _ _ _) rfl) ?_
  refine sS rfl rfl rfl (asg rfl) ?_
  refine AR.nil ?_
  show AW _ _ _ _ _ _
  refine AW.ret ?_
  obtain ⟨rfl, rfl, rfl⟩ := res3 H
  exact And.intro rfl (Exists.intro _ (Exists.intro _ ⟨ResV.threeW rfl (.refl _) (.refl _) (.refl _), Sub.at [] rfl, rfl, rfl⟩))
set_option maxRecDepth 100000 in
set_option maxHeartbeats 1000000 in
theorem w_part_Split (F : Nat) (a1 : List UInt8) (q2 : Option Nat) (a3 : List UInt8) (r4 : List (List UInt8)) (r5 : List (List UInt8)) (r6 : Int) (H : part_Split F a1 a3 = some (r4, r5, r6)) : ACalls Tryz.prog 14 [slE Enc.byte a1 q2, S a3] [] (Ret (.tup [slE Enc.str r4 none, slE (Enc.sl Enc.byte) r5 none, i64 r6]) []) := by
 unfold part_Split at H
 refine ACalls.of_body Tryz.func14 rfl rfl ?_
 show AW _ _ 83 _ _ _
 refine AW.seq ?_
 refine AW.region ?_
 show AR _ _ _ _ _ [0, 1, 2] _
 refine sS rfl rfl rfl (asg rfl) ?_
 refine sS rfl rfl rfl (asg rfl) ?_
 refine sS rfl rfl rfl (asg rfl) ?_
 refine AR.nil ?_
 show AW _ _ _ _ _ _
 refine AW.seq ?_
 refine AW.region ?_
 show AR _ _ _ _ _ [0] _
 refine sS rfl rfl rfl (asg rfl) ?_
 refine AR.nil ?_
 show AW _ _ _ _ _ _
 refine AW.nil_grows 7 1 9 rfl fun t7 => ?_
 show AW _ _ _ _ _ ⟨(7, slE Enc.str [] (some t7)) :: _, _, _⟩
 refine AW.seq ?_
 refine AW.region ?_
 show AR _ _ _ _ _ [0] _
 refine sS rfl rfl rfl (asg rfl) ?_
 refine AR.nil ?_
 show AW _ _ _ _ _ _
 refine AW.nil_grows 8 1 26 rfl fun t8 => ?_
 show AW _ _ _ _ _ ⟨(8, slE (Enc.sl Enc.byte) [] (some t8)) :: _, _, _⟩
 refine AW.cut (X := (List (List UInt8)) × Nat × (List (List UInt8)) × Nat) (fun (y63, t64, y65, t66) => ⟨[(0, slE Enc.byte a1 q2), (1, S a3), (7, slE Enc.str y63 (some t64)), (8, slE (Enc.sl Enc.byte) y65 (some t66))], [], [.tok t64 9, .tok t66 26]⟩) (fun (y63, t64, y65, t66) => part_Split_j1 F a1 a3 y63 y65 = some (r4, r5, r6)) ?_ ?_
 ·
  refine AW.seq ?_
  refine AW.region ?_
  show AR _ _ _ _ _ [0, 1] _
  refine sS rfl rfl rfl (opS_move (av := slE _ _ _) rfl) ?_
  refine sS rfl rfl rfl (opS_assign (av := slE _ _ _) rfl) ?_
  refine AR.nil ?_
  show AW _ _ _ _ _ _
  refine AW.block ?_
  refine AW.loop (X := Nat × (List (List UInt8)) × Nat × (List (List UInt8)) × Nat × (List UInt8)) (fun (n15, y9, t10, y11, t12, y13) => ⟨[(0, slE Enc.byte a1 q2), (1, S a3), (7, slE Enc.str y9 (some t10)), (8, slE (Enc.sl Enc.byte) y11 (some t12)), (9, slE Enc.byte y13 none)], [], [.tok t10 9, .tok t12 26]⟩) (fun (n15, y9, t10, y11, t12, y13) => part_Split_L1 F a1 a3 n15 (y9, y11, y13) = some (r4, r5, r6)) (fun (n15, y9, t10, y11, t12, y13) => n15) (F, [], t7, [], t8, a1) H (WK.at [1, 0] (.cons (.refl _) (.cons (.refl _) (.cons (.refl _) (.cons (.refl _) (.cons (.tok _ _ _) (.nil _)))))) rfl) ?_
  rintro ⟨n15, y9, t10, y11, t12, y13⟩ H
  obtain ⟨n15, rfl, H⟩ := loop_s H
  replace H : part_Split_B1 F a1 a3 (part_Split_L1 F a1 a3 n15) y9 y11 y13 = some (r4, r5, r6) := H
  unfold part_Split_B1 at H
  show AW _ _ _ _ _ _
  refine AW.seq ?_
  refine AW.seq ?_
  refine AW.region ?_
  show AR _ _ _ _ _ [0, 1, 2] _
  refine sS rfl rfl rfl (opS_move (av := slE _ _ _) rfl) ?_
  refine sS rfl rfl rfl (opS_len_sl Tryz.underlying23 rfl) ?_
  refine sS rfl rfl rfl (opS_le rfl rfl) ?_
  refine AR.nil ?_
  show AW _ _ _ _ _ _
  refine AW.cond rfl (fun c16 => ?_) (fun c16 => ?_)
  ·replace H := cnd_t c16 H
   refine AW.skip ?_
   show AW _ _ _ _ _ _
   refine AW.block ?_
   refine AW.seq ?_
   obtain ⟨g17, H⟩ := grd_s H
   obtain ⟨x18, e19, H⟩ := lt_s H
   obtain ⟨g20, H⟩ := grd_s H
   obtain ⟨x21, e22, H⟩ := lt_s H
   obtain ⟨g23, H⟩ := grd_s H
   obtain ⟨g25, H⟩ := grd_s H
   obtain ⟨x26, e27, H⟩ := lt_s H
   refine AW.region ?_
   show AR _ _ _ _ _ [0, 1, 2, 3, 4, 5, 6, 7, 8, 9, 10] _
   refine sS rfl rfl rfl (opS_move (av := slE _ _ _) rfl) ?_
   refine sS rfl rfl rfl (mv rfl) ?_
   refine sS rfl rfl rfl (g_cat rfl rfl g17 e19) ?_
   refine sS rfl rfl rfl (g_cat rfl rfl g20 e22) ?_
   refine sX rfl rfl rfl (g_conv_str_bytes (bytes := 1) Tryz.underlying9 Tryz.underlying26 Tryz.underlying5 rfl g23) ?_
   rintro _ _ ⟨t24, rfl, rfl⟩
   refine AR.run rfl rfl (AO.callp rfl en33_parta rfl (show ACalls _ _ _ [] (Ret (.tup [slE Enc.byte x26.1 none, B x26.2]) []) from by subst e27; exact lib_bytesCutPrefix y13 x21 none (some t24) (of_decide_eq_true g25)) ?_)
   refine sS rfl rfl rfl (opS_move (av := .tup _) rfl) ?_
   refine sS rfl rfl rfl (opS_extract (av := slE _ _ _) rfl rfl) ?_
   refine sS rfl rfl rfl (opS_extract (av := .v _) rfl rfl) ?_
   refine sS rfl rfl rfl (opS_assign (av := slE _ _ _) rfl) ?_
   refine sS rfl rfl rfl (asg rfl) ?_
   refine AR.nil ?_
   show AW _ _ _ _ _ _
   refine AW.seq ?_
   refine AW.seq ?_
   refine AW.region ?_
   show AR _ _ _ _ _ [0, 1] _
   refine sS rfl rfl rfl (mv rfl) ?_
   refine sS rfl rfl rfl (opS_not rfl) ?_
   refine AR.nil ?_
   show AW _ _ _ _ _ _
   refine AW.cond rfl (fun c28 => ?_) (fun c28 => ?_)
   ·replace H := cnd_t c28 H
    refine AW.exit ?_
    exact Exists.intro (y9, t10, y11, t12) ⟨H, WK.at [1, 1] (.cons (.refl _) (.cons (.refl _) (.cons (.refl _) (.cons (.refl _) (.nil _))))) rfl⟩
   ·replace H := cnd_f c28 H
    refine AW.skip ?_
    show AW _ _ _ _ _ _
    refine AW.seq ?_
    obtain ⟨g29, H⟩ := grd_s H
    obtain ⟨x30, e31, H⟩ := lt_s H
    obtain ⟨g32, H⟩ := grd_s H
    obtain ⟨g34, H⟩ := grd_s H
    obtain ⟨g35, H⟩ := grd_s H
    obtain ⟨g36, H⟩ := grd_s H
    obtain ⟨x37, e38, H⟩ := lt_s H
    refine AW.region ?_
    show AR _ _ _ _ _ [0, 1, 2, 3, 4, 5] _
    refine sS rfl rfl rfl (opS_move (av := slE _ _ _) rfl) ?_
    refine sS rfl rfl rfl (mv rfl) ?_
    refine sS rfl rfl rfl (g_cat rfl rfl g29 e31) ?_
    refine sX rfl rfl rfl (g_conv_str_bytes (bytes := 1) Tryz.underlying9 Tryz.underlying26 Tryz.underlying5 rfl g32) ?_
    rintro _ _ ⟨t33, rfl, rfl⟩
    refine AR.run rfl rfl (AO.callp rfl en34_parta rfl (show ACalls _ _ _ [] (Ret (i64 x37) []) from by subst e38; exact lib_bytesIndex x26.1 x30 none (some t33) (okS_s g34) (of_decide_eq_true g35) (okS_s g36)) ?_)
    refine sS rfl rfl rfl (asg rfl) ?_
    refine AR.nil ?_
    show AW _ _ _ _ _ _
    refine AW.seq ?_
    refine AW.seq ?_
    refine AW.region ?_
    show AR _ _ _ _ _ [0, 1] _
    refine sS rfl rfl rfl (mv rfl) ?_
    refine sS rfl rfl rfl (opS_lt rfl rfl) ?_
    refine AR.nil ?_
    show AW _ _ _ _ _ _
    refine AW.cond rfl (fun c39 => ?_) (fun c39 => ?_)
    ·replace H := cnd_t c39 H
     refine AW.seq ?_
     refine AW.region ?_
     show AR _ _ _ _ _ [0, 1, 2] _
     refine sS rfl rfl rfl (asg rfl) ?_
     refine sS rfl rfl rfl (asg rfl) ?_
     refine sS rfl rfl rfl (asg rfl) ?_
     refine AR.nil ?_
     show AW _ _ _ _ _ _
     refine AW.ret ?_
     obtain ⟨rfl, rfl, rfl⟩ := res3 H
     exact And.intro rfl (Exists.intro _ (Exists.intro _ ⟨ResV.threeW rfl (.nil _) (.nil _) (.refl _), Sub.at [] rfl, rfl, rfl⟩))
    ·replace H := cnd_f c39 H
     refine AW.skip ?_
     show AW _ _ _ _ _ _
     refine AW.seq ?_
     obtain ⟨g40, H⟩ := grd_s H
     obtain ⟨x41, e42, H⟩ := lt_s H
     obtain ⟨x43, x44, x45, e46, H⟩ := bnd3_s H
     refine AW.region ?_
     show AR _ _ _ _ _ [0, 1, 2, 3, 4, 5, 6, 7, 8, 9, 10] _
     refine sS rfl rfl rfl (opS_move (av := slE _ _ _) rfl) ?_
     refine sS rfl rfl rfl (mv rfl) ?_
     refine sS rfl rfl rfl (g_to_sl (E := Enc.byte) Tryz.underlying26 (by kernel_rfl) rfl rfl g40 e42) ?_
     refine AR.run rfl rfl (AO.callp rfl en35_parta rfl (w_part_one F x41 none x43 x44 x45 e46) ?_)
     refine sS rfl rfl rfl (opS_move (av := .tup _) rfl) ?_
     refine sS rfl rfl rfl (opS_extract (av := .v _) rfl rfl) ?_
     refine sS rfl rfl rfl (opS_extract (av := slE _ _ _) rfl rfl) ?_
     refine sS rfl rfl rfl (opS_extract (av := .v _) rfl rfl) ?_
     refine sS rfl rfl rfl (asg rfl) ?_
     refine sS rfl rfl rfl (opS_assign (av := slE _ _ _) rfl) ?_
     refine sS rfl rfl rfl (asg rfl) ?_
     refine AR.nil ?_
     show AW _ _ _ _ _ _
     refine AW.seq ?_
     refine AW.seq ?_
     refine AW.region ?_
     show AR _ _ _ _ _ [0, 1] _
     refine sS rfl rfl rfl (mv rfl) ?_
     refine sS rfl rfl rfl (opS_not rfl) ?_
     refine AR.nil ?_
     show AW _ _ _ _ _ _
     refine AW.cond rfl (fun c47 => ?_) (fun c47 => ?_)
     ·replace H := cnd_t c47 H
      refine AW.seq ?_
      refine AW.region ?_
      show AR _ _ _ _ _ [0, 1, 2] _
      refine sS rfl rfl rfl (asg rfl) ?_
      refine sS rfl rfl rfl (asg rfl) ?_
      refine sS rfl rfl rfl (asg rfl) ?_
      refine AR.nil ?_
      show AW _ _ _ _ _ _
      refine AW.ret ?_
      obtain ⟨rfl, rfl, rfl⟩ := res3 H
      exact And.intro rfl (Exists.intro _ (Exists.intro _ ⟨ResV.threeW rfl (.nil _) (.nil _) (.refl _), Sub.at [] rfl, rfl, rfl⟩))
     ·replace H := cnd_f c47 H
      refine AW.skip ?_
      show AW _ _ _ _ _ _
      obtain ⟨g48, H⟩ := grd_s H
      obtain ⟨x49, e50, H⟩ := lt_s H
      obtain ⟨g52, H⟩ := grd_s H
      obtain ⟨x53, e54, H⟩ := lt_s H
      obtain ⟨g56, H⟩ := grd_s H
      obtain ⟨x57, e58, H⟩ := lt_s H
      refine AW.region_draw (by kernel_rfl) ?_
      show AI _ _ _ _ _ 14 (Array.replicate 14 false) _
      refine AI.take (i := 0) rfl rfl (by kernel_rfl) (by kernel_rfl) (by kernel_rfl) (fun _ _ h => h) (opS_move (av := slE _ _ _) rfl) ?_
      show AI _ _ _ _ _ _ #[true, false, false, false, false, false, false, false, false, false, false, false, false, false] _
      refine AI.take (i := 1) rfl rfl (by kernel_rfl) (by kernel_rfl) (by kernel_rfl) (fun _ _ h => h) (mv rfl) ?_
      show AI _ _ _ _ _ _ #[true, true, false, false, false, false, false, false, false, false, false, false, false, false] _
      refine AI.take (i := 4) rfl rfl (by kernel_rfl) (by kernel_rfl) (by kernel_rfl) (fun _ _ h => h) (opS_move (av := slE _ _ _) rfl) ?_
      show AI _ _ _ _ _ _ #[true, true, false, false, true, false, false, false, false, false, false, false, false, false] _
      refine AI.take (i := 5) rfl rfl (by kernel_rfl) (by kernel_rfl) (by kernel_rfl) (fun _ _ h => h) (opS_move (av := slE _ _ _) rfl) ?_
      show AI _ _ _ _ _ _ #[true, true, false, false, true, true, false, false, false, false, false, false, false, false] _
      refine AI.take (i := 8) rfl rfl (by kernel_rfl) (by kernel_rfl) (by kernel_rfl) (fun _ _ h => h) (opS_move (av := slE _ _ _) rfl) ?_
      show AI _ _ _ _ _ _ #[true, true, false, false, true, true, false, false, true, false, false, false, false, false] _
      refine AI.take (i := 9) rfl rfl (by kernel_rfl) (by kernel_rfl) (by kernel_rfl) (fun _ _ h => h) (mv rfl) ?_
      show AI _ _ _ _ _ _ #[true, true, false, false, true, true, false, false, true, true, false, false, false, false] _
      refine AI.take (i := 10) rfl rfl (by kernel_rfl) (by kernel_rfl) (by kernel_rfl) (fun _ _ h => h) (g_from_sl (E := Enc.byte) Tryz.underlying26 (by kernel_rfl) rfl rfl g48 e50) ?_
      show AI _ _ _ _ _ _ #[true, true, false, false, true, true, false, false, true, true, true, false, false, false] _
      refine AI.two (i := 2) (j := 6) (by kernel_rfl) rfl rfl rfl rfl ?_ ?_
      ·
       refine AIO.op rfl (opR_buildE (E := Enc.str) (bytes := 16) (xs := [.tmp 51]) (l := ([x43] : List (List UInt8))) Tryz.underlying22 (by kernel_rfl) rfl rfl (by decide) rfl rfl) ?_
       show AI _ _ _ _ _ _ #[true, true, true, false, true, true, false, false, true, true, true, false, false, false] _
       refine AI.two (i := 3) (j := 6) (by kernel_rfl) rfl rfl rfl rfl ?_ ?_
       ·
        refine AIO.opx rfl (g_append (E := Enc.str) (bytes := 16) 2 Tryz.underlying22 Tryz.underlying22 rfl (by kernel_rfl) rfl rfl rfl rfl g52 e54) ?_
        rintro _ _ ⟨t51, rfl, rfl⟩
        show AI _ _ _ _ _ _ #[true, true, true, true, true, true, false, false, true, true, true, false, false, false] _
        refine AI.one (i := 6) (by kernel_rfl) rfl rfl ?_
        refine AIO.op rfl (opR_buildE (E := (Enc.sl Enc.byte)) (bytes := 24) (xs := [.tmp 55]) (l := ([x44] : List (List UInt8))) Tryz.underlying23 (by kernel_rfl) rfl rfl (by decide) rfl rfl) ?_
        show AI _ _ _ _ _ _ #[true, true, true, true, true, true, true, false, true, true, true, false, false, false] _
        refine AI.one (i := 7) (by kernel_rfl) rfl rfl ?_
        refine AIO.opx rfl (g_append (E := (Enc.sl Enc.byte)) (bytes := 24) 3 Tryz.underlying23 Tryz.underlying23 rfl (by kernel_rfl) rfl rfl rfl rfl g56 e58) ?_
        rintro _ _ ⟨t55, rfl, rfl⟩
        show AI _ _ _ _ _ _ #[true, true, true, true, true, true, true, true, true, true, true, false, false, false] _
        refine AI.take (i := 11) rfl rfl (by kernel_rfl) (by kernel_rfl) (by kernel_rfl) (fun _ _ h => h) (opS_assign (av := slE _ _ _) rfl) ?_
        show AI _ _ _ _ _ _ #[true, true, true, true, true, true, true, true, true, true, true, true, false, false] _
        refine AI.take (i := 12) rfl rfl (by kernel_rfl) (by kernel_rfl) (by kernel_rfl) (fun _ _ h => h) (opS_assign (av := slE _ _ _) rfl) ?_
        show AI _ _ _ _ _ _ #[true, true, true, true, true, true, true, true, true, true, true, true, true, false] _
        refine AI.take (i := 13) rfl rfl (by kernel_rfl) (by kernel_rfl) (by kernel_rfl) (fun _ _ h => h) (opS_assign (av := slE _ _ _) rfl) ?_
        show AI _ _ _ _ _ _ #[true, true, true, true, true, true, true, true, true, true, true, true, true, true] _
        refine AI.done rfl ?_
        exact Exists.intro (n15, x53, t51, x57, t55, x49) ⟨H, Nat.lt_succ_self _, WK.at [2, 2] (.cons (.refl _) (.cons (.refl _) (.cons (.refl _) (.cons (.refl _) (.cons (.refl _) (.nil _)))))) rfl⟩
       ·
        refine AIO.op rfl (opR_buildE (E := (Enc.sl Enc.byte)) (bytes := 24) (xs := [.tmp 55]) (l := ([x44] : List (List UInt8))) Tryz.underlying23 (by kernel_rfl) rfl rfl (by decide) rfl rfl) ?_
        show AI _ _ _ _ _ _ #[true, true, true, false, true, true, true, false, true, true, true, false, false, false] _
        refine AI.one (i := 3) (by kernel_rfl) rfl rfl ?_
        refine AIO.opx rfl (g_append (E := Enc.str) (bytes := 16) 2 Tryz.underlying22 Tryz.underlying22 rfl (by kernel_rfl) rfl rfl rfl rfl g52 e54) ?_
        rintro _ _ ⟨t59, rfl, rfl⟩
        show AI _ _ _ _ _ _ #[true, true, true, true, true, true, true, false, true, true, true, false, false, false] _
        refine AI.one (i := 7) (by kernel_rfl) rfl rfl ?_
        refine AIO.opx rfl (g_append (E := (Enc.sl Enc.byte)) (bytes := 24) 3 Tryz.underlying23 Tryz.underlying23 rfl (by kernel_rfl) rfl rfl rfl rfl g56 e58) ?_
        rintro _ _ ⟨t60, rfl, rfl⟩
        show AI _ _ _ _ _ _ #[true, true, true, true, true, true, true, true, true, true, true, false, false, false] _
        refine AI.take (i := 11) rfl rfl (by kernel_rfl) (by kernel_rfl) (by kernel_rfl) (fun _ _ h => h) (opS_assign (av := slE _ _ _) rfl) ?_
        show AI _ _ _ _ _ _ #[true, true, true, true, true, true, true, true, true, true, true, true, false, false] _
        refine AI.take (i := 12) rfl rfl (by kernel_rfl) (by kernel_rfl) (by kernel_rfl) (fun _ _ h => h) (opS_assign (av := slE _ _ _) rfl) ?_
        show AI _ _ _ _ _ _ #[true, true, true, true, true, true, true, true, true, true, true, true, true, false] _
        refine AI.take (i := 13) rfl rfl (by kernel_rfl) (by kernel_rfl) (by kernel_rfl) (fun _ _ h => h) (opS_assign (av := slE _ _ _) rfl) ?_
        show AI _ _ _ _ _ _ #[true, true, true, true, true, true, true, true, true, true, true, true, true, true] _
        refine AI.done rfl ?_
        exact Exists.intro (n15, x53, t59, x57, t60, x49) ⟨H, Nat.lt_succ_self _, WK.at [2, 2] (.cons (.refl _) (.cons (.refl _) (.cons (.refl _) (.cons (.refl _) (.cons (.refl _) (.nil _)))))) rfl⟩
      ·
       refine AIO.op rfl (opR_buildE (E := (Enc.sl Enc.byte)) (bytes := 24) (xs := [.tmp 55]) (l := ([x44] : List (List UInt8))) Tryz.underlying23 (by kernel_rfl) rfl rfl (by decide) rfl rfl) ?_
       show AI _ _ _ _ _ _ #[true, true, false, false, true, true, true, false, true, true, true, false, false, false] _
       refine AI.one (i := 2) (by kernel_rfl) rfl rfl ?_
       refine AIO.op rfl (opR_buildE (E := Enc.str) (bytes := 16) (xs := [.tmp 51]) (l := ([x43] : List (List UInt8))) Tryz.underlying22 (by kernel_rfl) rfl rfl (by decide) rfl rfl) ?_
       show AI _ _ _ _ _ _ #[true, true, true, false, true, true, true, false, true, true, true, false, false, false] _
       refine AI.one (i := 3) (by kernel_rfl) rfl rfl ?_
       refine AIO.opx rfl (g_append (E := Enc.str) (bytes := 16) 2 Tryz.underlying22 Tryz.underlying22 rfl (by kernel_rfl) rfl rfl rfl rfl g52 e54) ?_
       rintro _ _ ⟨t61, rfl, rfl⟩
       show AI _ _ _ _ _ _ #[true, true, true, true, true, true, true, false, true, true, true, false, false, false] _
       refine AI.one (i := 7) (by kernel_rfl) rfl rfl ?_
       refine AIO.opx rfl (g_append (E := (Enc.sl Enc.byte)) (bytes := 24) 3 Tryz.underlying23 Tryz.underlying23 rfl (by kernel_rfl) rfl rfl rfl rfl g56 e58) ?_
       rintro _ _ ⟨t62, rfl, rfl⟩
       show AI _ _ _ _ _ _ #[true, true, true, true, true, true, true, true, true, true, true, false, false, false] _
       refine AI.take (i := 11) rfl rfl (by kernel_rfl) (by kernel_rfl) (by kernel_rfl) (fun _ _ h => h) (opS_assign (av := slE _ _ _) rfl) ?_
       show AI _ _ _ _ _ _ #[true, true, true, true, true, true, true, true, true, true, true, true, false, false] _
       refine AI.take (i := 12) rfl rfl (by kernel_rfl) (by kernel_rfl) (by kernel_rfl) (fun _ _ h => h) (opS_assign (av := slE _ _ _) rfl) ?_
       show AI _ _ _ _ _ _ #[true, true, true, true, true, true, true, true, true, true, true, true, true, false] _
       refine AI.take (i := 13) rfl rfl (by kernel_rfl) (by kernel_rfl) (by kernel_rfl) (fun _ _ h => h) (opS_assign (av := slE _ _ _) rfl) ?_
       show AI _ _ _ _ _ _ #[true, true, true, true, true, true, true, true, true, true, true, true, true, true] _
       refine AI.done rfl ?_
       exact Exists.intro (n15, x53, t61, x57, t62, x49) ⟨H, Nat.lt_succ_self _, WK.at [2, 2] (.cons (.refl _) (.cons (.refl _) (.cons (.refl _) (.cons (.refl _) (.cons (.refl _) (.nil _)))))) rfl⟩
  ·replace H := cnd_f c16 H
   refine AW.exit ?_
   exact Exists.intro (y9, t10, y11, t12) ⟨H, WK.at [0, 0] (.cons (.refl _) (.cons (.refl _) (.cons (.refl _) (.cons (.refl _) (.nil _))))) rfl⟩
 rintro ⟨y63, t64, y65, t66⟩ H
 replace H : part_Split_j1 F a1 a3 y63 y65 = some (r4, r5, r6) := H
 unfold part_Split_j1 at H
 show AW _ _ _ _ _ _
 refine AW.seq ?_
 refine AW.seq ?_
 obtain ⟨x68, x69, x70, e71, H⟩ := bnd3_s H
 refine AW.region ?_
 show AR _ _ _ _ _ [0, 1, 2, 3, 4, 5, 6, 7, 8, 9] _
 refine sS rfl rfl rfl (opS_move (av := slE _ _ _) rfl) ?_
 refine sS rfl rfl rfl (opS_move (av := slE _ _ _) rfl) ?_
 refine AR.run rfl rfl (AO.callp rfl en10_parta rfl (w_part_Join F y63 (some t64) y65 (some t66) x68 x69 x70 e71) ?_)
 refine sS rfl rfl rfl (opS_move (av := .tup _) rfl) ?_
 refine sS rfl rfl rfl (opS_extract (av := slE _ _ _) rfl rfl) ?_
 refine sS rfl rfl rfl (opS_extract (av := .v _) rfl rfl) ?_
 refine sS rfl rfl rfl (opS_extract (av := .v _) rfl rfl) ?_
 refine sS rfl rfl rfl (opS_assign (av := slE _ _ _) rfl) ?_
 refine sS rfl rfl rfl (asg rfl) ?_
 refine sS rfl rfl rfl (asg rfl) ?_
 refine AR.nil ?_
 show AW _ _ _ _ _ _
 refine AW.seq ?_
 obtain ⟨x74, e75, H⟩ := lt_s H
 refine AW.region ?_
 show AR _ _ _ _ _ [0, 1, 2, 3, 4, 5, 6, 7, 8, 9, 10, 11, 12] _
 refine sS rfl rfl rfl (mv rfl) ?_
 refine sS rfl rfl rfl (opS_nei rfl rfl) ?_
 refine sS rfl rfl rfl (mv rfl) ?_
 refine AR.meet (l := [7, 8, 9, 10, 11, 12]) 74 (B ((!decide (x70 = 0)) || (!decide (x69 = a3)))) (fun K => ?_) ?_
 ·rcases Bool.eq_false_or_eq_true (!decide (x70 = 0)) with h72 | h72
  ·
   refine gF h72 rfl rfl rfl rfl rfl ?_
   refine gF h72 rfl rfl rfl rfl rfl ?_
   refine gF h72 rfl rfl rfl rfl rfl ?_
   refine sS rfl rfl rfl (opS_pick_t (av := .v _) rfl h72 rfl) ?_
   exact K _ 3 _ (B_congr (or_t h72)) rfl rfl
  ·
   refine gT h72 rfl rfl rfl rfl rfl rfl (AO.ops rfl rfl (mv rfl) ?_)
   refine gT h72 rfl rfl rfl rfl rfl rfl (AO.ops rfl rfl (mv rfl) ?_)
   refine gT h72 rfl rfl rfl rfl rfl rfl (AO.ops rfl rfl (opS_nes rfl rfl) ?_)
   refine sS rfl rfl rfl (opS_pick_f (av := .v _) rfl h72 rfl) ?_
   exact K _ 3 _ (B_congr (or_f h72)) rfl rfl
 refine sS rfl rfl rfl (mv rfl) ?_
 refine AR.meet (l := []) 80 (B (((!decide (x70 = 0)) || (!decide (x69 = a3))) || (!x74))) (fun K => ?_) ?_
 ·rcases Bool.eq_false_or_eq_true ((!decide (x70 = 0)) || (!decide (x69 = a3))) with h73 | h73
  ·
   refine gF h73 rfl rfl rfl rfl rfl ?_
   refine gF h73 rfl rfl rfl rfl rfl ?_
   refine gF h73 rfl rfl rfl rfl rfl ?_
   refine gF h73 rfl rfl rfl rfl rfl ?_
   refine sS rfl rfl rfl (opS_pick_t (av := .v _) rfl h73 rfl) ?_
   exact K _ 4 _ (B_congr (or_t h73)) rfl rfl
  ·
   refine gT h73 rfl rfl rfl rfl rfl rfl (AO.ops rfl rfl (opS_move (av := slE _ _ _) rfl) ?_)
   refine gT h73 rfl rfl rfl rfl rfl rfl (AO.ops rfl rfl (opS_move (av := slE _ _ _) rfl) ?_)
   refine gT h73 rfl rfl rfl rfl rfl rfl (AO.callp rfl en36_parta rfl (show ACalls _ _ _ [] (Ret (B x74) []) from by subst e75; exact lib_bytesEqual x68 a1 none q2) ?_)
   refine gT h73 rfl rfl rfl rfl rfl rfl (AO.ops rfl rfl (opS_not rfl) ?_)
   refine sS rfl rfl rfl (opS_pick_f (av := .v _) rfl h73 rfl) ?_
   exact K _ 4 _ (B_congr (or_f h73)) rfl rfl
 refine AR.nil ?_
 show AW _ _ _ _ _ _
 refine AW.cond rfl (fun c76 => ?_) (fun c76 => ?_)
 ·replace H := cnd_t c76 H
  refine AW.seq ?_
  refine AW.region ?_
  show AR _ _ _ _ _ [0, 1, 2] _
  refine sS rfl rfl rfl (asg rfl) ?_
  refine sS rfl rfl rfl (asg rfl) ?_
  refine sS rfl rfl rfl (asg rfl) ?_
  refine AR.nil ?_
  show AW _ _ _ _ _ _
  refine AW.ret ?_
  obtain ⟨rfl, rfl, rfl⟩ := res3 H
  exact And.intro rfl (Exists.intro _ (Exists.intro _ ⟨ResV.threeW rfl (.nil _) (.nil _) (.refl _), Sub.at [] rfl, rfl, rfl⟩))
 ·replace H := cnd_f c76 H
  refine AW.skip ?_
  show AW _ _ _ _ _ _
  refine AW.seq ?_
  refine AW.region ?_
  show AR _ _ _ _ _ [0, 1, 2, 3, 4] _
  refine sS rfl rfl rfl (opS_move (av := slE _ _ _) rfl) ?_
  refine sS rfl rfl rfl (opS_move (av := slE _ _ _) rfl) ?_
  refine sS rfl rfl rfl (opS_assign (av := slE _ _ _) rfl) ?_
  refine sS rfl rfl rfl (opS_assign (av := slE _ _ _) rfl) ?_
  refine sS rfl rfl rfl (asg rfl) ?_
  refine AR.nil ?_
  show AW _ _ _ _ _ _
  refine AW.ret ?_
  obtain ⟨rfl, rfl, rfl⟩ := res3 H
  exact And.intro rfl (Exists.intro _ (Exists.intro _ ⟨ResV.threeW rfl (.tok _ _ _) (.tok _ _ _) (.refl _), Sub.at [] rfl, rfl, rfl⟩))
end Go.Proofs.YtdaafnaokdigbaaGreatDoor
namespace Go.Pv
def partl_k1 : List UInt8 := [45, 45, 61, 95, 48, 13, 10, 67, 111, 110, 116, 101, 110, 116, 45, 84, 121, 112, 101, 58, 32, 116, 101, 120, 116, 47, 112, 108, 97, 105, 110, 13, 10, 67, 111, 110, 116, 101, 110, 116, 45, 84, 114, 97, 110, 115, 102, 101, 114, 45, 69, 110, 99, 111, 100, 105, 110, 103, 58, 32, 113, 117, 111, 116, 101, 100, 45, 112, 114, 105, 110, 116, 97, 98, 108, 101, 13, 10, 13, 10, 97, 13, 10, 45, 45, 61, 95, 48, 45, 45, 13, 10]
def law15_awake (F : Nat) : Option Bool :=
bnd3 (part_Join F ([([116, 101, 120, 116, 47, 112, 108, 97, 105, 110] : List UInt8)] : List (List UInt8)) ([([97] : List UInt8)] : List (List UInt8))) fun x3 x4 x5 =>
bnd3 (part_Split F x3 ([61, 95, 48] : List UInt8)) fun x7 x8 x9 =>
grdc ((((((decide (x5 = 0)) && (decide (x9 = 0))) && (decide (x4 = ([61, 95, 48] : List UInt8)))) && (decide (x3 = partl_k1))) && (decide ((x7.length : Int) = 1))) && (decide ((x8.length : Int) = 1))) (okAt 0 x8.length) <|
lt (at_ x8 0) fun x18 =>
bndc (((((((decide (x5 = 0)) && (decide (x9 = 0))) && (decide (x4 = ([61, 95, 48] : List UInt8)))) && (decide (x3 = partl_k1))) && (decide ((x7.length : Int) = 1))) && (decide ((x8.length : Int) = 1))) && (decide (x18 = ([97] : List UInt8)))) (part_Boundary F []) fun x21 =>
some ((((((((decide (x5 = 0)) && (decide (x9 = 0))) && (decide (x4 = ([61, 95, 48] : List UInt8)))) && (decide (x3 = partl_k1))) && (decide ((x7.length : Int) = 1))) && (decide ((x8.length : Int) = 1))) && (decide (x18 = ([97] : List UInt8)))) && (decide (x21 = ([61, 95, 48] : List UInt8))))
def law15_Few_j1 : Option Bool :=
some true
def law15_Few_B1 (a3 : List (List UInt8)) (rec19 : Int → Option Bool) (y18 : Int) : Option Bool :=
bif decide (y18 < (a3.length : Int)) then
  grd (okAt y18 a3.length) <|
  lt (at_ a3 y18) fun x23 =>
  bif decide (300 < (x23.length : Int)) then
    some false
  else
    grd (okI (y18 + 1)) <|
    rec19 (y18 + 1)
else
  law15_Few_j1
def law15_Few_L1 (a3 : List (List UInt8)) (n : Nat) : Int → Option Bool :=
  loop (fun rec x => law15_Few_B1 a3 rec x) n
def law15_Few_j2 (F : Nat) (a3 : List (List UInt8)) : Option Bool :=
law15_Few_L1 a3 F 0
def law15_Few_B2 (F : Nat) (a1 : List (List UInt8)) (a3 : List (List UInt8)) (rec9 : Int → Option Bool) (y8 : Int) : Option Bool :=
bif decide (y8 < (a1.length : Int)) then
  grd (okAt y8 a1.length) <|
  lt (at_ a1 y8) fun x13 =>
  bif decide (100 < (x13.length : Int)) then
    some false
  else
    grd (okI (y8 + 1)) <|
    rec9 (y8 + 1)
else
  law15_Few_j2 F a3
def law15_Few_L2 (F : Nat) (a1 : List (List UInt8)) (a3 : List (List UInt8)) (n : Nat) : Int → Option Bool :=
  loop (fun rec x => law15_Few_B2 F a1 a3 rec x) n
def law15_Few (F : Nat) (a1 : List (List UInt8)) (a3 : List (List UInt8)) : Option Bool :=
bif (decide (10 < (a1.length : Int))) || (decide (10 < (a3.length : Int))) then
  some false
else
  law15_Few_L2 F a1 a3 F 0
def law15_same_j1 : Option Bool :=
some true
def law15_same_B1 (a3 : List (List UInt8)) (a7 : List (List UInt8)) (rec26 : Int → Option Bool) (y25 : Int) : Option Bool :=
bif decide (y25 < (a3.length : Int)) then
  grd (okAt y25 a3.length) <|
  lt (at_ a3 y25) fun x30 =>
  grd (okAt y25 a7.length) <|
  lt (at_ a7 y25) fun x33 =>
  bif !decide (x30 = x33) then
    some false
  else
    grd (okI (y25 + 1)) <|
    rec26 (y25 + 1)
else
  law15_same_j1
def law15_same_L1 (a3 : List (List UInt8)) (a7 : List (List UInt8)) (n : Nat) : Int → Option Bool :=
  loop (fun rec x => law15_same_B1 a3 a7 rec x) n
def law15_same_j2 (F : Nat) (a3 : List (List UInt8)) (a7 : List (List UInt8)) : Option Bool :=
law15_same_L1 a3 a7 F 0
def law15_same_B2 (F : Nat) (a1 : List (List UInt8)) (a3 : List (List UInt8)) (a5 : List (List UInt8)) (a7 : List (List UInt8)) (rec13 : Int → Option Bool) (y12 : Int) : Option Bool :=
bif decide (y12 < (a1.length : Int)) then
  grd (okAt y12 a1.length) <|
  lt (at_ a1 y12) fun x17 =>
  grd (okAt y12 a5.length) <|
  lt (at_ a5 y12) fun x20 =>
  bif !decide (x17 = x20) then
    some false
  else
    grd (okI (y12 + 1)) <|
    rec13 (y12 + 1)
else
  law15_same_j2 F a3 a7
def law15_same_L2 (F : Nat) (a1 : List (List UInt8)) (a3 : List (List UInt8)) (a5 : List (List UInt8)) (a7 : List (List UInt8)) (n : Nat) : Int → Option Bool :=
  loop (fun rec x => law15_same_B2 F a1 a3 a5 a7 rec x) n
def law15_same (F : Nat) (a1 : List (List UInt8)) (a3 : List (List UInt8)) (a5 : List (List UInt8)) (a7 : List (List UInt8)) : Option Bool :=
bif (!decide ((a1.length : Int) = (a5.length : Int))) || (!decide ((a3.length : Int) = (a7.length : Int))) then
  some false
else
  law15_same_L2 F a1 a3 a5 a7 F 0
end Go.Pv
namespace Go.Proofs.YtdaafnaokdigbaaGreatDoor
open Go.RowKit Go.Av Go.Pv
theorem en10_partl : ∀ (args : Array Value) (w : World), (callFunc 10 args).run Tryz.prog w = .ok (.enter 10 args) w := fun _ _ => by kernel_rfl
theorem en12_partl : ∀ (args : Array Value) (w : World), (callFunc 12 args).run Tryz.prog w = .ok (.enter 12 args) w := fun _ _ => by kernel_rfl
theorem en14_partl : ∀ (args : Array Value) (w : World), (callFunc 14 args).run Tryz.prog w = .ok (.enter 14 args) w := fun _ _ => by kernel_rfl
set_option maxRecDepth 100000 in
set_option maxHeartbeats 1000000 in
theorem w_law15_awake (F : Nat) (r1 : Bool) (H : law15_awake F = some r1) : ACalls Tryz.prog 8 [] [] (Ret (B r1) []) := by
 unfold law15_awake at H
 refine ACalls.of_body Tryz.func8 rfl rfl ?_
 show AW _ _ 58 _ _ _
 refine AW.seq ?_
 refine AW.region ?_
 show AR _ _ _ _ _ [0] _
 refine sS rfl rfl rfl (asg rfl) ?_
 refine AR.nil ?_
 show AW _ _ _ _ _ _
 refine AW.seq ?_
 obtain ⟨x3, x4, x5, e6, H⟩ := bnd3_s H
 refine AW.region ?_
 show AR _ _ _ _ _ [0, 1, 2, 3, 4, 5, 6, 7, 8, 9, 10, 11] _
 refine sR rfl rfl rfl (opR_buildE (E := Enc.str) (bytes := 16) (xs := [.const _]) (l := ([([116, 101, 120, 116, 47, 112, 108, 97, 105, 110] : List UInt8)] : List (List UInt8))) Tryz.underlying22 (by kernel_rfl) rfl rfl (by decide) rfl rfl) ?_
 refine sX rfl rfl rfl (opX_buildE (E := Enc.byte) (bytes := 1) (xs := [.const _]) (l := ([97] : List UInt8)) Tryz.underlying26 (by kernel_rfl) rfl rfl (by decide) rfl rfl) ?_
 rintro _ _ ⟨t2, rfl, rfl⟩
 refine sR rfl rfl rfl (opR_conv_same 0 Tryz.underlying26 Tryz.underlying5 rfl (by simp) rfl) ?_
 refine sR rfl rfl rfl (OpR.weak1 10 (.tok _ _ _) <| opR_buildE (E := (Enc.sl Enc.byte)) (bytes := 24) (xs := [.tmp 10]) (l := ([([97] : List UInt8)] : List (List UInt8))) Tryz.underlying23 (by kernel_rfl) rfl rfl (by decide) rfl rfl) ?_
 refine AR.run rfl rfl (AO.callp rfl en10_partl rfl (w_part_Join F ([([116, 101, 120, 116, 47, 112, 108, 97, 105, 110] : List UInt8)] : List (List UInt8)) none ([([97] : List UInt8)] : List (List UInt8)) none x3 x4 x5 e6) ?_)
 refine sS rfl rfl rfl (opS_move (av := .tup _) rfl) ?_
 refine sS rfl rfl rfl (opS_extract (av := slE _ _ _) rfl rfl) ?_
 refine sS rfl rfl rfl (opS_extract (av := .v _) rfl rfl) ?_
 refine sS rfl rfl rfl (opS_extract (av := .v _) rfl rfl) ?_
 refine sS rfl rfl rfl (opS_assign (av := slE _ _ _) rfl) ?_
 refine sS rfl rfl rfl (asg rfl) ?_
 refine sS rfl rfl rfl (asg rfl) ?_
 refine AR.nil ?_
 show AW _ _ _ _ _ _
 refine AW.seq ?_
 obtain ⟨x7, x8, x9, e10, H⟩ := bnd3_s H
 refine AW.region ?_
 show AR _ _ _ _ _ [0, 1, 2, 3, 4, 5, 6, 7, 8] _
 refine sS rfl rfl rfl (opS_move (av := slE _ _ _) rfl) ?_
 refine AR.run rfl rfl (AO.callp rfl en14_partl rfl (w_part_Split F x3 none ([61, 95, 48] : List UInt8) x7 x8 x9 e10) ?_)
 refine sS rfl rfl rfl (opS_move (av := .tup _) rfl) ?_
 refine sS rfl rfl rfl (opS_extract (av := slE _ _ _) rfl rfl) ?_
 refine sS rfl rfl rfl (opS_extract (av := slE _ _ _) rfl rfl) ?_
 refine sS rfl rfl rfl (opS_extract (av := .v _) rfl rfl) ?_
 refine sS rfl rfl rfl (opS_assign (av := slE _ _ _) rfl) ?_
 refine sS rfl rfl rfl (opS_assign (av := slE _ _ _) rfl) ?_
 refine sS rfl rfl rfl (asg rfl) ?_
 refine AR.nil ?_
 show AW _ _ _ _ _ _
 refine AW.seq ?_
 obtain ⟨g17, H⟩ := grdc_s H
 obtain ⟨x18, e19, H⟩ := lt_s H
 obtain ⟨x21, e22, H⟩ := bndc_s H
 refine AW.region ?_
 show AR _ _ _ _ _ [0, 1, 2, 3, 4, 5, 6, 7, 8, 9, 10, 11, 12, 13, 14, 15, 16, 17, 18, 19, 20, 21, 22, 23, 24, 25, 26, 27, 28, 29, 30, 31, 32, 33, 34, 35, 36] _
 refine sS rfl rfl rfl (mv rfl) ?_
 refine sS rfl rfl rfl (opS_eqi rfl rfl) ?_
 refine sS rfl rfl rfl (mv rfl) ?_
 refine AR.meet (l := [6, 7, 8, 9, 10, 11, 12, 13, 14, 15, 16, 17, 18, 19, 20, 21, 22, 23, 24, 25, 26, 27, 28, 29, 30, 31, 32, 33, 34, 35, 36]) 27 (B ((decide (x5 = 0)) && (decide (x9 = 0)))) (fun K => ?_) ?_
 ·rcases Bool.eq_false_or_eq_true (decide (x5 = 0)) with h11 | h11
  ·
   refine gT h11 rfl rfl rfl rfl rfl rfl (AO.ops rfl rfl (mv rfl) ?_)
   refine gT h11 rfl rfl rfl rfl rfl rfl (AO.ops rfl rfl (opS_eqi rfl rfl) ?_)
   refine sS rfl rfl rfl (opS_pick_t (av := .v _) rfl h11 rfl) ?_
   exact K _ 2 _ (B_congr (and_t h11)) rfl rfl
  ·
   refine gF h11 rfl rfl rfl rfl rfl ?_
   refine gF h11 rfl rfl rfl rfl rfl ?_
   refine sS rfl rfl rfl (opS_pick_f (av := .v _) rfl h11 rfl) ?_
   exact K _ 2 _ (B_congr (and_f h11)) rfl rfl
 refine sS rfl rfl rfl (mv rfl) ?_
 refine AR.meet (l := [10, 11, 12, 13, 14, 15, 16, 17, 18, 19, 20, 21, 22, 23, 24, 25, 26, 27, 28, 29, 30, 31, 32, 33, 34, 35, 36]) 31 (B (((decide (x5 = 0)) && (decide (x9 = 0))) && (decide (x4 = ([61, 95, 48] : List UInt8))))) (fun K => ?_) ?_
 ·rcases Bool.eq_false_or_eq_true ((decide (x5 = 0)) && (decide (x9 = 0))) with h12 | h12
  ·
   refine gT h12 rfl rfl rfl rfl rfl rfl (AO.ops rfl rfl (mv rfl) ?_)
   refine gT h12 rfl rfl rfl rfl rfl rfl (AO.ops rfl rfl (opS_eqs rfl rfl) ?_)
   refine sS rfl rfl rfl (opS_pick_t (av := .v _) rfl h12 rfl) ?_
   exact K _ 2 _ (B_congr (and_t h12)) rfl rfl
  ·
   refine gF h12 rfl rfl rfl rfl rfl ?_
   refine gF h12 rfl rfl rfl rfl rfl ?_
   refine sS rfl rfl rfl (opS_pick_f (av := .v _) rfl h12 rfl) ?_
   exact K _ 2 _ (B_congr (and_f h12)) rfl rfl
 refine sS rfl rfl rfl (mv rfl) ?_
 refine AR.meet (l := [15, 16, 17, 18, 19, 20, 21, 22, 23, 24, 25, 26, 27, 28, 29, 30, 31, 32, 33, 34, 35, 36]) 36 (B ((((decide (x5 = 0)) && (decide (x9 = 0))) && (decide (x4 = ([61, 95, 48] : List UInt8)))) && (decide (x3 = partl_k1)))) (fun K => ?_) ?_
 ·rcases Bool.eq_false_or_eq_true (((decide (x5 = 0)) && (decide (x9 = 0))) && (decide (x4 = ([61, 95, 48] : List UInt8)))) with h13 | h13
  ·
   refine gT h13 rfl rfl rfl rfl rfl rfl (AO.ops rfl rfl (opS_move (av := slE _ _ _) rfl) ?_)
   refine gT h13 rfl rfl rfl rfl rfl rfl (AO.ops rfl rfl (opS_conv_bytes_str Tryz.underlying26 Tryz.underlying5 Tryz.underlying9 rfl) ?_)
   refine gT h13 rfl rfl rfl rfl rfl rfl (AO.ops rfl rfl (opS_eqs rfl rfl) ?_)
   refine sS rfl rfl rfl (opS_pick_t (av := .v _) rfl h13 rfl) ?_
   exact K _ 3 _ (B_congr (and_t h13)) rfl rfl
  ·
   refine gF h13 rfl rfl rfl rfl rfl ?_
   refine gF h13 rfl rfl rfl rfl rfl ?_
   refine gF h13 rfl rfl rfl rfl rfl ?_
   refine sS rfl rfl rfl (opS_pick_f (av := .v _) rfl h13 rfl) ?_
   exact K _ 3 _ (B_congr (and_f h13)) rfl rfl
 refine sS rfl rfl rfl (mv rfl) ?_
 refine AR.meet (l := [20, 21, 22, 23, 24, 25, 26, 27, 28, 29, 30, 31, 32, 33, 34, 35, 36]) 41 (B (((((decide (x5 = 0)) && (decide (x9 = 0))) && (decide (x4 = ([61, 95, 48] : List UInt8)))) && (decide (x3 = partl_k1))) && (decide ((x7.length : Int) = 1)))) (fun K => ?_) ?_
 ·rcases Bool.eq_false_or_eq_true ((((decide (x5 = 0)) && (decide (x9 = 0))) && (decide (x4 = ([61, 95, 48] : List UInt8)))) && (decide (x3 = partl_k1))) with h14 | h14
  ·
   refine gT h14 rfl rfl rfl rfl rfl rfl (AO.ops rfl rfl (opS_move (av := slE _ _ _) rfl) ?_)
   refine gT h14 rfl rfl rfl rfl rfl rfl (AO.ops rfl rfl (opS_len_sl Tryz.underlying22 rfl) ?_)
   refine gT h14 rfl rfl rfl rfl rfl rfl (AO.ops rfl rfl (opS_eqi rfl rfl) ?_)
   refine sS rfl rfl rfl (opS_pick_t (av := .v _) rfl h14 rfl) ?_
   exact K _ 3 _ (B_congr (and_t h14)) rfl rfl
  ·
   refine gF h14 rfl rfl rfl rfl rfl ?_
   refine gF h14 rfl rfl rfl rfl rfl ?_
   refine gF h14 rfl rfl rfl rfl rfl ?_
   refine sS rfl rfl rfl (opS_pick_f (av := .v _) rfl h14 rfl) ?_
   exact K _ 3 _ (B_congr (and_f h14)) rfl rfl
 refine sS rfl rfl rfl (mv rfl) ?_
 refine AR.meet (l := [25, 26, 27, 28, 29, 30, 31, 32, 33, 34, 35, 36]) 46 (B ((((((decide (x5 = 0)) && (decide (x9 = 0))) && (decide (x4 = ([61, 95, 48] : List UInt8)))) && (decide (x3 = partl_k1))) && (decide ((x7.length : Int) = 1))) && (decide ((x8.length : Int) = 1)))) (fun K => ?_) ?_
 ·rcases Bool.eq_false_or_eq_true (((((decide (x5 = 0)) && (decide (x9 = 0))) && (decide (x4 = ([61, 95, 48] : List UInt8)))) && (decide (x3 = partl_k1))) && (decide ((x7.length : Int) = 1))) with h15 | h15
  ·
   refine gT h15 rfl rfl rfl rfl rfl rfl (AO.ops rfl rfl (opS_move (av := slE _ _ _) rfl) ?_)
   refine gT h15 rfl rfl rfl rfl rfl rfl (AO.ops rfl rfl (opS_len_sl Tryz.underlying23 rfl) ?_)
   refine gT h15 rfl rfl rfl rfl rfl rfl (AO.ops rfl rfl (opS_eqi rfl rfl) ?_)
   refine sS rfl rfl rfl (opS_pick_t (av := .v _) rfl h15 rfl) ?_
   exact K _ 3 _ (B_congr (and_t h15)) rfl rfl
  ·
   refine gF h15 rfl rfl rfl rfl rfl ?_
   refine gF h15 rfl rfl rfl rfl rfl ?_
   refine gF h15 rfl rfl rfl rfl rfl ?_
   refine sS rfl rfl rfl (opS_pick_f (av := .v _) rfl h15 rfl) ?_
   exact K _ 3 _ (B_congr (and_f h15)) rfl rfl
 refine sS rfl rfl rfl (mv rfl) ?_
 refine AR.meet (l := [32, 33, 34, 35, 36]) 53 (B (((((((decide (x5 = 0)) && (decide (x9 = 0))) && (decide (x4 = ([61, 95, 48] : List UInt8)))) && (decide (x3 = partl_k1))) && (decide ((x7.length : Int) = 1))) && (decide ((x8.length : Int) = 1))) && (decide (x18 = ([97] : List UInt8))))) (fun K => ?_) ?_
 ·rcases Bool.eq_false_or_eq_true ((((((decide (x5 = 0)) && (decide (x9 = 0))) && (decide (x4 = ([61, 95, 48] : List UInt8)))) && (decide (x3 = partl_k1))) && (decide ((x7.length : Int) = 1))) && (decide ((x8.length : Int) = 1))) with h16 | h16
  ·
   refine gT h16 rfl rfl rfl rfl rfl rfl (AO.ops rfl rfl (opS_move (av := slE _ _ _) rfl) ?_)
   refine gT h16 rfl rfl rfl rfl rfl rfl (AO.ops rfl rfl (g_indexAddr (E := (Enc.sl Enc.byte)) Tryz.underlying23 (by kernel_rfl) rfl rfl (g17 h16) e19) ?_)
   refine gT h16 rfl rfl rfl rfl rfl rfl (AO.ops rfl rfl (opS_load_cp Tryz.underlying26 rfl rfl) ?_)
   refine gT h16 rfl rfl rfl rfl rfl rfl (AO.ops rfl rfl (opS_conv_bytes_str Tryz.underlying26 Tryz.underlying5 Tryz.underlying9 rfl) ?_)
   refine gT h16 rfl rfl rfl rfl rfl rfl (AO.ops rfl rfl (opS_eqs rfl rfl) ?_)
   refine sS rfl rfl rfl (opS_pick_t (av := .v _) rfl h16 rfl) ?_
   exact K _ 5 _ (B_congr (and_t h16)) rfl rfl
  ·
   refine gF h16 rfl rfl rfl rfl rfl ?_
   refine gF h16 rfl rfl rfl rfl rfl ?_
   refine gF h16 rfl rfl rfl rfl rfl ?_
   refine gF h16 rfl rfl rfl rfl rfl ?_
   refine gF h16 rfl rfl rfl rfl rfl ?_
   refine sS rfl rfl rfl (opS_pick_f (av := .v _) rfl h16 rfl) ?_
   exact K _ 5 _ (B_congr (and_f h16)) rfl rfl
 refine sS rfl rfl rfl (mv rfl) ?_
 refine AR.meet (l := [36]) 57 (B ((((((((decide (x5 = 0)) && (decide (x9 = 0))) && (decide (x4 = ([61, 95, 48] : List UInt8)))) && (decide (x3 = partl_k1))) && (decide ((x7.length : Int) = 1))) && (decide ((x8.length : Int) = 1))) && (decide (x18 = ([97] : List UInt8)))) && (decide (x21 = ([61, 95, 48] : List UInt8))))) (fun K => ?_) ?_
 ·rcases Bool.eq_false_or_eq_true (((((((decide (x5 = 0)) && (decide (x9 = 0))) && (decide (x4 = ([61, 95, 48] : List UInt8)))) && (decide (x3 = partl_k1))) && (decide ((x7.length : Int) = 1))) && (decide ((x8.length : Int) = 1))) && (decide (x18 = ([97] : List UInt8)))) with h20 | h20
  ·
   refine gT h20 rfl rfl rfl rfl rfl rfl (AO.callp rfl en12_partl rfl (ACalls.weakA (.cons (.nil _) (.nil)) (w_part_Boundary F [] none x21 (e22 h20))) ?_)
   refine gT h20 rfl rfl rfl rfl rfl rfl (AO.ops rfl rfl (opS_eqs rfl rfl) ?_)
   refine sS rfl rfl rfl (opS_pick_t (av := .v _) rfl h20 rfl) ?_
   exact K _ 2 _ (B_congr (and_t h20)) rfl rfl
  ·
   refine gF h20 rfl rfl rfl rfl rfl ?_
   refine gF h20 rfl rfl rfl rfl rfl ?_
   refine sS rfl rfl rfl (opS_pick_f (av := .v _) rfl h20 rfl) ?_
   exact K _ 2 _ (B_congr (and_f h20)) rfl rfl
 refine sS rfl rfl rfl (asg rfl) ?_
 refine AR.nil ?_
 show AW _ _ _ _ _ _
 refine AW.ret ?_
 obtain rfl := Option.some.inj H
 exact And.intro rfl (Exists.intro _ (Exists.intro _ ⟨ResV.oneW rfl (.refl _), Sub.at [] rfl, rfl, rfl⟩))
set_option maxRecDepth 100000 in
set_option maxHeartbeats 1000000 in
theorem w_law15_Few (F : Nat) (a1 : List (List UInt8)) (q2 : Option Nat) (a3 : List (List UInt8)) (q4 : Option Nat) (r5 : Bool) (H : law15_Few F a1 a3 = some r5) : ACalls Tryz.prog 9 [slE Enc.str a1 q2, slE (Enc.sl Enc.byte) a3 q4] [] (Ret (B r5) []) := by
 unfold law15_Few at H
 refine ACalls.of_body Tryz.func9 rfl rfl ?_
 show AW _ _ 39 _ _ _
 refine AW.seq ?_
 refine AW.region ?_
 show AR _ _ _ _ _ [0] _
 refine sS rfl rfl rfl (asg rfl) ?_
 refine AR.nil ?_
 show AW _ _ _ _ _ _
 refine AW.seq ?_
 refine AW.seq ?_
 refine AW.region ?_
 show AR _ _ _ _ _ [0, 1, 2, 3, 4, 5, 6, 7] _
 refine sS rfl rfl rfl (opS_move (av := slE _ _ _) rfl) ?_
 refine sS rfl rfl rfl (opS_len_sl Tryz.underlying22 rfl) ?_
 refine sS rfl rfl rfl (opS_gt rfl rfl) ?_
 refine sS rfl rfl rfl (mv rfl) ?_
 refine AR.meet (l := []) 14 (B ((decide (10 < (a1.length : Int))) || (decide (10 < (a3.length : Int))))) (fun K => ?_) ?_
 ·rcases Bool.eq_false_or_eq_true (decide (10 < (a1.length : Int))) with h6 | h6
  ·
   refine gF h6 rfl rfl rfl rfl rfl ?_
   refine gF h6 rfl rfl rfl rfl rfl ?_
   refine gF h6 rfl rfl rfl rfl rfl ?_
   refine sS rfl rfl rfl (opS_pick_t (av := .v _) rfl h6 rfl) ?_
   exact K _ 3 _ (B_congr (or_t h6)) rfl rfl
  ·
   refine gT h6 rfl rfl rfl rfl rfl rfl (AO.ops rfl rfl (opS_move (av := slE _ _ _) rfl) ?_)
   refine gT h6 rfl rfl rfl rfl rfl rfl (AO.ops rfl rfl (opS_len_sl Tryz.underlying23 rfl) ?_)
   refine gT h6 rfl rfl rfl rfl rfl rfl (AO.ops rfl rfl (opS_gt rfl rfl) ?_)
   refine sS rfl rfl rfl (opS_pick_f (av := .v _) rfl h6 rfl) ?_
   exact K _ 3 _ (B_congr (or_f h6)) rfl rfl
 refine AR.nil ?_
 show AW _ _ _ _ _ _
 refine AW.cond rfl (fun c7 => ?_) (fun c7 => ?_)
 ·replace H := cnd_t c7 H
  refine AW.seq ?_
  refine AW.region ?_
  show AR _ _ _ _ _ [0] _
  refine sS rfl rfl rfl (asg rfl) ?_
  refine AR.nil ?_
  show AW _ _ _ _ _ _
  refine AW.ret ?_
  obtain rfl := Option.some.inj H
  exact And.intro rfl (Exists.intro _ (Exists.intro _ ⟨ResV.oneW rfl (.refl _), Sub.at [] rfl, rfl, rfl⟩))
 ·replace H := cnd_f c7 H
  refine AW.skip ?_
  show AW _ _ _ _ _ _
  refine AW.cut (X := Unit) (fun _ => ⟨[(1, slE (Enc.sl Enc.byte) a3 q4)], [], []⟩) (fun _ => law15_Few_j2 F a3 = some r5) ?_ ?_
  ·
   refine AW.seq ?_
   refine AW.region ?_
   show AR _ _ _ _ _ [0] _
   refine sS rfl rfl rfl (asg rfl) ?_
   refine AR.nil ?_
   show AW _ _ _ _ _ _
   refine AW.block ?_
   refine AW.loop (X := Nat × Int) (fun (n10, y8) => ⟨[(0, slE Enc.str a1 q2), (1, slE (Enc.sl Enc.byte) a3 q4), (5, i64 y8)], [], []⟩) (fun (n10, y8) => law15_Few_L2 F a1 a3 n10 y8 = some r5) (fun (n10, y8) => n10) (F, 0) H (WK.at [] (.cons (.refl _) (.cons (.refl _) (.cons (.refl _) (.nil _)))) rfl) ?_
   rintro ⟨n10, y8⟩ H
   obtain ⟨n10, rfl, H⟩ := loop_s H
   replace H : law15_Few_B2 F a1 a3 (law15_Few_L2 F a1 a3 n10) y8 = some r5 := H
   unfold law15_Few_B2 at H
   show AW _ _ _ _ _ _
   refine AW.seq ?_
   refine AW.seq ?_
   refine AW.region ?_
   show AR _ _ _ _ _ [0, 1, 2, 3] _
   refine sS rfl rfl rfl (mv rfl) ?_
   refine sS rfl rfl rfl (opS_move (av := slE _ _ _) rfl) ?_
   refine sS rfl rfl rfl (opS_len_sl Tryz.underlying22 rfl) ?_
   refine sS rfl rfl rfl (opS_lt rfl rfl) ?_
   refine AR.nil ?_
   show AW _ _ _ _ _ _
   refine AW.cond rfl (fun c11 => ?_) (fun c11 => ?_)
   ·replace H := cnd_t c11 H
    refine AW.skip ?_
    show AW _ _ _ _ _ _
    refine AW.seq ?_
    refine AW.block ?_
    refine AW.seq ?_
    obtain ⟨g12, H⟩ := grd_s H
    obtain ⟨x13, e14, H⟩ := lt_s H
    refine AW.region ?_
    show AR _ _ _ _ _ [0, 1, 2, 3, 4, 5] _
    refine sS rfl rfl rfl (opS_move (av := slE _ _ _) rfl) ?_
    refine sS rfl rfl rfl (mv rfl) ?_
    refine sS rfl rfl rfl (g_indexAddr (E := Enc.str) Tryz.underlying22 (by kernel_rfl) rfl rfl g12 e14) ?_
    refine sS rfl rfl rfl (opS_load_cp Tryz.underlying9 rfl rfl) ?_
    refine sS rfl rfl rfl (opS_len_str Tryz.underlying9 rfl) ?_
    refine sS rfl rfl rfl (opS_gt rfl rfl) ?_
    refine AR.nil ?_
    show AW _ _ _ _ _ _
    refine AW.cond rfl (fun c15 => ?_) (fun c15 => ?_)
    ·replace H := cnd_t c15 H
     refine AW.seq ?_
     refine AW.region ?_
     show AR _ _ _ _ _ [0] _
     refine sS rfl rfl rfl (asg rfl) ?_
     refine AR.nil ?_
     show AW _ _ _ _ _ _
     refine AW.ret ?_
     obtain rfl := Option.some.inj H
     exact And.intro rfl (Exists.intro _ (Exists.intro _ ⟨ResV.oneW rfl (.refl _), Sub.at [] rfl, rfl, rfl⟩))
    ·replace H := cnd_f c15 H
     refine AW.skip ?_
     show AW _ _ _ _ _ _
     obtain ⟨g16, H⟩ := grd_s H
     refine AW.region ?_
     show AR _ _ _ _ _ [0, 1, 2] _
     refine sS rfl rfl rfl (mv rfl) ?_
     refine sS rfl rfl rfl (g_add rfl rfl g16) ?_
     refine sS rfl rfl rfl (asg rfl) ?_
     refine AR.nil ?_
     exact Exists.intro (n10, y8 + 1) ⟨H, Nat.lt_succ_self _, WK.at [] (.cons (.refl _) (.cons (.refl _) (.cons (.refl _) (.nil _)))) rfl⟩
   ·replace H := cnd_f c11 H
    refine AW.exit ?_
    exact Exists.intro () ⟨H, WK.at [] (.cons (.refl _) (.nil _)) rfl⟩
  rintro _ H
  replace H : law15_Few_j2 F a3 = some r5 := H
  unfold law15_Few_j2 at H
  show AW _ _ _ _ _ _
  refine AW.cut (X := Unit) (fun _ => ⟨[], [], []⟩) (fun _ => law15_Few_j1 = some r5) ?_ ?_
  ·
   refine AW.seq ?_
   refine AW.region ?_
   show AR _ _ _ _ _ [0] _
   refine sS rfl rfl rfl (asg rfl) ?_
   refine AR.nil ?_
   show AW _ _ _ _ _ _
   refine AW.block ?_
   refine AW.loop (X := Nat × Int) (fun (n20, y18) => ⟨[(1, slE (Enc.sl Enc.byte) a3 q4), (6, i64 y18)], [], []⟩) (fun (n20, y18) => law15_Few_L1 a3 n20 y18 = some r5) (fun (n20, y18) => n20) (F, 0) H (WK.at [] (.cons (.refl _) (.cons (.refl _) (.nil _))) rfl) ?_
   rintro ⟨n20, y18⟩ H
   obtain ⟨n20, rfl, H⟩ := loop_s H
   replace H : law15_Few_B1 a3 (law15_Few_L1 a3 n20) y18 = some r5 := H
   unfold law15_Few_B1 at H
   show AW _ _ _ _ _ _
   refine AW.seq ?_
   refine AW.seq ?_
   refine AW.region ?_
   show AR _ _ _ _ _ [0, 1, 2, 3] _
   refine sS rfl rfl rfl (mv rfl) ?_
   refine sS rfl rfl rfl (opS_move (av := slE _ _ _) rfl) ?_
   refine sS rfl rfl rfl (opS_len_sl Tryz.underlying23 rfl) ?_
   refine sS rfl rfl rfl (opS_lt rfl rfl) ?_
   refine AR.nil ?_
   show AW _ _ _ _ _ _
   refine AW.cond rfl (fun c21 => ?_) (fun c21 => ?_)
   ·replace H := cnd_t c21 H
    refine AW.skip ?_
    show AW _ _ _ _ _ _
    refine AW.seq ?_
    refine AW.block ?_
    refine AW.seq ?_
    obtain ⟨g22, H⟩ := grd_s H
    obtain ⟨x23, e24, H⟩ := lt_s H
    refine AW.region ?_
    show AR _ _ _ _ _ [0, 1, 2, 3, 4, 5] _
    refine sS rfl rfl rfl (opS_move (av := slE _ _ _) rfl) ?_
    refine sS rfl rfl rfl (mv rfl) ?_
    refine sS rfl rfl rfl (g_indexAddr (E := (Enc.sl Enc.byte)) Tryz.underlying23 (by kernel_rfl) rfl rfl g22 e24) ?_
    refine sS rfl rfl rfl (opS_load_cp Tryz.underlying26 rfl rfl) ?_
    refine sS rfl rfl rfl (opS_len_sl Tryz.underlying26 rfl) ?_
    refine sS rfl rfl rfl (opS_gt rfl rfl) ?_
    refine AR.nil ?_
    show AW _ _ _ _ _ _
    refine AW.cond rfl (fun c25 => ?_) (fun c25 => ?_)
    ·replace H := cnd_t c25 H
     refine AW.seq ?_
     refine AW.region ?_
     show AR _ _ _ _ _ [0] _
     refine sS rfl rfl rfl (asg rfl) ?_
     refine AR.nil ?_
     show AW _ _ _ _ _ _
     refine AW.ret ?_
     obtain rfl := Option.some.inj H
     exact And.intro rfl (Exists.intro _ (Exists.intro _ ⟨ResV.oneW rfl (.refl _), Sub.at [] rfl, rfl, rfl⟩))
    ·replace H := cnd_f c25 H
     refine AW.skip ?_
     show AW _ _ _ _ _ _
     obtain ⟨g26, H⟩ := grd_s H
     refine AW.region ?_
     show AR _ _ _ _ _ [0, 1, 2] _
     refine sS rfl rfl rfl (mv rfl) ?_
     refine sS rfl rfl rfl (g_add rfl rfl g26) ?_
     refine sS rfl rfl rfl (asg rfl) ?_
     refine AR.nil ?_
     exact Exists.intro (n20, y18 + 1) ⟨H, Nat.lt_succ_self _, WK.at [] (.cons (.refl _) (.cons (.refl _) (.nil _))) rfl⟩
   ·replace H := cnd_f c21 H
    refine AW.exit ?_
    exact Exists.intro () ⟨H, WK.at [] (.nil _) rfl⟩
  rintro _ H
  replace H : law15_Few_j1 = some r5 := H
  unfold law15_Few_j1 at H
  show AW _ _ _ _ _ _
  refine AW.seq ?_
  refine AW.region ?_
  show AR _ _ _ _ _ [0] _
  refine sS rfl rfl rfl (asg rfl) ?_
  refine AR.nil ?_
  show AW _ _ _ _ _ _
  refine AW.ret ?_
  obtain rfl := Option.some.inj H
  exact And.intro rfl (Exists.intro _ (Exists.intro _ ⟨ResV.oneW rfl (.refl _), Sub.at [] rfl, rfl, rfl⟩))
set_option maxRecDepth 100000 in
set_option maxHeartbeats 1000000 in
theorem w_law15_same (F : Nat) (a1 : List (List UInt8)) (q2 : Option Nat) (a3 : List (List UInt8)) (q4 : Option Nat) (a5 : List (List UInt8)) (q6 : Option Nat) (a7 : List (List UInt8)) (q8 : Option Nat) (r9 : Bool) (H : law15_same F a1 a3 a5 a7 = some r9) : ACalls Tryz.prog 16 [slE Enc.str a1 q2, slE (Enc.sl Enc.byte) a3 q4, slE Enc.str a5 q6, slE (Enc.sl Enc.byte) a7 q8] [] (Ret (B r9) []) := by
 unfold law15_same at H
 refine ACalls.of_body Tryz.func16 rfl rfl ?_
 show AW _ _ 55 _ _ _
 refine AW.seq ?_
 refine AW.region ?_
 show AR _ _ _ _ _ [0] _
 refine sS rfl rfl rfl (asg rfl) ?_
 refine AR.nil ?_
 show AW _ _ _ _ _ _
 refine AW.seq ?_
 refine AW.seq ?_
 refine AW.region ?_
 show AR _ _ _ _ _ [0, 1, 2, 3, 4, 5, 6, 7, 8, 9, 10, 11] _
 refine sS rfl rfl rfl (opS_move (av := slE _ _ _) rfl) ?_
 refine sS rfl rfl rfl (opS_len_sl Tryz.underlying22 rfl) ?_
 refine sS rfl rfl rfl (opS_move (av := slE _ _ _) rfl) ?_
 refine sS rfl rfl rfl (opS_len_sl Tryz.underlying22 rfl) ?_
 refine sS rfl rfl rfl (opS_nei rfl rfl) ?_
 refine sS rfl rfl rfl (mv rfl) ?_
 refine AR.meet (l := []) 22 (B ((!decide ((a1.length : Int) = (a5.length : Int))) || (!decide ((a3.length : Int) = (a7.length : Int))))) (fun K => ?_) ?_
 ·rcases Bool.eq_false_or_eq_true (!decide ((a1.length : Int) = (a5.length : Int))) with h10 | h10
  ·
   refine gF h10 rfl rfl rfl rfl rfl ?_
   refine gF h10 rfl rfl rfl rfl rfl ?_
   refine gF h10 rfl rfl rfl rfl rfl ?_
   refine gF h10 rfl rfl rfl rfl rfl ?_
   refine gF h10 rfl rfl rfl rfl rfl ?_
   refine sS rfl rfl rfl (opS_pick_t (av := .v _) rfl h10 rfl) ?_
   exact K _ 5 _ (B_congr (or_t h10)) rfl rfl
  ·
   refine gT h10 rfl rfl rfl rfl rfl rfl (AO.ops rfl rfl (opS_move (av := slE _ _ _) rfl) ?_)
   refine gT h10 rfl rfl rfl rfl rfl rfl (AO.ops rfl rfl (opS_len_sl Tryz.underlying23 rfl) ?_)
   refine gT h10 rfl rfl rfl rfl rfl rfl (AO.ops rfl rfl (opS_move (av := slE _ _ _) rfl) ?_)
   refine gT h10 rfl rfl rfl rfl rfl rfl (AO.ops rfl rfl (opS_len_sl Tryz.underlying23 rfl) ?_)
   refine gT h10 rfl rfl rfl rfl rfl rfl (AO.ops rfl rfl (opS_nei rfl rfl) ?_)
   refine sS rfl rfl rfl (opS_pick_f (av := .v _) rfl h10 rfl) ?_
   exact K _ 5 _ (B_congr (or_f h10)) rfl rfl
 refine AR.nil ?_
 show AW _ _ _ _ _ _
 refine AW.cond rfl (fun c11 => ?_) (fun c11 => ?_)
 ·replace H := cnd_t c11 H
  refine AW.seq ?_
  refine AW.region ?_
  show AR _ _ _ _ _ [0] _
  refine sS rfl rfl rfl (asg rfl) ?_
  refine AR.nil ?_
  show AW _ _ _ _ _ _
  refine AW.ret ?_
  obtain rfl := Option.some.inj H
  exact And.intro rfl (Exists.intro _ (Exists.intro _ ⟨ResV.oneW rfl (.refl _), Sub.at [] rfl, rfl, rfl⟩))
 ·replace H := cnd_f c11 H
  refine AW.skip ?_
  show AW _ _ _ _ _ _
  refine AW.cut (X := Unit) (fun _ => ⟨[(1, slE (Enc.sl Enc.byte) a3 q4), (3, slE (Enc.sl Enc.byte) a7 q8)], [], []⟩) (fun _ => law15_same_j2 F a3 a7 = some r9) ?_ ?_
  ·
   refine AW.seq ?_
   refine AW.region ?_
   show AR _ _ _ _ _ [0] _
   refine sS rfl rfl rfl (asg rfl) ?_
   refine AR.nil ?_
   show AW _ _ _ _ _ _
   refine AW.block ?_
   refine AW.loop (X := Nat × Int) (fun (n14, y12) => ⟨[(0, slE Enc.str a1 q2), (1, slE (Enc.sl Enc.byte) a3 q4), (2, slE Enc.str a5 q6), (3, slE (Enc.sl Enc.byte) a7 q8), (9, i64 y12)], [], []⟩) (fun (n14, y12) => law15_same_L2 F a1 a3 a5 a7 n14 y12 = some r9) (fun (n14, y12) => n14) (F, 0) H (WK.at [] (.cons (.refl _) (.cons (.refl _) (.cons (.refl _) (.cons (.refl _) (.cons (.refl _) (.nil _)))))) rfl) ?_
   rintro ⟨n14, y12⟩ H
   obtain ⟨n14, rfl, H⟩ := loop_s H
   replace H : law15_same_B2 F a1 a3 a5 a7 (law15_same_L2 F a1 a3 a5 a7 n14) y12 = some r9 := H
   unfold law15_same_B2 at H
   show AW _ _ _ _ _ _
   refine AW.seq ?_
   refine AW.seq ?_
   refine AW.region ?_
   show AR _ _ _ _ _ [0, 1, 2, 3] _
   refine sS rfl rfl rfl (mv rfl) ?_
   refine sS rfl rfl rfl (opS_move (av := slE _ _ _) rfl) ?_
   refine sS rfl rfl rfl (opS_len_sl Tryz.underlying22 rfl) ?_
   refine sS rfl rfl rfl (opS_lt rfl rfl) ?_
   refine AR.nil ?_
   show AW _ _ _ _ _ _
   refine AW.cond rfl (fun c15 => ?_) (fun c15 => ?_)
   ·replace H := cnd_t c15 H
    refine AW.skip ?_
    show AW _ _ _ _ _ _
    refine AW.seq ?_
    refine AW.block ?_
    refine AW.seq ?_
    obtain ⟨g16, H⟩ := grd_s H
    obtain ⟨x17, e18, H⟩ := lt_s H
    obtain ⟨g19, H⟩ := grd_s H
    obtain ⟨x20, e21, H⟩ := lt_s H
    refine AW.region_draw (by kernel_rfl) ?_
    show AI _ _ _ _ _ 9 (Array.replicate 9 false) _
    refine AI.take (i := 0) rfl rfl (by kernel_rfl) (by kernel_rfl) (by kernel_rfl) (fun _ _ h => h) (opS_move (av := slE _ _ _) rfl) ?_
    show AI _ _ _ _ _ _ #[true, false, false, false, false, false, false, false, false] _
    refine AI.take (i := 1) rfl rfl (by kernel_rfl) (by kernel_rfl) (by kernel_rfl) (fun _ _ h => h) (mv rfl) ?_
    show AI _ _ _ _ _ _ #[true, true, false, false, false, false, false, false, false] _
    refine AI.take (i := 2) rfl rfl (by kernel_rfl) (by kernel_rfl) (by kernel_rfl) (fun _ _ h => h) (g_indexAddr (E := Enc.str) Tryz.underlying22 (by kernel_rfl) rfl rfl g16 e18) ?_
    show AI _ _ _ _ _ _ #[true, true, true, false, false, false, false, false, false] _
    refine AI.take (i := 3) rfl rfl (by kernel_rfl) (by kernel_rfl) (by kernel_rfl) (fun _ _ h => h) (opS_load_cp Tryz.underlying9 rfl rfl) ?_
    show AI _ _ _ _ _ _ #[true, true, true, true, false, false, false, false, false] _
    refine AI.take (i := 4) rfl rfl (by kernel_rfl) (by kernel_rfl) (by kernel_rfl) (fun _ _ h => h) (opS_move (av := slE _ _ _) rfl) ?_
    show AI _ _ _ _ _ _ #[true, true, true, true, true, false, false, false, false] _
    refine AI.take (i := 5) rfl rfl (by kernel_rfl) (by kernel_rfl) (by kernel_rfl) (fun _ _ h => h) (mv rfl) ?_
    show AI _ _ _ _ _ _ #[true, true, true, true, true, true, false, false, false] _
    refine AI.take (i := 6) rfl rfl (by kernel_rfl) (by kernel_rfl) (by kernel_rfl) (fun _ _ h => h) (g_indexAddr (E := Enc.str) Tryz.underlying22 (by kernel_rfl) rfl rfl g19 e21) ?_
    show AI _ _ _ _ _ _ #[true, true, true, true, true, true, true, false, false] _
    refine AI.take (i := 7) rfl rfl (by kernel_rfl) (by kernel_rfl) (by kernel_rfl) (fun _ _ h => h) (opS_load_cp Tryz.underlying9 rfl rfl) ?_
    show AI _ _ _ _ _ _ #[true, true, true, true, true, true, true, true, false] _
    refine AI.take (i := 8) rfl rfl (by kernel_rfl) (by kernel_rfl) (by kernel_rfl) (fun _ _ h => h) (opS_nes rfl rfl) ?_
    show AI _ _ _ _ _ _ #[true, true, true, true, true, true, true, true, true] _
    refine AI.done rfl ?_
    show AW _ _ _ _ _ _
    refine AW.cond rfl (fun c22 => ?_) (fun c22 => ?_)
    ·replace H := cnd_t c22 H
     refine AW.seq ?_
     refine AW.region ?_
     show AR _ _ _ _ _ [0] _
     refine sS rfl rfl rfl (asg rfl) ?_
     refine AR.nil ?_
     show AW _ _ _ _ _ _
     refine AW.ret ?_
     obtain rfl := Option.some.inj H
     exact And.intro rfl (Exists.intro _ (Exists.intro _ ⟨ResV.oneW rfl (.refl _), Sub.at [] rfl, rfl, rfl⟩))
    ·replace H := cnd_f c22 H
     refine AW.skip ?_
     show AW _ _ _ _ _ _
     obtain ⟨g23, H⟩ := grd_s H
     refine AW.region ?_
     show AR _ _ _ _ _ [0, 1, 2] _
     refine sS rfl rfl rfl (mv rfl) ?_
     refine sS rfl rfl rfl (g_add rfl rfl g23) ?_
     refine sS rfl rfl rfl (asg rfl) ?_
     refine AR.nil ?_
     exact Exists.intro (n14, y12 + 1) ⟨H, Nat.lt_succ_self _, WK.at [] (.cons (.refl _) (.cons (.refl _) (.cons (.refl _) (.cons (.refl _) (.cons (.refl _) (.nil _)))))) rfl⟩
   ·replace H := cnd_f c15 H
    refine AW.exit ?_
    exact Exists.intro () ⟨H, WK.at [] (.cons (.refl _) (.cons (.refl _) (.nil _))) rfl⟩
  rintro _ H
  replace H : law15_same_j2 F a3 a7 = some r9 := H
  unfold law15_same_j2 at H
  show AW _ _ _ _ _ _
  refine AW.cut (X := Unit) (fun _ => ⟨[], [], []⟩) (fun _ => law15_same_j1 = some r9) ?_ ?_
  ·
   refine AW.seq ?_
   refine AW.region ?_
   show AR _ _ _ _ _ [0] _
   refine sS rfl rfl rfl (asg rfl) ?_
   refine AR.nil ?_
   show AW _ _ _ _ _ _
   refine AW.block ?_
   refine AW.loop (X := Nat × Int) (fun (n27, y25) => ⟨[(1, slE (Enc.sl Enc.byte) a3 q4), (3, slE (Enc.sl Enc.byte) a7 q8), (10, i64 y25)], [], []⟩) (fun (n27, y25) => law15_same_L1 a3 a7 n27 y25 = some r9) (fun (n27, y25) => n27) (F, 0) H (WK.at [] (.cons (.refl _) (.cons (.refl _) (.cons (.refl _) (.nil _)))) rfl) ?_
   rintro ⟨n27, y25⟩ H
   obtain ⟨n27, rfl, H⟩ := loop_s H
   replace H : law15_same_B1 a3 a7 (law15_same_L1 a3 a7 n27) y25 = some r9 := H
   unfold law15_same_B1 at H
   show AW _ _ _ _ _ _
   refine AW.seq ?_
   refine AW.seq ?_
   refine AW.region ?_
   show AR _ _ _ _ _ [0, 1, 2, 3] _
   refine sS rfl rfl rfl (mv rfl) ?_
   refine sS rfl rfl rfl (opS_move (av := slE _ _ _) rfl) ?_
   refine sS rfl rfl rfl (opS_len_sl Tryz.underlying23 rfl) ?_
   refine sS rfl rfl rfl (opS_lt rfl rfl) ?_
   refine AR.nil ?_
   show AW _ _ _ _ _ _
   refine AW.cond rfl (fun c28 => ?_) (fun c28 => ?_)
   ·replace H := cnd_t c28 H
    refine AW.skip ?_
    show AW _ _ _ _ _ _
    refine AW.seq ?_
    refine AW.block ?_
    refine AW.seq ?_
    obtain ⟨g29, H⟩ := grd_s H
    obtain ⟨x30, e31, H⟩ := lt_s H
    obtain ⟨g32, H⟩ := grd_s H
    obtain ⟨x33, e34, H⟩ := lt_s H
    refine AW.region_draw (by kernel_rfl) ?_
    show AI _ _ _ _ _ 11 (Array.replicate 11 false) _
    refine AI.take (i := 0) rfl rfl (by kernel_rfl) (by kernel_rfl) (by kernel_rfl) (fun _ _ h => h) (opS_move (av := slE _ _ _) rfl) ?_
    show AI _ _ _ _ _ _ #[true, false, false, false, false, false, false, false, false, false, false] _
    refine AI.take (i := 1) rfl rfl (by kernel_rfl) (by kernel_rfl) (by kernel_rfl) (fun _ _ h => h) (mv rfl) ?_
    show AI _ _ _ _ _ _ #[true, true, false, false, false, false, false, false, false, false, false] _
    refine AI.take (i := 2) rfl rfl (by kernel_rfl) (by kernel_rfl) (by kernel_rfl) (fun _ _ h => h) (g_indexAddr (E := (Enc.sl Enc.byte)) Tryz.underlying23 (by kernel_rfl) rfl rfl g29 e31) ?_
    show AI _ _ _ _ _ _ #[true, true, true, false, false, false, false, false, false, false, false] _
    refine AI.take (i := 3) rfl rfl (by kernel_rfl) (by kernel_rfl) (by kernel_rfl) (fun _ _ h => h) (opS_load_cp Tryz.underlying26 rfl rfl) ?_
    show AI _ _ _ _ _ _ #[true, true, true, true, false, false, false, false, false, false, false] _
    refine AI.take (i := 4) rfl rfl (by kernel_rfl) (by kernel_rfl) (by kernel_rfl) (fun _ _ h => h) (opS_conv_bytes_str Tryz.underlying26 Tryz.underlying5 Tryz.underlying9 rfl) ?_
    show AI _ _ _ _ _ _ #[true, true, true, true, true, false, false, false, false, false, false] _
    refine AI.take (i := 5) rfl rfl (by kernel_rfl) (by kernel_rfl) (by kernel_rfl) (fun _ _ h => h) (opS_move (av := slE _ _ _) rfl) ?_
    show AI _ _ _ _ _ _ #[true, true, true, true, true, true, false, false, false, false, false] _
    refine AI.take (i := 6) rfl rfl (by kernel_rfl) (by kernel_rfl) (by kernel_rfl) (fun _ _ h => h) (mv rfl) ?_
    show AI _ _ _ _ _ _ #[true, true, true, true, true, true, true, false, false, false, false] _
    refine AI.take (i := 7) rfl rfl (by kernel_rfl) (by kernel_rfl) (by kernel_rfl) (fun _ _ h => h) (g_indexAddr (E := (Enc.sl Enc.byte)) Tryz.underlying23 (by kernel_rfl) rfl rfl g32 e34) ?_
    show AI _ _ _ _ _ _ #[true, true, true, true, true, true, true, true, false, false, false] _
    refine AI.take (i := 8) rfl rfl (by kernel_rfl) (by kernel_rfl) (by kernel_rfl) (fun _ _ h => h) (opS_load_cp Tryz.underlying26 rfl rfl) ?_
    show AI _ _ _ _ _ _ #[true, true, true, true, true, true, true, true, true, false, false] _
    refine AI.take (i := 9) rfl rfl (by kernel_rfl) (by kernel_rfl) (by kernel_rfl) (fun _ _ h => h) (opS_conv_bytes_str Tryz.underlying26 Tryz.underlying5 Tryz.underlying9 rfl) ?_
    show AI _ _ _ _ _ _ #[true, true, true, true, true, true, true, true, true, true, false] _
    refine AI.take (i := 10) rfl rfl (by kernel_rfl) (by kernel_rfl) (by kernel_rfl) (fun _ _ h => h) (opS_nes rfl rfl) ?_
    show AI _ _ _ _ _ _ #[true, true, true, true, true, true, true, true, true, true, true] _
    refine AI.done rfl ?_
    show AW _ _ _ _ _ _
    refine AW.cond rfl (fun c35 => ?_) (fun c35 => ?_)
    ·replace H := cnd_t c35 H
     refine AW.seq ?_
     refine AW.region ?_
     show AR _ _ _ _ _ [0] _
     refine sS rfl rfl rfl (asg rfl) ?_
     refine AR.nil ?_
     show AW _ _ _ _ _ _
     refine AW.ret ?_
     obtain rfl := Option.some.inj H
     exact And.intro rfl (Exists.intro _ (Exists.intro _ ⟨ResV.oneW rfl (.refl _), Sub.at [] rfl, rfl, rfl⟩))
    ·replace H := cnd_f c35 H
     refine AW.skip ?_
     show AW _ _ _ _ _ _
     obtain ⟨g36, H⟩ := grd_s H
     refine AW.region ?_
     show AR _ _ _ _ _ [0, 1, 2] _
     refine sS rfl rfl rfl (mv rfl) ?_
     refine sS rfl rfl rfl (g_add rfl rfl g36) ?_
     refine sS rfl rfl rfl (asg rfl) ?_
     refine AR.nil ?_
     exact Exists.intro (n27, y25 + 1) ⟨H, Nat.lt_succ_self _, WK.at [] (.cons (.refl _) (.cons (.refl _) (.cons (.refl _) (.nil _)))) rfl⟩
   ·replace H := cnd_f c28 H
    refine AW.exit ?_
    exact Exists.intro () ⟨H, WK.at [] (.nil _) rfl⟩
  rintro _ H
  replace H : law15_same_j1 = some r9 := H
  unfold law15_same_j1 at H
  show AW _ _ _ _ _ _
  refine AW.seq ?_
  refine AW.region ?_
  show AR _ _ _ _ _ [0] _
  refine sS rfl rfl rfl (asg rfl) ?_
  refine AR.nil ?_
  show AW _ _ _ _ _ _
  refine AW.ret ?_
  obtain rfl := Option.some.inj H
  exact And.intro rfl (Exists.intro _ (Exists.intro _ ⟨ResV.oneW rfl (.refl _), Sub.at [] rfl, rfl, rfl⟩))
end Go.Proofs.YtdaafnaokdigbaaGreatDoor
namespace Go.Pv
def law15_PartBack (F : Nat) (a1 : List (List UInt8)) (a3 : List (List UInt8)) (a5 : List UInt8) : Option Bool :=
bnd (law15_awake F) fun x7 =>
bnd (law15_Few F a1 a3) fun x9 =>
bif ((!x7) || (!x9)) || (decide (100 < (a5.length : Int))) then
  some x7
else
  bnd3 (part_Join F a1 a3) fun x14 x15 x16 =>
  bif !decide (x16 = 0) then
    some ((decide ((x14.length : Int) = 0)) && (decide (x15 = ([] : List UInt8))))
  else
    bnd3 (part_Split F x14 x15) fun x20 x21 x22 =>
    bnd (law15_same F a1 a3 x20 x21) fun x24 =>
    bnd3 (part_Split F x14 a5) fun x26 x27 x28 =>
    some (((decide (x22 = 0)) && x24) && ((decide (a5 = x15)) || (decide (x28 = 2))))
end Go.Pv
namespace Go.Proofs.YtdaafnaokdigbaaGreatDoor
open Go.RowKit Go.Av Go.Pv
theorem en8_lpartback : ∀ (args : Array Value) (w : World), (callFunc 8 args).run Tryz.prog w = .ok (.enter 8 args) w := fun _ _ => by kernel_rfl
theorem en9_lpartback : ∀ (args : Array Value) (w : World), (callFunc 9 args).run Tryz.prog w = .ok (.enter 9 args) w := fun _ _ => by kernel_rfl
theorem en10_lpartback : ∀ (args : Array Value) (w : World), (callFunc 10 args).run Tryz.prog w = .ok (.enter 10 args) w := fun _ _ => by kernel_rfl
theorem en14_lpartback : ∀ (args : Array Value) (w : World), (callFunc 14 args).run Tryz.prog w = .ok (.enter 14 args) w := fun _ _ => by kernel_rfl
theorem en16_lpartback : ∀ (args : Array Value) (w : World), (callFunc 16 args).run Tryz.prog w = .ok (.enter 16 args) w := fun _ _ => by kernel_rfl
set_option maxRecDepth 100000 in
set_option maxHeartbeats 1000000 in
theorem w_law15_PartBack (F : Nat) (a1 : List (List UInt8)) (q2 : Option Nat) (a3 : List (List UInt8)) (q4 : Option Nat) (a5 : List UInt8) (r6 : Bool) (H : law15_PartBack F a1 a3 a5 = some r6) : ACalls Tryz.prog 5 [slE Enc.str a1 q2, slE (Enc.sl Enc.byte) a3 q4, S a5] [] (Ret (B r6) []) := by
 unfold law15_PartBack at H
 refine ACalls.of_body Tryz.func5 rfl rfl ?_
 show AW _ _ 84 _ _ _
 refine AW.seq ?_
 refine AW.region ?_
 show AR _ _ _ _ _ [0] _
 refine sS rfl rfl rfl (asg rfl) ?_
 refine AR.nil ?_
 show AW _ _ _ _ _ _
 refine AW.seq ?_
 obtain ⟨x7, e8, H⟩ := bnd_s H
 refine AW.region ?_
 show AR _ _ _ _ _ [0, 1] _
 refine AR.run rfl rfl (AO.callp rfl en8_lpartback rfl (w_law15_awake F x7 e8) ?_)
 refine sS rfl rfl rfl (asg rfl) ?_
 refine AR.nil ?_
 show AW _ _ _ _ _ _
 refine AW.seq ?_
 obtain ⟨x9, e10, H⟩ := bnd_s H
 refine AW.region ?_
 show AR _ _ _ _ _ [0, 1, 2, 3] _
 refine sS rfl rfl rfl (opS_move (av := slE _ _ _) rfl) ?_
 refine sS rfl rfl rfl (opS_move (av := slE _ _ _) rfl) ?_
 refine AR.run rfl rfl (AO.callp rfl en9_lpartback rfl (w_law15_Few F a1 q2 a3 q4 x9 e10) ?_)
 refine sS rfl rfl rfl (asg rfl) ?_
 refine AR.nil ?_
 show AW _ _ _ _ _ _
 refine AW.seq ?_
 refine AW.seq ?_
 refine AW.region ?_
 show AR _ _ _ _ _ [0, 1, 2, 3, 4, 5, 6, 7, 8, 9, 10] _
 refine sS rfl rfl rfl (mv rfl) ?_
 refine sS rfl rfl rfl (opS_not rfl) ?_
 refine sS rfl rfl rfl (mv rfl) ?_
 refine AR.meet (l := [6, 7, 8, 9, 10]) 28 (B ((!x7) || (!x9))) (fun K => ?_) ?_
 ·rcases Bool.eq_false_or_eq_true (!x7) with h11 | h11
  ·
   refine gF h11 rfl rfl rfl rfl rfl ?_
   refine gF h11 rfl rfl rfl rfl rfl ?_
   refine sS rfl rfl rfl (opS_pick_t (av := .v _) rfl h11 rfl) ?_
   exact K _ 2 _ (B_congr (or_t h11)) rfl rfl
  ·
   refine gT h11 rfl rfl rfl rfl rfl rfl (AO.ops rfl rfl (mv rfl) ?_)
   refine gT h11 rfl rfl rfl rfl rfl rfl (AO.ops rfl rfl (opS_not rfl) ?_)
   refine sS rfl rfl rfl (opS_pick_f (av := .v _) rfl h11 rfl) ?_
   exact K _ 2 _ (B_congr (or_f h11)) rfl rfl
 refine sS rfl rfl rfl (mv rfl) ?_
 refine AR.meet (l := []) 33 (B (((!x7) || (!x9)) || (decide (100 < (a5.length : Int))))) (fun K => ?_) ?_
 ·rcases Bool.eq_false_or_eq_true ((!x7) || (!x9)) with h12 | h12
  ·
   refine gF h12 rfl rfl rfl rfl rfl ?_
   refine gF h12 rfl rfl rfl rfl rfl ?_
   refine gF h12 rfl rfl rfl rfl rfl ?_
   refine sS rfl rfl rfl (opS_pick_t (av := .v _) rfl h12 rfl) ?_
   exact K _ 3 _ (B_congr (or_t h12)) rfl rfl
  ·
   refine gT h12 rfl rfl rfl rfl rfl rfl (AO.ops rfl rfl (mv rfl) ?_)
   refine gT h12 rfl rfl rfl rfl rfl rfl (AO.ops rfl rfl (opS_len_str Tryz.underlying9 rfl) ?_)
   refine gT h12 rfl rfl rfl rfl rfl rfl (AO.ops rfl rfl (opS_gt rfl rfl) ?_)
   refine sS rfl rfl rfl (opS_pick_f (av := .v _) rfl h12 rfl) ?_
   exact K _ 3 _ (B_congr (or_f h12)) rfl rfl
 refine AR.nil ?_
 show AW _ _ _ _ _ _
 refine AW.cond rfl (fun c13 => ?_) (fun c13 => ?_)
 ·replace H := cnd_t c13 H
  refine AW.seq ?_
  refine AW.region ?_
  show AR _ _ _ _ _ [0, 1] _
  refine sS rfl rfl rfl (mv rfl) ?_
  refine sS rfl rfl rfl (asg rfl) ?_
  refine AR.nil ?_
  show AW _ _ _ _ _ _
  refine AW.ret ?_
  obtain rfl := Option.some.inj H
  exact And.intro rfl (Exists.intro _ (Exists.intro _ ⟨ResV.oneW rfl (.refl _), Sub.at [] rfl, rfl, rfl⟩))
 ·replace H := cnd_f c13 H
  refine AW.skip ?_
  show AW _ _ _ _ _ _
  refine AW.seq ?_
  obtain ⟨x14, x15, x16, e17, H⟩ := bnd3_s H
  refine AW.region ?_
  show AR _ _ _ _ _ [0, 1, 2, 3, 4, 5, 6, 7, 8, 9] _
  refine sS rfl rfl rfl (opS_move (av := slE _ _ _) rfl) ?_
  refine sS rfl rfl rfl (opS_move (av := slE _ _ _) rfl) ?_
  refine AR.run rfl rfl (AO.callp rfl en10_lpartback rfl (w_part_Join F a1 q2 a3 q4 x14 x15 x16 e17) ?_)
  refine sS rfl rfl rfl (opS_move (av := .tup _) rfl) ?_
  refine sS rfl rfl rfl (opS_extract (av := slE _ _ _) rfl rfl) ?_
  refine sS rfl rfl rfl (opS_extract (av := .v _) rfl rfl) ?_
  refine sS rfl rfl rfl (opS_extract (av := .v _) rfl rfl) ?_
  refine sS rfl rfl rfl (opS_assign (av := slE _ _ _) rfl) ?_
  refine sS rfl rfl rfl (asg rfl) ?_
  refine sS rfl rfl rfl (asg rfl) ?_
  refine AR.nil ?_
  show AW _ _ _ _ _ _
  refine AW.seq ?_
  refine AW.seq ?_
  refine AW.region ?_
  show AR _ _ _ _ _ [0, 1] _
  refine sS rfl rfl rfl (mv rfl) ?_
  refine sS rfl rfl rfl (opS_nei rfl rfl) ?_
  refine AR.nil ?_
  show AW _ _ _ _ _ _
  refine AW.cond rfl (fun c18 => ?_) (fun c18 => ?_)
  ·replace H := cnd_t c18 H
   refine AW.seq ?_
   refine AW.region ?_
   show AR _ _ _ _ _ [0, 1, 2, 3, 4, 5, 6, 7] _
   refine sS rfl rfl rfl (opS_move (av := slE _ _ _) rfl) ?_
   refine sS rfl rfl rfl (opS_len_sl Tryz.underlying26 rfl) ?_
   refine sS rfl rfl rfl (opS_eqi rfl rfl) ?_
   refine sS rfl rfl rfl (mv rfl) ?_
   refine AR.meet (l := [7]) 50 (B ((decide ((x14.length : Int) = 0)) && (decide (x15 = ([] : List UInt8))))) (fun K => ?_) ?_
   ·rcases Bool.eq_false_or_eq_true (decide ((x14.length : Int) = 0)) with h19 | h19
    ·
     refine gT h19 rfl rfl rfl rfl rfl rfl (AO.ops rfl rfl (mv rfl) ?_)
     refine gT h19 rfl rfl rfl rfl rfl rfl (AO.ops rfl rfl (opS_eqs rfl rfl) ?_)
     refine sS rfl rfl rfl (opS_pick_t (av := .v _) rfl h19 rfl) ?_
     exact K _ 2 _ (B_congr (and_t h19)) rfl rfl
    ·
     refine gF h19 rfl rfl rfl rfl rfl ?_
     refine gF h19 rfl rfl rfl rfl rfl ?_
     refine sS rfl rfl rfl (opS_pick_f (av := .v _) rfl h19 rfl) ?_
     exact K _ 2 _ (B_congr (and_f h19)) rfl rfl
   refine sS rfl rfl rfl (asg rfl) ?_
   refine AR.nil ?_
   show AW _ _ _ _ _ _
   refine AW.ret ?_
   obtain rfl := Option.some.inj H
   exact And.intro rfl (Exists.intro _ (Exists.intro _ ⟨ResV.oneW rfl (.refl _), Sub.at [] rfl, rfl, rfl⟩))
  ·replace H := cnd_f c18 H
   refine AW.skip ?_
   show AW _ _ _ _ _ _
   refine AW.seq ?_
   obtain ⟨x20, x21, x22, e23, H⟩ := bnd3_s H
   refine AW.region ?_
   show AR _ _ _ _ _ [0, 1, 2, 3, 4, 5, 6, 7, 8, 9] _
   refine sS rfl rfl rfl (opS_move (av := slE _ _ _) rfl) ?_
   refine sS rfl rfl rfl (mv rfl) ?_
   refine AR.run rfl rfl (AO.callp rfl en14_lpartback rfl (w_part_Split F x14 none x15 x20 x21 x22 e23) ?_)
   refine sS rfl rfl rfl (opS_move (av := .tup _) rfl) ?_
   refine sS rfl rfl rfl (opS_extract (av := slE _ _ _) rfl rfl) ?_
   refine sS rfl rfl rfl (opS_extract (av := slE _ _ _) rfl rfl) ?_
   refine sS rfl rfl rfl (opS_extract (av := .v _) rfl rfl) ?_
   refine sS rfl rfl rfl (opS_assign (av := slE _ _ _) rfl) ?_
   refine sS rfl rfl rfl (opS_assign (av := slE _ _ _) rfl) ?_
   refine sS rfl rfl rfl (asg rfl) ?_
   refine AR.nil ?_
   show AW _ _ _ _ _ _
   refine AW.seq ?_
   obtain ⟨x24, e25, H⟩ := bnd_s H
   refine AW.region ?_
   show AR _ _ _ _ _ [0, 1, 2, 3, 4, 5] _
   refine sS rfl rfl rfl (opS_move (av := slE _ _ _) rfl) ?_
   refine sS rfl rfl rfl (opS_move (av := slE _ _ _) rfl) ?_
   refine sS rfl rfl rfl (opS_move (av := slE _ _ _) rfl) ?_
   refine sS rfl rfl rfl (opS_move (av := slE _ _ _) rfl) ?_
   refine AR.run rfl rfl (AO.callp rfl en16_lpartback rfl (w_law15_same F a1 q2 a3 q4 x20 none x21 none x24 e25) ?_)
   refine sS rfl rfl rfl (asg rfl) ?_
   refine AR.nil ?_
   show AW _ _ _ _ _ _
   refine AW.seq ?_
   obtain ⟨x26, x27, x28, e29, H⟩ := bnd3_s H
   refine AW.region ?_
   show AR _ _ _ _ _ [0, 1, 2, 3, 4, 5, 6, 7, 8, 9] _
   refine sS rfl rfl rfl (opS_move (av := slE _ _ _) rfl) ?_
   refine sS rfl rfl rfl (mv rfl) ?_
   refine AR.run rfl rfl (AO.callp rfl en14_lpartback rfl (w_part_Split F x14 none a5 x26 x27 x28 e29) ?_)
   refine sS rfl rfl rfl (opS_move (av := .tup _) rfl) ?_
   refine sS rfl rfl rfl (opS_extract (av := slE _ _ _) rfl rfl) ?_
   refine sS rfl rfl rfl (opS_extract (av := slE _ _ _) rfl rfl) ?_
   refine sS rfl rfl rfl (opS_extract (av := .v _) rfl rfl) ?_
   refine sS rfl rfl rfl (opS_assign (av := slE _ _ _) rfl) ?_
   refine sS rfl rfl rfl (opS_assign (av := slE _ _ _) rfl) ?_
   refine sS rfl rfl rfl (asg rfl) ?_
   refine AR.nil ?_
   show AW _ _ _ _ _ _
   refine AW.seq ?_
   refine AW.region ?_
   show AR _ _ _ _ _ [0, 1, 2, 3, 4, 5, 6, 7, 8, 9, 10, 11, 12, 13, 14] _
   refine sS rfl rfl rfl (mv rfl) ?_
   refine sS rfl rfl rfl (opS_eqi rfl rfl) ?_
   refine sS rfl rfl rfl (mv rfl) ?_
   refine AR.meet (l := [5, 6, 7, 8, 9, 10, 11, 12, 13, 14]) 74 (B ((decide (x22 = 0)) && x24)) (fun K => ?_) ?_
   ·rcases Bool.eq_false_or_eq_true (decide (x22 = 0)) with h30 | h30
    ·
     refine gT h30 rfl rfl rfl rfl rfl rfl (AO.ops rfl rfl (mv rfl) ?_)
     refine sS rfl rfl rfl (opS_pick_t (av := .v _) rfl h30 rfl) ?_
     exact K _ 1 _ (B_congr (and_t h30)) rfl rfl
    ·
     refine gF h30 rfl rfl rfl rfl rfl ?_
     refine sS rfl rfl rfl (opS_pick_f (av := .v _) rfl h30 rfl) ?_
     exact K _ 1 _ (B_congr (and_f h30)) rfl rfl
   refine sS rfl rfl rfl (mv rfl) ?_
   refine AR.meet (l := [14]) 83 (B (((decide (x22 = 0)) && x24) && ((decide (a5 = x15)) || (decide (x28 = 2))))) (fun K => ?_) ?_
   ·rcases Bool.eq_false_or_eq_true ((decide (x22 = 0)) && x24) with h31 | h31
    ·
     refine gT h31 rfl rfl rfl rfl rfl rfl (AO.ops rfl rfl (mv rfl) ?_)
     refine gT h31 rfl rfl rfl rfl rfl rfl (AO.ops rfl rfl (mv rfl) ?_)
     refine gT h31 rfl rfl rfl rfl rfl rfl (AO.ops rfl rfl (opS_eqs rfl rfl) ?_)
     refine gT h31 rfl rfl rfl rfl rfl rfl (AO.ops rfl rfl (mv rfl) ?_)
     refine AR.meet (l := [13, 14]) 82 (B ((decide (a5 = x15)) || (decide (x28 = 2)))) (fun K => ?_) ?_
     ·rcases Bool.eq_false_or_eq_true (decide (a5 = x15)) with h32 | h32
      ·
       refine gF h32 rfl rfl rfl rfl rfl ?_
       refine gF h32 rfl rfl rfl rfl rfl ?_
       refine gT h31 rfl rfl rfl rfl rfl rfl (AO.ops rfl rfl (opS_pick_t (av := .v _) rfl h32 rfl) ?_)
       exact K _ 2 _ (B_congr (or_t h32)) rfl rfl
      ·
       refine gT h32 rfl rfl rfl rfl rfl rfl (AO.ops rfl rfl (mv rfl) ?_)
       refine gT h32 rfl rfl rfl rfl rfl rfl (AO.ops rfl rfl (opS_eqi rfl rfl) ?_)
       refine gT h31 rfl rfl rfl rfl rfl rfl (AO.ops rfl rfl (opS_pick_f (av := .v _) rfl h32 rfl) ?_)
       exact K _ 2 _ (B_congr (or_f h32)) rfl rfl
     refine sS rfl rfl rfl (opS_pick_t (av := .v _) rfl h31 rfl) ?_
     exact K _ 5 _ (B_congr (and_t h31)) rfl rfl
    ·
     refine gF h31 rfl rfl rfl rfl rfl ?_
     refine gF h31 rfl rfl rfl rfl rfl ?_
     refine gF h31 rfl rfl rfl rfl rfl ?_
     refine gF h31 rfl rfl rfl rfl rfl ?_
     refine gU rfl rfl rfl rfl rfl ?_
     refine gU rfl rfl rfl rfl rfl ?_
     refine gF h31 rfl rfl rfl rfl rfl ?_
     refine sS rfl rfl rfl (opS_pick_f (av := .v _) rfl h31 rfl) ?_
     exact K _ 7 _ (B_congr (and_f h31)) rfl rfl
   refine sS rfl rfl rfl (asg rfl) ?_
   refine AR.nil ?_
   show AW _ _ _ _ _ _
   refine AW.ret ?_
   obtain rfl := Option.some.inj H
   exact And.intro rfl (Exists.intro _ (Exists.intro _ ⟨ResV.oneW rfl (.refl _), Sub.at [] rfl, rfl, rfl⟩))
end Go.Proofs.YtdaafnaokdigbaaGreatDoor
namespace Go.Hd
open Go.Pv Go.Av
abbrev Bs := List UInt8
def sp (c : UInt8) : Bs → List Bs
  | [] => [[]]
  | b :: r => if b = c then [] :: sp c r else match sp c r with
    | [] => [[b]]
    | p :: ps => (b :: p) :: ps
theorem sp_ne (c : UInt8) (s : Bs) : sp c s ≠ [] := by
  cases s with
  | nil => simp [sp]
  | cons b r => unfold sp; split; simp; split <;> simp
theorem index_one_cons (b c : UInt8) (l : Bs) : Go.Lib.index (b :: l) [c] = if b = c then 0 else if Go.Lib.index l [c] = -1 then -1 else Go.Lib.index l [c] + 1 := by
  by_cases h : b = c
  · subst h; simp [Go.Lib.index]
  · simp [Go.Lib.index, h, Ne.symm h]
def prep (cur : Bs) : List Bs → List Bs
  | [] => [cur]
  | p :: ps => (cur ++ p) :: ps
theorem sp_cons_ne {b c : UInt8} (h : ¬ b = c) (r : Bs) : sp c (b :: r) = prep [b] (sp c r) := by
  simp only [sp, h, if_false]
  cases sp c r <;> rfl
theorem sp_cons_eq (c : UInt8) (r : Bs) : sp c (c :: r) = [] :: sp c r := by simp [sp]
theorem splitK_eq (c : UInt8) : ∀ (s : Bs), Go.Lib.splitK [c] 0 (s.count c) s = sp c s
  | [] => rfl
  | b :: l => by
    have ih := splitK_eq c l
    have hi := index_one_cons b c l
    have hge := Go.Lib.index_ge l [c]
    by_cases h : b = c
    · subst h
      rw [List.count_cons_self, sp_cons_eq, Go.Lib.splitK, hi]
      simp [ih]
    · rw [List.count_cons_of_ne h, sp_cons_ne h, ← ih]
      cases hk : l.count c with
      | zero => simp [Go.Lib.splitK, prep]
      | succ k =>
        rw [Go.Lib.splitK, Go.Lib.splitK, hi]
        simp only [h, if_false]
        by_cases hm : Go.Lib.index l [c] = -1
        · simp [hm, prep]
        · obtain ⟨j, hj⟩ := Int.eq_ofNat_of_zero_le (show 0 ≤ Go.Lib.index l [c] by omega)
          have h2 : ¬ (Go.Lib.index l [c] + 1 = -1) := by omega
          have h3 : (Go.Lib.index l [c] + 1).toNat = j + 1 := by omega
          have h4 : (Go.Lib.index l [c]).toNat = j := by omega
          simp [hm, h2, h3, h4, prep]
theorem split_one (s : Bs) (c : UInt8) : Go.Lib.split s [c] = sp c s := by
  unfold Go.Lib.split
  rw [Go.Lib.count_one, splitK_eq]
theorem sp_length (c : UInt8) (s : Bs) : (sp c s).length ≤ s.length + 1 := by
  induction s with
  | nil => simp [sp]
  | cons b r ih =>
    by_cases h : b = c
    · subst h; rw [sp_cons_eq]; simp; omega
    · rw [sp_cons_ne h]
      cases hs : sp c r with
      | nil => simp [prep]
      | cons p ps => rw [hs] at ih; simp [prep] at ih ⊢; omega
theorem sp_total (c : UInt8) (s : Bs) : Str.total (sp c s) + (sp c s).length = s.length + 1 := by
  induction s with
  | nil => simp [sp, Str.total]
  | cons b r ih =>
    by_cases h : b = c
    · subst h; rw [sp_cons_eq]; simp [Str.total]; omega
    · rw [sp_cons_ne h]
      cases hs : sp c r with
      | nil => exact absurd hs (sp_ne c r)
      | cons p ps => rw [hs] at ih; simp [prep, Str.total] at ih ⊢; omega
end Go.Hd
namespace Go.Hd
open Go.Pv Go.Av
theorem of_all8 (p : UInt8 → Bool) (h : ∀ k : Fin 256, p (UInt8.ofNat k.val) = true) (b : UInt8) : p b = true := by
  have := h ⟨b.toNat, b.toNat_lt⟩
  simpa using this
theorem u64_id (x : Int) (h0 : 0 ≤ x) (h1 : x < 18446744073709551616) : IntKind.u64.wrap x = x := by
  have : IntKind.u64.wrap x = x % 18446744073709551616 := rfl
  rw [this]; omega
theorem bvn (n : Nat) (h : n < 2 ^ 64) : (BitVec.ofInt 64 (n : Int)).toNat = n := by
  rw [BitVec.ofInt_natCast, BitVec.toNat_ofNat]; exact Nat.mod_eq_of_lt h
theorem or_two (a b k : Nat) (ha : a * 2 ^ k < 2 ^ 64) (hb : b < 2 ^ k) (hk : b < 2 ^ 64) : (BitVec.ofInt IntKind.u64.bits ((a * 2 ^ k : Nat) : Int) ||| BitVec.ofInt IntKind.u64.bits (b : Int)).toNat = a * 2 ^ k + b := by
  show (BitVec.ofInt 64 ((a * 2 ^ k : Nat) : Int) ||| BitVec.ofInt 64 (b : Int)).toNat = _
  rw [BitVec.toNat_or, bvn _ ha, bvn _ hk, ← Nat.shiftLeft_eq, Nat.shiftLeft_add_eq_or_of_lt hb]
theorem and_63 (a : Nat) (ha : a < 2 ^ 64) : (BitVec.ofInt IntKind.u64.bits (a : Int) &&& BitVec.ofInt IntKind.u64.bits 63).toNat = a % 64 := by
  show (BitVec.ofInt 64 (a : Int) &&& BitVec.ofInt 64 ((63 : Nat) : Int)).toNat = _
  rw [BitVec.toNat_and, bvn _ ha, bvn _ (by decide)]
  exact Nat.and_two_pow_sub_one_eq_mod a 6
def q3 (a b c : Nat) : Nat := a * 65536 + b * 256 + c
def ch (n : Nat) : UInt8 := b64_k1.getD n default
theorem val3 (a b c : UInt8) : IntKind.u64.wrap ((BitVec.ofInt IntKind.u64.bits (IntKind.u64.wrap ((BitVec.ofInt IntKind.u64.bits (IntKind.u64.wrap ((IntKind.u64.wrap (a.toNat : Int)) * 2 ^ min (Int.toNat 16) IntKind.u64.bits)) ||| BitVec.ofInt IntKind.u64.bits (IntKind.u64.wrap ((IntKind.u64.wrap (b.toNat : Int)) * 2 ^ min (Int.toNat 8) IntKind.u64.bits))).toNat)) ||| BitVec.ofInt IntKind.u64.bits (IntKind.u64.wrap (c.toNat : Int))).toNat) = (q3 a.toNat b.toNat c.toNat : Int) := by
  have ha := a.toNat_lt
  have hb := b.toNat_lt
  have hc := c.toNat_lt
  have e16 : (2 : Int) ^ min (Int.toNat 16) IntKind.u64.bits = 65536 := by decide +kernel
  have e8 : (2 : Int) ^ min (Int.toNat 8) IntKind.u64.bits = 256 := by decide +kernel
  rw [e16, e8, u64_id a.toNat (by omega) (by omega), u64_id b.toNat (by omega) (by omega), u64_id c.toNat (by omega) (by omega)]
  rw [u64_id ((a.toNat : Int) * 65536) (by omega) (by omega), u64_id ((b.toNat : Int) * 256) (by omega) (by omega)]
  have e1 : (a.toNat : Int) * 65536 = ((a.toNat * 2 ^ 16 : Nat) : Int) := by omega
  have e2 : (b.toNat : Int) * 256 = ((b.toNat * 256 : Nat) : Int) := by omega
  rw [e1, e2, or_two a.toNat (b.toNat * 256) 16 (by omega) (by omega) (by omega)]
  rw [u64_id ((a.toNat * 2 ^ 16 + b.toNat * 256 : Nat) : Int) (by omega) (by omega)]
  have e3 : a.toNat * 2 ^ 16 + b.toNat * 256 = (a.toNat * 256 + b.toNat) * 2 ^ 8 := by omega
  rw [e3, or_two (a.toNat * 256 + b.toNat) c.toNat 8 (by omega) (by omega) (by omega)]
  rw [u64_id (((a.toNat * 256 + b.toNat) * 2 ^ 8 + c.toNat : Nat) : Int) (by omega) (by omega)]
  unfold q3; omega
theorem idx6 (s : Nat) (v : Nat) (hv : v < 16777216) (hs : s ≤ 18) : IntKind.u64.wrap ((BitVec.ofInt IntKind.u64.bits (Int.fdiv (v : Int) (2 ^ min s IntKind.u64.bits)) &&& BitVec.ofInt IntKind.u64.bits 63).toNat) = ((v / 2 ^ s % 64 : Nat) : Int) := by
  have e : min s IntKind.u64.bits = s := by show min s 64 = s; omega
  have e2 : Int.fdiv (v : Int) (2 ^ s) = ((v / 2 ^ s : Nat) : Int) := by
    have : ((2 : Int) ^ s) = ((2 ^ s : Nat) : Int) := by simp
    rw [this, Int.fdiv_eq_ediv_of_nonneg _ (Int.natCast_nonneg _)]; rfl
  have h1 : v / 2 ^ s ≤ v := Nat.div_le_self _ _
  rw [e, e2, and_63 _ (by omega), u64_id _ (by omega) (by omega)]
theorem k1_len : b64_k1.length = 64 := by decide +kernel
theorem at_ch (n : Nat) : at_ b64_k1 (n : Int) = ch n := by
  unfold at_ ch; rw [Int.toNat_natCast]
def four (a b c : UInt8) : Bs := let v := q3 a.toNat b.toNat c.toNat; [ch (v / 262144), ch (v / 4096 % 64), ch (v / 64 % 64), ch (v % 64)]
def enc : Bs → Bs
  | a :: b :: c :: r => four a b c ++ enc r
  | [a, b] => (four a b 0).take 3 ++ [61]
  | [a] => (four a 0 0).take 2 ++ [61, 61]
  | [] => []
theorem enc_len : ∀ s : Bs, (enc s).length ≤ 2 * s.length + 2
  | a :: b :: c :: r => by
    have := enc_len r
    simp [enc, four]; omega
  | [a, b] => by simp [enc, four]
  | [a] => by simp [enc, four]
  | [] => by simp [enc]
theorem q3_lt (a b c : UInt8) : q3 a.toNat b.toNat c.toNat < 16777216 := by
  have ha := a.toNat_lt
  have hb := b.toNat_lt
  have hc := c.toNat_lt
  unfold q3; omega
theorem group_eq (F : Nat) (s : Bs) (a b c : UInt8) (hs : s.length ≤ 3) (h : cpyB [0, 0, 0] s = [a, b, c]) :
    b64_group F s = some (ch (q3 a.toNat b.toNat c.toNat / 262144), bif decide ((s.length : Int) < 1) then 61 else ch (q3 a.toNat b.toNat c.toNat / 4096 % 64), bif decide ((s.length : Int) < 2) then 61 else ch (q3 a.toNat b.toNat c.toNat / 64 % 64), bif decide ((s.length : Int) < 3) then 61 else ch (q3 a.toNat b.toNat c.toNat % 64)) := by
  have hq := q3_lt a b c
  unfold b64_group
  rw [grd_D hs, lt_eq, h]
  have g0 : ([a, b, c].getD 0 0) = a := rfl
  have g1 : ([a, b, c].getD 1 0) = b := rfl
  have g2 : ([a, b, c].getD 2 0) = c := rfl
  unfold b64_group_j5 b64_group_j4 b64_group_j3 b64_group_j2 b64_group_j1
  rw [g0, g1, g2, val3]
  have d16 : (decide ((0 : Int) ≤ 16)) = true := rfl
  have i18 := idx6 (Int.toNat 18) _ hq (by decide)
  have i12 := idx6 (Int.toNat 12) _ hq (by decide)
  have i6 := idx6 (Int.toNat 6) _ hq (by decide)
  have i0 := idx6 (Int.toNat 0) _ hq (by decide)
  rw [i18, i12, i6, i0]
  have k : ∀ n : Nat, okAt ((n % 64 : Nat) : Int) b64_k1.length = true := fun n => by rw [k1_len]; exact decide_eq_true (by omega)
  have e18 : q3 a.toNat b.toNat c.toNat / 2 ^ Int.toNat 18 % 64 = q3 a.toNat b.toNat c.toNat / 262144 := by
    show q3 a.toNat b.toNat c.toNat / 262144 % 64 = _; omega
  have e12 : q3 a.toNat b.toNat c.toNat / 2 ^ Int.toNat 12 % 64 = q3 a.toNat b.toNat c.toNat / 4096 % 64 := rfl
  have e6 : q3 a.toNat b.toNat c.toNat / 2 ^ Int.toNat 6 % 64 = q3 a.toNat b.toNat c.toNat / 64 % 64 := rfl
  have e0 : q3 a.toNat b.toNat c.toNat / 2 ^ Int.toNat 0 % 64 = q3 a.toNat b.toNat c.toNat % 64 := by
    show q3 a.toNat b.toNat c.toNat / 1 % 64 = _; omega
  have k2 : okAt ((q3 a.toNat b.toNat c.toNat / 262144 : Nat) : Int) b64_k1.length = true := by rw [k1_len]; exact decide_eq_true (by omega)
  simp (disch := first | omega | decide) only [grd_D, k, grd_t, lt_eq, at_ch, e18, e12, e6, e0, k2]
  rw [bF (by omega)]
  by_cases h1 : (s.length : Int) < 1
  · simp (disch := omega) only [bT]
  · by_cases h2 : (s.length : Int) < 2
    · simp (disch := omega) only [bT, bF]
    · by_cases h3 : (s.length : Int) < 3
      · simp (disch := omega) only [bT, bF]
      · simp (disch := omega) only [bF]
theorem raw_loop (F : Nat) : ∀ (n : Nat) (s out : Bs), s.length < n → out.length + 4 * s.length + 10 ≤ 100000000 → b64_Raw_L1 F n (s, out) = some (out ++ enc s) := by
  intro n
  induction n with
  | zero => intro s out h; omega
  | succ n ih =>
    intro s out hn hl
    show b64_Raw_B1 F (b64_Raw_L1 F n) s out = _
    unfold b64_Raw_B1
    have key : ∀ (p r g : Bs) (a b c : UInt8) (x y z w : UInt8), s = p ++ r → (min 3 (s.length : Int)) = (p.length : Int) → 1 ≤ p.length → p.length ≤ 3 → cpyB [0, 0, 0] p = [a, b, c] →
        b64_group F p = some (x, y, z, w) → enc s = [x, y, z, w] ++ enc r →
        (bif decide (0 < (s.length : Int)) then grd (okTo (min 3 (s.length : Int)) s.length) <| lt (to_ s (min 3 (s.length : Int))) fun x14 => bnd4 (b64_group F x14) fun x16 x17 x18 x19 => grd (okW out ([x16, x17, x18, x19] : List UInt8)) <| lt (out ++ ([x16, x17, x18, x19] : List UInt8)) fun x23 => grd (okTo (min 3 (s.length : Int)) s.length) <| lt (from_ s (min 3 (s.length : Int))) fun x27 => b64_Raw_L1 F n (x27, x23) else b64_Raw_j1 out) = some (out ++ enc s) := by
      intro p r g a b c x y z w hs hm h1 h3 hc hg he
      have hlen : s.length = p.length + r.length := by rw [hs]; simp
      rw [bT (by omega), grd_To (by omega), lt_eq, hm, to_nat]
      have e1 : s.take p.length = p := by rw [hs]; simp
      have e2 : s.drop p.length = r := by rw [hs]; simp
      rw [e1, hg]
      show grd (okW out [x, y, z, w]) _ = _
      rw [grd_W (by simp; omega), lt_eq, grd_To (by omega), lt_eq, from_nat, e2, ih _ _ (by omega) (by simp; omega), he]
      simp
    match s with
    | a :: b :: c :: r =>
      refine key [a, b, c] r [] a b c _ _ _ _ rfl (by simp; omega) (by simp) (by simp) rfl (group_eq F _ a b c (by simp) rfl) ?_
      rw [bF (by simp), bF (by simp), bF (by simp)]; rfl
    | [a, b] =>
      refine key [a, b] [] [] a b 0 _ _ _ _ rfl (by simp; try omega) (by simp) (by simp) rfl (group_eq F _ a b 0 (by simp) rfl) ?_
      rw [bF (by simp), bF (by simp), bT (by simp)]; rfl
    | [a] =>
      refine key [a] [] [] a 0 0 _ _ _ _ rfl (by simp; try omega) (by simp) (by simp) rfl (group_eq F _ a 0 0 (by simp) rfl) ?_
      rw [bF (by simp), bT (by simp), bT (by simp)]; rfl
    | [] =>
      rw [bF (by simp)]
      unfold b64_Raw_j1
      rw [grd_W (by simp at hl ⊢; omega)]; simp [enc]
theorem Raw_eq (F : Nat) (s : Bs) (hF : s.length < F) (hs : s.length ≤ 1000000) : b64_Raw F s = some (enc s) := by
  have := raw_loop F F s [] hF (by simp; omega)
  rw [List.nil_append] at this
  exact this
def gb (s : Bs) (i : Nat) : UInt8 := s.getD i 0
end Go.Hd
namespace Go.Hd
open Go.Pv Go.Av
theorem of_all64 (p : Nat → Bool) (h : ∀ k : Fin 64, p k.val = true) (n : Nat) (hn : n < 64) : p n = true := h ⟨n, hn⟩
def num (c : UInt8) : Int := if c = 61 then 0 else Go.Lib.indexByte b64_k1 c
theorem num_ch (n : Nat) (h : n < 64) : num (ch n) = n ∧ ch n ≠ 61 := by
  have := of_all64 (fun n => decide (num (ch n) = n ∧ ch n ≠ 61)) (by decide +kernel) n h
  exact of_decide_eq_true this
def stp (acc n : Int) (c : UInt8) : Option (Int × Int) :=
  if num c < 0 ∨ (if c = 61 then n - 1 else n) < 1 then none
  else some (IntKind.u64.wrap ((BitVec.ofInt IntKind.u64.bits (IntKind.u64.wrap (acc * 2 ^ min (Int.toNat 6) IntKind.u64.bits)) ||| BitVec.ofInt IntKind.u64.bits (IntKind.u64.wrap (num c))).toNat), (if c = 61 then n - 1 else n))
theorem stp_n {acc n a m : Int} {c : UInt8} (h : stp acc n c = some (a, m)) : 1 ≤ m ∧ m ≤ n := by
  unfold stp at h
  by_cases hc : num c < 0 ∨ (if c = 61 then n - 1 else n) < 1
  · rw [if_pos hc] at h; cases h
  · rw [if_neg hc] at h
    have := (Prod.mk.inj (Option.some.inj h)).2
    rw [← this]
    by_cases h6 : c = 61
    · rw [if_pos h6] at hc ⊢; omega
    · rw [if_neg h6] at hc ⊢; omega
theorem stp_ch (acc : Nat) (n : Int) (k : Nat) (ha : acc < 262144) (hk : k < 64) (hn : 1 ≤ n) : stp (acc : Int) n (ch k) = some (((acc * 64 + k : Nat) : Int), n) := by
  have ⟨h1, h2⟩ := num_ch k hk
  have e6 : (2 : Int) ^ min (Int.toNat 6) IntKind.u64.bits = 64 := by decide +kernel
  have e7 : (acc : Int) * 64 = ((acc * 2 ^ 6 : Nat) : Int) := by omega
  unfold stp
  rw [if_neg h2, if_neg (by omega), h1, e6, u64_id ((acc : Int) * 64) (by omega) (by omega), u64_id (k : Int) (by omega) (by omega), e7, or_two acc k 6 (by omega) (by omega) (by omega), u64_id ((acc * 2 ^ 6 + k : Nat) : Int) (by omega) (by omega)]
theorem stp_pad (acc : Nat) (n : Int) (ha : acc < 262144) (hn : 2 ≤ n) : stp (acc : Int) n 61 = some (((acc * 64 : Nat) : Int), n - 1) := by
  have e6 : (2 : Int) ^ min (Int.toNat 6) IntKind.u64.bits = 64 := by decide +kernel
  have e7 : (acc : Int) * 64 = ((acc * 2 ^ 6 : Nat) : Int) := by omega
  have e8 : num 61 = ((0 : Nat) : Int) := rfl
  unfold stp
  rw [if_pos rfl, if_neg (by rw [e8]; omega), e8, e6, u64_id ((acc : Int) * 64) (by omega) (by omega), u64_id ((0 : Nat) : Int) (by omega) (by omega), e7, or_two acc 0 6 (by omega) (by omega) (by omega), u64_id ((acc * 2 ^ 6 + 0 : Nat) : Int) (by omega) (by omega), Nat.add_zero]
def g4 (c0 c1 c2 c3 : UInt8) : Option (Int × Int) :=
  match stp 0 3 c0 with
  | none => none
  | some (a, n) => match stp a n c1 with
    | none => none
    | some (a, n) => match stp a n c2 with
      | none => none
      | some (a, n) => stp a n c3
def three (v n : Int) : Bs := to_ ([Go.Av.toB (Int.fdiv v (2 ^ min (Int.toNat 16) IntKind.u64.bits)), Go.Av.toB (Int.fdiv v (2 ^ min (Int.toNat 8) IntKind.u64.bits)), Go.Av.toB v] : Bs) n
def decP : Bs → Option Bs
  | [] => some []
  | c0 :: c1 :: c2 :: c3 :: r => match g4 c0 c1 c2 c3 with
    | none => none
    | some (v, n) => match decP r with
      | none => none
      | some d => some (three v n ++ d)
  | _ => none
theorem p_step (out s : Bs) (rec8 : (Bs × Bs) → Option (Bs × Int)) (m j : Nat) (acc n : Int) (hj : j < 4) (hs : 4 ≤ s.length) (hn : n ≤ 3 ∧ 0 ≤ n) (c : UInt8) (hcc : s[j]'(by omega) = c) :
    b64_Bytes_L1 out s rec8 (m + 1) (acc, n, (j : Int)) = match stp acc n c with
      | none => some ([], 2)
      | some (a, k) => b64_Bytes_L1 out s rec8 m (a, k, ((j + 1 : Nat) : Int)) := by
  subst hcc
  show b64_Bytes_B1 out s rec8 (b64_Bytes_L1 out s rec8 m) acc n (j : Int) = _
  unfold b64_Bytes_B1 b64_Bytes_j3 stp num
  rw [bT (by omega), grd_At (by omega), lt_eq, at_nat (by omega), lt_eq, grd_At (by omega), lt_eq]
  by_cases hc : s[j]'(by omega) = 61
  · rw [bT hc, if_pos hc, if_pos hc, grd_I (by omega)]
    by_cases h1 : n - 1 < 1
    · rw [decide_eq_true h1, Bool.or_true, cond_true, if_pos (.inr h1)]
    · rw [decide_eq_false h1, decide_eq_false (by omega), Bool.or_false, cond_false, if_neg (by omega), grd_D (by omega), grd_I (by omega)]; rfl
  · rw [bF hc, if_neg hc, if_neg hc]
    by_cases h1 : Go.Lib.indexByte b64_k1 (s[j]'(by omega)) < 0
    · rw [decide_eq_true h1, Bool.true_or, cond_true, if_pos (.inl h1)]
    · by_cases h2 : n < 1
      · rw [decide_eq_true h2, Bool.or_true, cond_true, if_pos (.inr h2)]
      · rw [decide_eq_false h1, decide_eq_false h2, Bool.or_false, cond_false, if_neg (by omega), grd_D (by omega), grd_I (by omega)]; rfl
theorem three_len (v n : Int) : (three v n).length ≤ 3 := by unfold three to_; simp; omega
theorem p_four (out : Bs) (c0 c1 c2 c3 : UInt8) (r : Bs) (rec8 : (Bs × Bs) → Option (Bs × Int)) (m : Nat) (ho : out.length ≤ 10000000) :
    b64_Bytes_L1 out (c0 :: c1 :: c2 :: c3 :: r) rec8 (m + 5) (0, 3, 0) = match g4 c0 c1 c2 c3 with
      | none => some ([], 2)
      | some (v, n) => rec8 (out ++ three v n, r) := by
  have hl : 4 ≤ (c0 :: c1 :: c2 :: c3 :: r).length := by simp
  unfold g4
  refine (p_step out (c0 :: c1 :: c2 :: c3 :: r) rec8 (m + 4) 0 0 3 (by omega) hl (by omega) c0 rfl).trans ?_
  cases h0 : stp 0 3 c0 with
  | none => rfl
  | some x =>
    obtain ⟨a0, n0⟩ := x
    have b0 := stp_n h0
    refine (p_step out (c0 :: c1 :: c2 :: c3 :: r) rec8 (m + 3) 1 a0 n0 (by omega) hl (by omega) c1 rfl).trans ?_
    dsimp only
    cases h1 : stp a0 n0 c1 with
    | none => rfl
    | some x =>
      obtain ⟨a1, n1⟩ := x
      have b1 := stp_n h1
      refine (p_step out (c0 :: c1 :: c2 :: c3 :: r) rec8 (m + 2) 2 a1 n1 (by omega) hl (by omega) c2 rfl).trans ?_
      dsimp only
      cases h2 : stp a1 n1 c2 with
      | none => rfl
      | some x =>
        obtain ⟨a2, n2⟩ := x
        have b2 := stp_n h2
        refine (p_step out (c0 :: c1 :: c2 :: c3 :: r) rec8 (m + 1) 3 a2 n2 (by omega) hl (by omega) c3 rfl).trans ?_
        dsimp only
        cases h3 : stp a2 n2 c3 with
        | none => rfl
        | some x =>
          obtain ⟨a3, n3⟩ := x
          have b3 := stp_n h3
          show b64_Bytes_B1 out (c0 :: c1 :: c2 :: c3 :: r) rec8 (b64_Bytes_L1 out (c0 :: c1 :: c2 :: c3 :: r) rec8 m) a3 n3 ((4 : Nat) : Int) = _
          unfold b64_Bytes_B1 b64_Bytes_j2
          have ht := three_len a3 n3
          have hd : from_ (c0 :: c1 :: c2 :: c3 :: r) 4 = r := rfl
          rw [bF (by omega), grd_D (by omega), grd_D (by omega), grd_To (by simp; omega), lt_eq]
          show grd (okCat (out.length + (three a3 n3).length)) _ = _
          rw [grd_Cat (by omega), lt_eq, grd_To (by simp; omega), lt_eq, hd]; rfl
theorem p_loop (F : Nat) (hF : 5 ≤ F) (a : Bs) : ∀ (n : Nat) (out s : Bs), s.length < n → out.length + s.length ≤ 10000000 →
    b64_Bytes_L2 F a n (out, s) = match decP s with
      | none => some ([], 2)
      | some d => b64_Bytes_j1 F a (out ++ d) := by
  intro n
  induction n with
  | zero => intro out s h; omega
  | succ n ih =>
    intro out s hn hl
    show b64_Bytes_B2 F a (b64_Bytes_L2 F a n) out s = _
    unfold b64_Bytes_B2
    match s with
    | [] => 
      rw [decide_eq_true rfl, Bool.not_true, cond_false]
      show _ = b64_Bytes_j1 F a (out ++ [])
      rw [List.append_nil]
    | [_] => rw [decide_eq_false (by simp), Bool.not_false, cond_true, bT (by simp)]; rfl
    | [_, _] => rw [decide_eq_false (by simp), Bool.not_false, cond_true, bT (by simp)]; rfl
    | [_, _, _] => rw [decide_eq_false (by simp), Bool.not_false, cond_true, bT (by simp)]; rfl
    | c0 :: c1 :: c2 :: c3 :: r =>
      obtain ⟨m, rfl⟩ : ∃ m, F = m + 5 := ⟨F - 5, by omega⟩
      simp only [List.length_cons] at hl hn
      rw [decide_eq_false (by simp), Bool.not_false, cond_true, bF (by simp; omega), p_four out c0 c1 c2 c3 r _ m (by omega)]
      unfold decP
      cases hg : g4 c0 c1 c2 c3 with
      | none => rfl
      | some x =>
        obtain ⟨v, k⟩ := x
        have ht := three_len v k
        show b64_Bytes_L2 (m + 5) a n (out ++ three v k, r) = _
        rw [ih _ _ (by omega) (by simp; omega)]
        cases decP r with
        | none => rfl
        | some d => 
          show b64_Bytes_j1 _ a (out ++ three v k ++ d) = b64_Bytes_j1 _ a (out ++ (three v k ++ d))
          rw [List.append_assoc]
theorem toB_v (v : Nat) (b : UInt8) (h : v % 256 = b.toNat) : Go.Av.toB (v : Int) = b := by
  have e : ((v : Int) % 256).toNat = b.toNat := by omega
  unfold Go.Av.toB
  rw [e]; simp
theorem fd (v k : Nat) : Int.fdiv (v : Int) ((k : Nat) : Int) = ((v / k : Nat) : Int) := by
  rw [Int.fdiv_eq_ediv_of_nonneg _ (Int.natCast_nonneg _)]; rfl
theorem three_q (a b c : UInt8) (n : Nat) : three (q3 a.toNat b.toNat c.toNat : Int) (n : Int) = [a, b, c].take n := by
  have ha := a.toNat_lt
  have hb := b.toNat_lt
  have hc := c.toNat_lt
  have e16 : (2 : Int) ^ min (Int.toNat 16) IntKind.u64.bits = ((65536 : Nat) : Int) := by decide +kernel
  have e8 : (2 : Int) ^ min (Int.toNat 8) IntKind.u64.bits = ((256 : Nat) : Int) := by decide +kernel
  unfold three
  rw [e16, e8, fd, fd, toB_v _ a (by unfold q3; omega), toB_v _ b (by unfold q3; omega), toB_v _ c (by unfold q3; omega), to_nat]
theorem g4_full (a b c : UInt8) : g4 (ch (q3 a.toNat b.toNat c.toNat / 262144)) (ch (q3 a.toNat b.toNat c.toNat / 4096 % 64)) (ch (q3 a.toNat b.toNat c.toNat / 64 % 64)) (ch (q3 a.toNat b.toNat c.toNat % 64)) = some (((q3 a.toNat b.toNat c.toNat : Nat) : Int), 3) := by
  have hq := q3_lt a b c
  generalize q3 a.toNat b.toNat c.toNat = v at hq
  have h0 := stp_ch 0 3 (v / 262144) (by omega) (by omega) (by omega)
  have h1 := stp_ch (0 * 64 + v / 262144) 3 (v / 4096 % 64) (by omega) (by omega) (by omega)
  have h2 := stp_ch ((0 * 64 + v / 262144) * 64 + v / 4096 % 64) 3 (v / 64 % 64) (by omega) (by omega) (by omega)
  have h3 := stp_ch (((0 * 64 + v / 262144) * 64 + v / 4096 % 64) * 64 + v / 64 % 64) 3 (v % 64) (by omega) (by omega) (by omega)
  have e : (((0 * 64 + v / 262144) * 64 + v / 4096 % 64) * 64 + v / 64 % 64) * 64 + v % 64 = v := by omega
  rw [e] at h3
  unfold g4
  rw [show (0 : Int) = ((0 : Nat) : Int) from rfl, h0]
  simp only [h1, h2, h3]
theorem g4_two (a b : UInt8) : g4 (ch (q3 a.toNat b.toNat 0 / 262144)) (ch (q3 a.toNat b.toNat 0 / 4096 % 64)) (ch (q3 a.toNat b.toNat 0 / 64 % 64)) 61 = some (((q3 a.toNat b.toNat 0 : Nat) : Int), 2) := by
  have hq := q3_lt a b 0
  have hv : q3 a.toNat b.toNat 0 % 64 = 0 := by unfold q3; omega
  have hz : (0 : UInt8).toNat = 0 := rfl
  rw [hz] at hq
  generalize q3 a.toNat b.toNat 0 = v at hq hv
  have h0 := stp_ch 0 3 (v / 262144) (by omega) (by omega) (by omega)
  have h1 := stp_ch (0 * 64 + v / 262144) 3 (v / 4096 % 64) (by omega) (by omega) (by omega)
  have h2 := stp_ch ((0 * 64 + v / 262144) * 64 + v / 4096 % 64) 3 (v / 64 % 64) (by omega) (by omega) (by omega)
  have h3 := stp_pad (((0 * 64 + v / 262144) * 64 + v / 4096 % 64) * 64 + v / 64 % 64) 3 (by omega) (by omega)
  have e : (((0 * 64 + v / 262144) * 64 + v / 4096 % 64) * 64 + v / 64 % 64) * 64 = v := by omega
  rw [e] at h3
  unfold g4
  rw [show (0 : Int) = ((0 : Nat) : Int) from rfl, h0]
  simp only [h1, h2, h3]; rfl
theorem g4_one (a : UInt8) : g4 (ch (q3 a.toNat 0 0 / 262144)) (ch (q3 a.toNat 0 0 / 4096 % 64)) 61 61 = some (((q3 a.toNat 0 0 : Nat) : Int), 1) := by
  have hq := q3_lt a 0 0
  have hv : q3 a.toNat 0 0 % 4096 = 0 := by unfold q3; omega
  have hz : (0 : UInt8).toNat = 0 := rfl
  rw [hz] at hq
  generalize q3 a.toNat 0 0 = v at hq hv
  have h0 := stp_ch 0 3 (v / 262144) (by omega) (by omega) (by omega)
  have h1 := stp_ch (0 * 64 + v / 262144) 3 (v / 4096 % 64) (by omega) (by omega) (by omega)
  have h2 := stp_pad ((0 * 64 + v / 262144) * 64 + v / 4096 % 64) 3 (by omega) (by omega)
  have h3 := stp_pad (((0 * 64 + v / 262144) * 64 + v / 4096 % 64) * 64) (3 - 1) (by omega) (by omega)
  have e : (((0 * 64 + v / 262144) * 64 + v / 4096 % 64) * 64) * 64 = v := by omega
  rw [e] at h3
  unfold g4
  rw [show (0 : Int) = ((0 : Nat) : Int) from rfl, h0]
  simp only [h1, h2, h3]; rfl
theorem decP_enc : ∀ b : Bs, decP (enc b) = some b
  | a :: b :: c :: r => by
    have ih := decP_enc r
    show decP (_ :: _ :: _ :: _ :: enc r) = _
    unfold decP
    rw [g4_full, ih]
    show some (three (q3 a.toNat b.toNat c.toNat : Int) ((3 : Nat) : Int) ++ r) = _
    rw [three_q]; rfl
  | [a, b] => by
    show decP (_ :: _ :: _ :: _ :: []) = _
    unfold decP
    rw [show (0 : UInt8).toNat = 0 from rfl, g4_two]
    show some (three (q3 a.toNat b.toNat (0 : UInt8).toNat : Int) ((2 : Nat) : Int) ++ []) = _
    rw [three_q]; rfl
  | [a] => by
    show decP (_ :: _ :: _ :: _ :: []) = _
    unfold decP
    rw [show (0 : UInt8).toNat = 0 from rfl, g4_one]
    show some (three (q3 a.toNat (0 : UInt8).toNat (0 : UInt8).toNat : Int) ((1 : Nat) : Int) ++ []) = _
    rw [three_q]; rfl
  | [] => rfl
theorem enc_inj {a b : Bs} (h : enc a = enc b) : a = b := by
  have := decP_enc a
  rw [h, decP_enc] at this
  exact (Option.some.inj this).symm
theorem decP_len : ∀ (s d : Bs), decP s = some d → d.length ≤ s.length
  | [], d, h => by cases h; simp
  | [_], d, h => by cases h
  | [_, _], d, h => by cases h
  | [_, _, _], d, h => by cases h
  | c0 :: c1 :: c2 :: c3 :: r, d, h => by
    unfold decP at h
    cases hg : g4 c0 c1 c2 c3 with
    | none => rw [hg] at h; cases h
    | some x =>
      obtain ⟨v, n⟩ := x
      rw [hg] at h
      cases hr : decP r with
      | none => rw [hr] at h; cases h
      | some e =>
        rw [hr] at h
        cases h
        have := decP_len r e hr
        have := three_len v n
        simp; omega
open Classical in
noncomputable def dec (s : Bs) : Bs × Int := if h : ∃ b, enc b = s then (h.choose, 0) else ([], 2)
theorem dec_enc (b : Bs) : dec (enc b) = (b, 0) := by
  have h : ∃ x, enc x = enc b := ⟨b, rfl⟩
  unfold dec
  rw [dif_pos h]
  exact Prod.ext (enc_inj h.choose_spec) rfl
theorem dec_no {s : Bs} (h : ¬ ∃ b, enc b = s) : dec s = ([], 2) := by unfold dec; rw [dif_neg h]
theorem Bytes_eq (F : Nat) (s : Bs) (hs : s.length ≤ 400000) (hF : s.length + 10 < F) : b64_Bytes F s = some (dec s) := by
  have hl := p_loop F (by omega) s F [] s (by omega) (by simp; omega)
  show b64_Bytes_L2 F s F ([], s) = _
  rw [hl]
  cases hd : decP s with
  | none =>
    rw [dec_no (fun ⟨b, hb⟩ => by rw [← hb, decP_enc] at hd; cases hd)]
  | some d =>
    have hdl := decP_len s d hd
    show b64_Bytes_j1 F s ([] ++ d) = _
    unfold b64_Bytes_j1
    rw [List.nil_append, Raw_eq F d (by omega) (by omega), bnd_some]
    by_cases he : enc d = s
    · rw [decide_eq_true he, Bool.not_true, cond_false, ← he, dec_enc]
    · rw [decide_eq_false he, Bool.not_false, cond_true, dec_no (fun ⟨b, hb⟩ => by
        apply he; rw [← hb, decP_enc] at hd; cases hd; exact hb)]
end Go.Hd
namespace Go.Hd
open Go.Pv Go.Av
def nameb (c : UInt8) : Bool := ((((decide (97 ≤ (c.toNat : Int))) && (decide ((c.toNat : Int) ≤ 122))) || ((decide (65 ≤ (c.toNat : Int))) && (decide ((c.toNat : Int) ≤ 90)))) || ((decide (48 ≤ (c.toNat : Int))) && (decide ((c.toNat : Int) ≤ 57)))) || (decide (c = 45))
def okb (c : UInt8) : Bool := (decide (32 ≤ (c.toNat : Int))) && (decide ((c.toNat : Int) < 127))
theorem onlyN_loop (F : Nat) (s : Bs) (hs : s.length ≤ 1000000) : ∀ (n i : Nat), s.length - i < n → i ≤ s.length → head_onlyN_L1 F s n (i : Int) = some ((s.drop i).all nameb && !decide (s = [])) := by
  intro n
  induction n with
  | zero => intro i h; omega
  | succ n ih =>
    intro i hn hi
    show head_onlyN_B1 F s (head_onlyN_L1 F s n) (i : Int) = _
    unfold head_onlyN_B1 head_onlyN_j1
    by_cases h : i < s.length
    · have hd : s.drop i = s[i] :: s.drop (i + 1) := List.drop_eq_getElem_cons h
      have hc : head_nameC F s[i] = some (nameb s[i]) := rfl
      rw [bT (by omega), grd_At (by omega), lt_eq, at_nat h, hc, bnd_some, hd, List.all_cons]
      cases hp : nameb s[i] with
      | false => rfl
      | true => rw [Bool.not_true, cond_false, grd_I (by omega), cast_succ, ih (i + 1) (by omega) (by omega), Bool.true_and]
    · rw [bF (by omega), List.drop_eq_nil_of_le (by omega)]; simp
theorem onlyN_eq (F : Nat) (s : Bs) (hs : s.length ≤ 1000000) (hF : s.length < F) : head_onlyN F s = some (s.all nameb && !decide (s = [])) := onlyN_loop F s hs F 0 (by omega) (by omega)
theorem onlyP_loop (F : Nat) (s : Bs) (hs : s.length ≤ 1000000) : ∀ (n i : Nat), s.length - i < n → i ≤ s.length → head_onlyP_L1 F s n (i : Int) = some ((s.drop i).all okb && !decide (s = [])) := by
  intro n
  induction n with
  | zero => intro i h; omega
  | succ n ih =>
    intro i hn hi
    show head_onlyP_B1 F s (head_onlyP_L1 F s n) (i : Int) = _
    unfold head_onlyP_B1 head_onlyP_j1
    by_cases h : i < s.length
    · have hd : s.drop i = s[i] :: s.drop (i + 1) := List.drop_eq_getElem_cons h
      have hc : head_plainC F s[i] = some (okb s[i]) := rfl
      rw [bT (by omega), grd_At (by omega), lt_eq, at_nat h, hc, bnd_some, hd, List.all_cons]
      cases hp : okb s[i] with
      | false => rfl
      | true => rw [Bool.not_true, cond_false, grd_I (by omega), cast_succ, ih (i + 1) (by omega) (by omega), Bool.true_and]
    · rw [bF (by omega), List.drop_eq_nil_of_le (by omega)]; simp
theorem onlyP_eq (F : Nat) (s : Bs) (hs : s.length ≤ 1000000) (hF : s.length < F) : head_onlyP F s = some (s.all okb && !decide (s = [])) := onlyP_loop F s hs F 0 (by omega) (by omega)
def nameB (s : Bs) : Bool := (s.all nameb && !decide (s = [])) && decide (s.length ≤ 40)
theorem name_eq (F : Nat) (s : Bs) (hs : s.length ≤ 1000000) (hF : s.length < F) : head_name F s = some (nameB s) := by
  unfold head_name nameB
  rw [onlyN_eq F s hs hF]
  by_cases h : s.length ≤ 40
  · rw [decide_eq_true (show (s.length : Int) ≤ 40 by omega), decide_eq_true h, bndc_t, bnd_some, Bool.true_and, Bool.and_true]
  · rw [decide_eq_false (show ¬ (s.length : Int) ≤ 40 by omega), decide_eq_false h, bndc_f, Bool.false_and, Bool.and_false]
def bad (x y : UInt8) : Bool := (x == 32 && y == 32) || (x == 61 && y == 63)
def has2 (p : UInt8 → UInt8 → Bool) : Bs → Bool
  | x :: y :: r => p x y || has2 p (y :: r)
  | _ => false
theorem contains_cons (x : UInt8) (r sub : Bs) : Go.Lib.contains (x :: r) sub = (sub.isPrefixOf (x :: r) || Go.Lib.contains r sub) := by
  unfold Go.Lib.contains
  have hg := Go.Lib.index_ge r sub
  rw [Go.Lib.index]
  cases hp : sub.isPrefixOf (x :: r) with
  | true => simp
  | false =>
    rw [if_neg (by simp), Bool.false_or]
    by_cases h : Go.Lib.index r sub = -1
    · rw [h]; rfl
    · rw [if_neg (by simpa using h)]
      exact decide_eq_decide.2 (by omega)
theorem contains_two (a b : UInt8) : ∀ s : Bs, Go.Lib.contains s [a, b] = has2 (fun x y => x == a && y == b) s
  | [] => rfl
  | [x] => by rw [contains_cons]; simp [has2, List.isPrefixOf, Go.Lib.contains, Go.Lib.index]
  | x :: y :: r => by
    rw [contains_cons, contains_two a b (y :: r), has2]
    simp only [List.isPrefixOf, Bool.and_true]
    rw [Bool.beq_comm (a := x), Bool.beq_comm (a := y)]
theorem has2_or (p q : UInt8 → UInt8 → Bool) : ∀ s : Bs, has2 (fun x y => p x y || q x y) s = (has2 p s || has2 q s)
  | [] => rfl
  | [x] => rfl
  | x :: y :: r => by
    rw [has2, has2, has2, has2_or p q (y :: r)]
    cases p x y <;> cases q x y <;> cases has2 p (y :: r) <;> rfl
theorem dw_len (p : UInt8 → Bool) : ∀ s : Bs, (s.dropWhile p).length ≤ s.length
  | [] => Nat.le_refl _
  | x :: r => by
    rw [List.dropWhile_cons]
    have := dw_len p r
    split
    · simp; omega
    · exact Nat.le_refl _
theorem dw_id (c : UInt8) (s : Bs) : s.dropWhile (· == c) = s ↔ s.head? ≠ some c := by
  cases s with
  | nil => simp
  | cons x r =>
    rw [List.dropWhile_cons]
    have := dw_len (· == c) r
    by_cases h : x = c
    · subst h
      simp only [beq_self_eq_true, if_true, List.head?_cons, ne_eq, not_true_eq_false, iff_false]
      intro he
      rw [he] at this
      simp at this
      omega
    · simp [h]
theorem trim_id (c : UInt8) (s : Bs) : Go.Lib.trimB s c = s ↔ s.head? ≠ some c ∧ s.getLast? ≠ some c := by
  have hr : Go.Lib.trimRightB s c = s ↔ s.getLast? ≠ some c := by
    unfold Go.Lib.trimRightB
    rw [← List.head?_reverse, ← dw_id, ← List.reverse_inj, List.reverse_reverse]
  have hl : (Go.Lib.trimRightB s c).length ≤ s.length := by
    have := dw_len (· == c) s.reverse
    unfold Go.Lib.trimRightB
    simpa using this
  unfold Go.Lib.trimB
  constructor
  · intro h
    have h1 := dw_len (· == c) (Go.Lib.trimRightB s c)
    have h2 : (Go.Lib.trimRightB s c) = s := by
      have e : (Go.Lib.trimRightB s c).length = s.length := by
        have := congrArg List.length h
        unfold Go.Lib.trimLeftB at this
        omega
      have p : Go.Lib.trimRightB s c <+: s := by
        unfold Go.Lib.trimRightB
        rw [← List.reverse_suffix, List.reverse_reverse]
        exact List.dropWhile_suffix _
      exact p.eq_of_length e
    rw [h2] at h
    exact ⟨(dw_id c s).1 h, hr.1 h2⟩
  · intro ⟨h1, h2⟩
    rw [hr.2 h2]
    exact (dw_id c s).2 h1
def plainB (s : Bs) : Bool := (((s.all okb && !decide (s = [])) && (decide (s.head? ≠ some 32) && decide (s.getLast? ≠ some 32))) && !has2 bad s)
theorem Plain_eq (F : Nat) (s : Bs) (hs : s.length ≤ 1000000) (hF : s.length < F) : head_Plain F s = some (plainB s) := by
  unfold head_Plain
  have hS : ∀ (c : Bool) (k : Option Bool), grdc c (okS s.length) k = k := fun c k => by
    rw [show okS s.length = true from decide_eq_true (by omega)]; cases c <;> rfl
  rw [onlyP_eq F s hs hF, bnd_some, hS, lt_eq, hS, lt_eq, hS, lt_eq, contains_two, contains_two]
  have e1 : has2 bad s = (has2 (fun x y => x == 32 && y == 32) s || has2 (fun x y => x == 61 && y == 63) s) := has2_or _ _ s
  have e2 : decide (Go.Lib.trimB s 32 = s) = (decide (s.head? ≠ some 32) && decide (s.getLast? ≠ some 32)) := by
    rw [← Bool.decide_and]; exact decide_eq_decide.2 (trim_id 32 s)
  unfold plainB
  rw [e1, e2, Bool.not_or, Bool.and_assoc _ (!_) (!_)]
theorem bq (a b : UInt8) : decide (a = b) = (a == b) := by by_cases h : a = b <;> simp [h]
theorem fand (x : Bool) : (false && x) = false := Eq.symm (Eq.symm rfl)
theorem tand (x : Bool) : (true && x) = x := Eq.symm (Eq.symm rfl)
theorem nfl : (!false) = true := Eq.symm (Eq.symm rfl)
theorem ntr : (!true) = false := Eq.symm (Eq.symm rfl)
theorem cfl {α : Type} (a b : α) : (bif false then a else b) = b := Eq.symm (Eq.symm rfl)
theorem ctr {α : Type} (a b : α) : (bif true then a else b) = a := Eq.symm (Eq.symm rfl)
def insb (c : UInt8) : Bool := decide (Go.Av.shr8 c 6 = 2)
def dn (s : Bs) : Nat → Nat
  | 0 => 45
  | k + 1 => bif insb (gb s (42 + k)) then dn s k else 42 + k
theorem gb_at {s : Bs} {i : Nat} (h : i < s.length) : gb s i = s[i] := by simp [gb, h]
theorem part_loop (F : Nat) (s : Bs) (hs : 45 < s.length) : ∀ (n k : Nat), k < n → k ≤ 4 → head_part_L1 F s n ((41 + k : Nat) : Int) = some ((dn s k : Nat) : Int) := by
  intro n
  induction n with
  | zero => intro k h; omega
  | succ n ih =>
    intro k hk h4
    show head_part_B1 F s (head_part_L1 F s n) ((41 + k : Nat) : Int) = _
    unfold head_part_B1
    cases k with
    | zero => rfl
    | succ k =>
      have e : 41 + (k + 1) = 42 + k := by omega
      have hb : head_inside F s[42 + k] = some (insb (gb s (42 + k))) := by rw [gb_at (by omega)]; rfl
      rw [e, decide_eq_true (show (41 : Int) < ((42 + k : Nat) : Int) by omega), grdc_t, grd_At (by omega), lt_eq, at_nat (by omega), hb, bndc_t, bnd_some, Bool.true_and]
      unfold dn
      cases insb (gb s (42 + k)) with
      | true =>
        have e2 : ((42 + k : Nat) : Int) - 1 = ((41 + k : Nat) : Int) := by omega
        rw [cond_true, cond_true, grd_I (by omega), e2, ih k (by omega) (by omega)]
      | false =>
        rw [cond_false, cond_false]
        unfold head_part_j1
        rw [bF (by omega)]
def pt (s : Bs) : Nat := if s.length ≤ 45 then s.length else dn s 4
theorem dn_le (s : Bs) : ∀ k, k ≤ 4 → 42 ≤ dn s k ∧ dn s k ≤ 45
  | 0, _ => by simp [dn]
  | k + 1, h => by
    have := dn_le s k (by omega)
    unfold dn
    cases insb (gb s (42 + k)) with
    | true => exact this
    | false => rw [cond_false]; omega
theorem pt_le (s : Bs) : pt s ≤ s.length ∧ pt s ≤ 45 ∧ (s ≠ [] → 1 ≤ pt s) := by
  have := dn_le s 4 (by omega)
  unfold pt
  split
  · exact ⟨Nat.le_refl _, by omega, fun h => List.length_pos_iff.2 h⟩
  · exact ⟨by omega, by omega, fun h => by omega⟩
theorem part_eq (F : Nat) (hF : 5 ≤ F) (s : Bs) : head_part F s = some ((pt s : Nat) : Int) := by
  unfold head_part pt
  by_cases h : s.length ≤ 45
  · rw [bT (by omega), if_pos h]
  · rw [bF (by omega), if_neg h]; exact part_loop F s (by omega) F 4 (by omega) (by omega)
def ahead : Bs := [61, 63, 117, 116, 102, 45, 56, 63, 66, 63]
def behind : Bs := [63, 61]
def word (p : Bs) : Bs := ahead ++ enc p ++ behind
def pcs : Nat → Bs → List Bs
  | 0, _ => []
  | n + 1, s => if s = [] then [] else word (s.take (pt s)) :: pcs n (s.drop (pt s))
theorem pcs_nil (n : Nat) : pcs n [] = [] := by cases n <;> rfl
theorem pcs_more : ∀ (n m : Nat) (s : Bs), s.length ≤ n → s.length ≤ m → pcs n s = pcs m s := by
  intro n
  induction n with
  | zero => intro m s h1 h2; have : s = [] := List.eq_nil_of_length_eq_zero (by omega); subst this; rw [pcs_nil, pcs_nil]
  | succ n ih =>
    intro m s h1 h2
    by_cases h : s = []
    · subst h; rw [pcs_nil, pcs_nil]
    · have hp := pt_le s
      have hl := List.length_pos_iff.2 h
      have h3 := hp.2.2 h
      obtain ⟨m, rfl⟩ : ∃ k, m = k + 1 := ⟨m - 1, by omega⟩
      rw [pcs, pcs, if_neg h, if_neg h, ih m (s.drop (pt s)) (by simp; omega) (by simp; omega)]
def pieces (s : Bs) : List Bs := pcs s.length s
theorem pieces_cons {s : Bs} (h : s ≠ []) : pieces s = word (s.take (pt s)) :: pieces (s.drop (pt s)) := by
  have hp := pt_le s
  have hl := List.length_pos_iff.2 h
  have h3 := hp.2.2 h
  unfold pieces
  obtain ⟨m, hm⟩ : ∃ k, s.length = k + 1 := ⟨s.length - 1, by omega⟩
  rw [hm, pcs, if_neg h, pcs_more m (s.drop (pt s)).length _ (by simp; omega) (by simp)]
theorem pieces_nil : pieces [] = [] := rfl
def wordsOf (s : Bs) : List Bs := bif plainB s then sp 32 s else pieces s
def fold1 {σ : Type} (k : σ → Bs → Option (σ × Bool)) (st : σ) (w : Bs) : Option σ := match k st w with
  | some (st', true) => some st'
  | _ => none
def foldK {σ : Type} (k : σ → Bs → Option (σ × Bool)) : σ → List Bs → Option σ
  | st, [] => some st
  | st, w :: ws => match fold1 k st w with
    | none => none
    | some st' => foldK k st' ws
theorem fold1_s {σ : Type} {k : σ → Bs → Option (σ × Bool)} {st st' : σ} {w : Bs} (h : fold1 k st w = some st') : k st w = some (st', true) := by
  unfold fold1 at h
  split at h
  · rename_i h1; cases h; exact h1
  · cases h
theorem foldK_s {σ : Type} {k : σ → Bs → Option (σ × Bool)} {st st' : σ} {w : Bs} {ws : List Bs} (h : foldK k st (w :: ws) = some st') : ∃ m, k st w = some (m, true) ∧ foldK k m ws = some st' := by
  rw [foldK] at h
  cases hf : fold1 k st w with
  | none => rw [hf] at h; cases h
  | some m => rw [hf] at h; exact ⟨m, fold1_s hf, h⟩
theorem wI_loop {σ : Type} (F : Nat) (k : σ → Bs → Option (σ × Bool)) (hF : 60 ≤ F) : ∀ (n : Nat) (s : Bs) (st st' : σ), s.length < n → s.length ≤ 1000000 → foldK k st (pieces s) = some st' → ∃ r, head_wordsI_L1 F k n (s, st) = some (st', r) := by
  intro n
  induction n with
  | zero => intro s st st' h; omega
  | succ n ih =>
    intro s st st' hn hs H
    have e : head_wordsI_L1 F k (n + 1) (s, st) = head_wordsI_B1 F k (head_wordsI_L1 F k n) s st := rfl
    rw [e]
    unfold head_wordsI_B1
    by_cases h : s = []
    · subst h
      cases H
      exact ⟨[], rfl⟩
    · have hp := pt_le s
      have hl := List.length_pos_iff.2 h
      have h3 := hp.2.2 h
      rw [pieces_cons h] at H
      obtain ⟨m, h1, h2⟩ := foldK_s H
      obtain ⟨r, hr⟩ := ih (s.drop (pt s)) m st' (by simp; omega) (by simp; omega) h2
      refine ⟨r, ?_⟩
      have he := enc_len (s.take (pt s))
      have ht : (s.take (pt s)).length ≤ 45 := by simp; omega
      rw [decide_eq_false h, Bool.not_false, cond_true, part_eq F (by omega), bnd_some, grd_To (by omega), lt_eq, to_nat, grd_Cat (by omega), Raw_eq F _ (by omega) (by omega), bnd_some]
      rw [grd_Cat (by simp; omega), lt_eq, grd_Cat (by simp; omega), lt_eq]
      have hk : k st (([61, 63, 117, 116, 102, 45, 56, 63, 66, 63] : Bs) ++ enc (s.take (pt s)) ++ [63, 61]) = some (m, true) := h1
      rw [hk, bnd2_some, Bool.not_true, cond_false, grd_To (by omega), lt_eq, from_nat]
      exact hr
theorem wS_loop {σ : Type} (a : Bs) (k : σ → Bs → Option (σ × Bool)) (l : List Bs) (hl : l.length ≤ 10000000) : ∀ (n i : Nat) (st st' : σ), l.length - i < n → i ≤ l.length → foldK k st (l.drop i) = some st' → head_wordsI_L2 a k l n ((i : Int), st) = some (st', a) := by
  intro n
  induction n with
  | zero => intro i st st' h; omega
  | succ n ih =>
    intro i st st' hn hi H
    have e : head_wordsI_L2 a k l (n + 1) ((i : Int), st) = head_wordsI_B2 a k l (head_wordsI_L2 a k l n) (i : Int) st := rfl
    rw [e]
    unfold head_wordsI_B2
    by_cases h : i < l.length
    · rw [List.drop_eq_getElem_cons h] at H
      obtain ⟨m, h1, h2⟩ := foldK_s H
      rw [bT (by omega), grd_At (by omega), lt_eq, at_nat h, h1, bnd2_some, Bool.not_true, cond_false, grd_I (by omega), cast_succ]
      exact ih (i + 1) m st' (by omega) (by omega) h2
    · rw [List.drop_eq_nil_of_le (by omega)] at H
      cases H
      rw [bF (by omega)]
theorem wordsI_eq {σ : Type} (F : Nat) (k : σ → Bs → Option (σ × Bool)) (s : Bs) (st st' : σ) (hs : s.length ≤ 1000000) (hF : s.length + 100 < F) (H : foldK k st (wordsOf s) = some st') : ∃ r, head_wordsI F k st s = some (st', r) := by
  unfold head_wordsI
  rw [Plain_eq F s hs (by omega), bnd_some]
  unfold wordsOf at H
  cases hp : plainB s with
  | true =>
    rw [hp, cond_true] at H
    have hl := sp_length 32 s
    rw [cond_true, grd_S (by omega), grd_D (by simp), lt_eq, split_one]
    exact ⟨s, wS_loop s k (sp 32 s) (by omega) F 0 st st' (by omega) (by omega) H⟩
  | false =>
    rw [hp, cond_false] at H
    rw [cond_false]
    exact wI_loop F k (by omega) F s st st' (by omega) hs H
theorem pieces_len (s : Bs) : ∀ n, s.length ≤ n → (pieces s).length ≤ s.length ∧ ∀ w ∈ pieces s, w.length ≤ 104 := by
  intro n
  induction n generalizing s with
  | zero => intro h; have : s = [] := List.eq_nil_of_length_eq_zero (by omega); subst this; simp [pieces_nil]
  | succ n ih =>
    intro h
    by_cases h0 : s = []
    · subst h0; simp [pieces_nil]
    · have hp := pt_le s
      have hl := List.length_pos_iff.2 h0
      have h3 := hp.2.2 h0
      have ⟨i1, i2⟩ := ih (s.drop (pt s)) (by simp; omega)
      have he := enc_len (s.take (pt s))
      have ht : (s.take (pt s)).length ≤ 45 := by simp; omega
      rw [pieces_cons h0]
      refine ⟨by simp at i1 ⊢; omega, fun w hw => ?_⟩
      rcases List.mem_cons.1 hw with rfl | hw
      · simp [word, ahead, behind]; omega
      · exact i2 w hw
theorem mem_total {l : List Bs} {w : Bs} (h : w ∈ l) : w.length ≤ Str.total l := by
  induction l with
  | nil => cases h
  | cons x r ih =>
    rcases List.mem_cons.1 h with rfl | h
    · simp [Str.total]
    · have := ih h; simp [Str.total]; omega
theorem wordsOf_len (s : Bs) : (wordsOf s).length ≤ s.length + 1 ∧ ∀ w ∈ wordsOf s, w.length ≤ s.length + 104 := by
  unfold wordsOf
  cases plainB s with
  | true =>
    rw [cond_true]
    have h1 := sp_total 32 s
    have h2 := sp_length 32 s
    exact ⟨h2, fun w hw => by have := mem_total hw; have := List.length_pos_iff.2 (List.ne_nil_of_mem hw); omega⟩
  | false =>
    rw [cond_false]
    have ⟨h1, h2⟩ := pieces_len s s.length (by omega)
    exact ⟨by omega, fun w hw => by have := h2 w hw; omega⟩
end Go.Hd
namespace Go.Hd
open Go.Pv Go.Av
def lnStep (st : Int × Bs) (x : Bs) : Int × Bs := if 76 < st.1 + 1 + (x.length : Int) then (0 + 1 + (x.length : Int), st.2 ++ [13, 10] ++ [32] ++ x) else (st.1 + 1 + (x.length : Int), st.2 ++ [32] ++ x)
def lineOf (a b : Bs) : Bs := ((wordsOf b).foldl lnStep (((a.length + 1 : Nat) : Int), a ++ [58])).2 ++ [13, 10]
theorem lnStep_len (st : Int × Bs) (x : Bs) : (lnStep st x).2.length ≤ st.2.length + x.length + 3 := by
  unfold lnStep; split <;> simp <;> omega
theorem lnStep_n (st : Int × Bs) (x : Bs) (h : 0 ≤ st.1) (hx : x.length ≤ 2000000) : 0 ≤ (lnStep st x).1 ∧ (lnStep st x).1 ≤ 2000001 := by
  unfold lnStep; split <;> simp <;> omega
theorem k1_eq (st : Int × Bs) (x : Bs) (h0 : 0 ≤ st.1) (h1 : st.1 ≤ 10000000) (hx : x.length ≤ 2000000) (ho : st.2.length + x.length + 3 ≤ 50000000000) :
    fold1 (fun s x => head_Line_k1 s.1 s.2 x) st x = some (lnStep st x) := by
  have hk : head_Line_k1 st.1 st.2 x = some (lnStep st x, true) := by
    unfold head_Line_k1 head_Line_j2 lnStep
    by_cases h : 76 < st.1 + 1 + (x.length : Int)
    · rw [bT h, if_pos h]
      simp (disch := (first | omega | (simp; omega))) only [grd_I, grd_Cat, lt_eq]
    · rw [bF h, if_neg h]
      simp (disch := (first | omega | (simp; omega))) only [grd_I, grd_Cat, lt_eq]
  unfold fold1
  simp only [hk]
theorem line_fold : ∀ (ws : List Bs) (st : Int × Bs), (∀ w ∈ ws, w.length ≤ 2000000) → 0 ≤ st.1 → st.1 ≤ 10000000 → st.2.length + ws.length * 2000003 ≤ 50000000000 →
    foldK (fun s x => head_Line_k1 s.1 s.2 x) st ws = some (ws.foldl lnStep st) ∧ (ws.foldl lnStep st).2.length ≤ st.2.length + ws.length * 2000003
  | [], st, _, _, _, _ => ⟨rfl, by simp⟩
  | w :: ws, st, hw, h0, h1, hl => by
    have hx := hw w (by simp)
    have hn := lnStep_n st w h0 hx
    have hs := lnStep_len st w
    simp only [List.length_cons] at hl
    have ⟨i1, i2⟩ := line_fold ws (lnStep st w) (fun v hv => hw v (by simp [hv])) hn.1 (by omega) (by omega)
    rw [foldK, k1_eq st w h0 h1 hx (by omega)]
    refine ⟨i1, ?_⟩
    rw [List.foldl_cons, List.length_cons]; omega
def okLine (a b : Bs) : Bool := nameB a && decide (b.length ≤ 4000)
theorem okLine_s {a b : Bs} (h : okLine a b = true) : nameB a = true ∧ b.length ≤ 4000 ∧ a.length ≤ 40 := by
  unfold okLine at h
  rw [Bool.and_eq_true] at h
  refine ⟨h.1, of_decide_eq_true h.2, ?_⟩
  have := h.1
  unfold nameB at this
  rw [Bool.and_eq_true] at this
  exact of_decide_eq_true this.2
theorem lineOf_len (a b : Bs) (h : okLine a b = true) : (lineOf a b).length ≤ 50000000000 ∧ (a.length : Int) + 1 + (wordsOf b).length ≤ 10000 := by
  have ⟨h1, h2, h3⟩ := okLine_s h
  have ⟨w1, w2⟩ := wordsOf_len b
  have := (line_fold (wordsOf b) (((a.length + 1 : Nat) : Int), a ++ [58]) (fun w hw => by have := w2 w hw; omega) (by simp; omega) (by simp; omega) (by simp; omega)).2
  refine ⟨?_, by omega⟩
  unfold lineOf
  simp at this ⊢; omega
theorem Line_eq (F : Nat) (a b : Bs) (ha : a.length ≤ 1000000) (hFa : a.length < F) (hF : 4200 < F) : head_Line F a b = some (if okLine a b = true then (lineOf a b, 0) else ([], 1)) := by
  unfold head_Line head_Line_j1
  rw [name_eq F a ha hFa, bnd_some]
  by_cases h : okLine a b = true
  · have ⟨h1, h2, h3⟩ := okLine_s h
    have ⟨w1, w2⟩ := wordsOf_len b
    have hlen := (lineOf_len a b h).1
    have ⟨f1, f2⟩ := line_fold (wordsOf b) (((a.length + 1 : Nat) : Int), a ++ [58]) (fun w hw => by have := w2 w hw; omega) (by simp; omega) (by simp; omega) (by simp; omega)
    obtain ⟨r, hr⟩ := wordsI_eq F _ b _ _ (by omega) (by omega) f1
    rw [if_pos h, h1, Bool.not_true, Bool.false_or, bF (by omega), grd_Cat (by simp; omega), lt_eq, grd_Cat (by simp; omega)]
    unfold head_words
    rw [bnd_some]
    have e : (((a ++ [58] : Bs).length : Int), a ++ [58]) = (((a.length + 1 : Nat) : Int), a ++ [58]) := by simp
    rw [e, hr, bnd2_some, grd_Cat (by simp at f2 ⊢; omega), lt_eq]
    rfl
  · rw [if_neg h]
    have : ((!nameB a) || (decide (4000 < (b.length : Int)))) = true := by
      unfold okLine at h
      cases hn : nameB a with
      | false => rfl
      | true =>
        rw [hn, Bool.true_and, decide_eq_true_eq] at h
        rw [decide_eq_true (show 4000 < (b.length : Int) by omega)]; rfl
    rw [this, cond_true]
end Go.Hd
namespace Go.Hd
open Go.Pv Go.Av
def spb (c : UInt8) : Bool := ((decide (c = 32)) || (decide (c = 13))) || (decide (c = 10))
def wf : Bs → Bs → List Bs
  | cur, [] => if cur = [] then [] else [cur]
  | cur, c :: r => if spb c = true then (if cur = [] then wf [] r else cur :: wf [] r) else wf (cur ++ [c]) r
theorem wf_run (r : Bs) : ∀ (p cur : Bs), (∀ c ∈ p, spb c = false) → wf cur (p ++ r) = wf (cur ++ p) r
  | [], cur, _ => by simp
  | c :: p, cur, h => by
    rw [List.cons_append, wf, if_neg (by rw [h c (by simp)]; simp), wf_run r p (cur ++ [c]) (fun x hx => h x (by simp [hx]))]
    simp
theorem spb_ascii (c : UInt8) (h : c.toNat < 128) : spB c.toNat = spb c := by
  have := of_all8 (fun c => decide (c.toNat < 128 → spB c.toNat = spb c)) (by decide +kernel) c
  exact of_decide_eq_true this h
theorem spb_high (c : UInt8) (h : 128 ≤ c.toNat) : spb c = false := by
  have := of_all8 (fun c => decide (128 ≤ c.toNat → spb c = false)) (by decide +kernel) c
  exact of_decide_eq_true this h
theorem spB_high (n : Nat) (h : 128 ≤ n) : spB n = false := by
  unfold spB
  rw [decide_eq_false (by omega), decide_eq_false (by omega), decide_eq_false (by omega)]; rfl
theorem ba_size (l : Bs) : (⟨l.toArray⟩ : ByteArray).size = l.length := by simp [ByteArray.size]
theorem ba_get (l : Bs) (i : Nat) (h : i < l.length) : (⟨l.toArray⟩ : ByteArray).get! i = l[i] := by
  simp [ByteArray.get!, h]
theorem ba_at (l : Bs) (i : Nat) (h : i < (⟨l.toArray⟩ : ByteArray).size) : (⟨l.toArray⟩ : ByteArray)[i]'h = l[i]'(by rwa [ba_size] at h) := rfl
theorem cover (l : Bs) (pos : Nat) (h : pos < l.length) (ha : 128 ≤ (l[pos]).toNat) :
    pos + (Utf8.decode ⟨l.toArray⟩ pos).2 ≤ l.length ∧ ∀ k, k < (Utf8.decode ⟨l.toArray⟩ pos).2 → 128 ≤ (gb l (pos + k)).toNat := by
  have hn : ¬ (l[pos]).toNat < 128 := by omega
  have e0 : (⟨l.toArray⟩ : ByteArray).get! (pos + 0) = l[pos] := ba_get l pos h
  have g0 : 128 ≤ (gb l (pos + 0)).toNat := by rw [Nat.add_zero, gb_at h]; exact ha
  have hg : ∀ k, pos + k < l.length → ((⟨l.toArray⟩ : ByteArray).get! (pos + k)).toNat / 64 = 2 → 128 ≤ (gb l (pos + k)).toNat := fun k hk he => by
    rw [ba_get l _ hk] at he; rw [gb_at hk]; omega
  have one : ∀ x : Nat × Nat, x.2 = 1 → pos + x.2 ≤ l.length ∧ ∀ k, k < x.2 → 128 ≤ (gb l (pos + k)).toNat := fun x hx => by
    rw [hx]; exact ⟨by omega, fun k hk => by obtain rfl : k = 0 := by omega
                                             exact g0⟩
  unfold Utf8.decode
  simp only [e0, ba_size]
  rw [if_neg hn]
  split
  · rename_i h1
    simp only [Bool.and_eq_true, beq_iff_eq, decide_eq_true_eq] at h1
    split
    · exact ⟨by dsimp only; omega, fun k hk => by
        dsimp only at hk
        rcases (show k = 0 ∨ k = 1 by omega) with rfl | rfl
        · exact g0
        · exact hg 1 h1.2.1 h1.2.2⟩
    · exact one _ rfl
  · split
    · rename_i h1
      simp only [Bool.and_eq_true, beq_iff_eq, decide_eq_true_eq] at h1
      split
      · exact ⟨by dsimp only; omega, fun k hk => by
          dsimp only at hk
          rcases (show k = 0 ∨ k = 1 ∨ k = 2 by omega) with rfl | rfl | rfl
          · exact g0
          · exact hg 1 h1.1.2.1 h1.1.2.2
          · exact hg 2 h1.2.1 h1.2.2⟩
      · exact one _ rfl
    · split
      · rename_i h1
        simp only [Bool.and_eq_true, beq_iff_eq, decide_eq_true_eq] at h1
        split
        · exact ⟨by dsimp only; omega, fun k hk => by
            dsimp only at hk
            rcases (show k = 0 ∨ k = 1 ∨ k = 2 ∨ k = 3 by omega) with rfl | rfl | rfl | rfl
            · exact g0
            · exact hg 1 h1.1.1.2.1 h1.1.1.2.2
            · exact hg 2 h1.1.2.1 h1.1.2.2
            · exact hg 3 h1.2.1 h1.2.2⟩
        · exact one _ rfl
      · exact one _ rfl
def opn (l : Bs) (st : Option Nat) (pos : Nat) : Bs := match st with
  | none => []
  | some a => (l.take pos).drop a
theorem opn_ne {l : Bs} {a pos : Nat} (h : a < pos) (hp : pos ≤ l.length) : (l.take pos).drop a ≠ [] := by
  intro h0
  have := congrArg List.length h0
  simp at this; omega
theorem ext_eq (l : Bs) (a b : Nat) : ((⟨l.toArray⟩ : ByteArray).extract a b).data.toList = (l.take b).drop a := by
  rw [Go.Lib.extract_data, ← List.drop_take]
theorem spans_wf (l : Bs) : ∀ (f pos : Nat) (st : Option Nat) (acc : List (Nat × Nat)), l.length - pos ≤ f → pos ≤ l.length → (∀ a, st = some a → a < pos) →
    (Go.Lib.closeSpans ⟨l.toArray⟩ (Go.Lib.spansFromP spB ⟨l.toArray⟩ f pos st acc)).map (fun x => (l.take x.2).drop x.1) = acc.map (fun x => (l.take x.2).drop x.1) ++ wf (opn l st pos) (l.drop pos) := by
  intro f
  induction f with
  | zero =>
    intro pos st acc hf hp hst
    have : pos = l.length := by omega
    subst this
    cases st with
    | none => simp [Go.Lib.spansFromP, Go.Lib.closeSpans, opn, wf]
    | some a =>
      have := opn_ne (hst a rfl) hp
      simp only [Go.Lib.spansFromP, Go.Lib.closeSpans, opn, ba_size, List.map_append, List.drop_length]
      rw [wf, if_neg this]; rfl
  | succ f ih =>
    intro pos st acc hf hp hst
    unfold Go.Lib.spansFromP
    by_cases h : pos < l.length
    · rw [if_pos (by rw [ba_size]; exact h)]
      have hd : l.drop pos = l[pos] :: l.drop (pos + 1) := List.drop_eq_getElem_cons h
      by_cases ha : (l[pos]).toNat < 128
      · have e := decode_ascii ⟨l.toArray⟩ pos (by rw [ba_size]; exact h) ha
        rw [ba_at] at e
        rw [e, spb_ascii _ ha, hd, wf]
        cases hs : spb l[pos] with
        | true =>
          rw [if_pos rfl, if_pos rfl]
          cases st with
          | none => 
            show (Go.Lib.closeSpans _ (Go.Lib.spansFromP spB _ f (pos + 1) none acc)).map _ = _
            rw [ih _ _ _ (by omega) (by omega) (fun a h => by cases h), if_pos (show opn l none pos = [] from rfl)]; rfl
          | some a =>
            have hn : opn l (some a) pos ≠ [] := opn_ne (hst a rfl) hp
            show (Go.Lib.closeSpans _ (Go.Lib.spansFromP spB _ f (pos + 1) none (acc ++ [(a, pos)]))).map _ = _
            rw [ih _ _ _ (by omega) (by omega) (fun a h => by cases h), if_neg hn, List.map_append, List.append_assoc]; rfl
        | false =>
          rw [if_neg (by simp), if_neg (by simp)]
          cases st with
          | none =>
            show (Go.Lib.closeSpans _ (Go.Lib.spansFromP spB _ f (pos + 1) (some pos) acc)).map _ = _
            rw [ih _ _ _ (by omega) (by omega) (fun a h => by cases h; omega)]
            have : opn l (some pos) (pos + 1) = opn l none pos ++ [l[pos]] := by
              show (l.take (pos + 1)).drop pos = _
              rw [List.take_succ_eq_append_getElem h, List.drop_left' (by simp; omega)]; rfl
            rw [this]
          | some a =>
            have hlt := hst a rfl
            show (Go.Lib.closeSpans _ (Go.Lib.spansFromP spB _ f (pos + 1) (some a) acc)).map _ = _
            rw [ih _ _ _ (by omega) (by omega) (fun b h => by cases h; omega)]
            have : opn l (some a) (pos + 1) = opn l (some a) pos ++ [l[pos]] := by
              show (l.take (pos + 1)).drop a = (l.take pos).drop a ++ _
              rw [List.take_succ_eq_append_getElem h, List.drop_append_of_le_length (by simp; omega)]
            rw [this]
      · have hb : 128 ≤ (l[pos]).toNat := by omega
        have ⟨d1, d2⟩ := decode_high ⟨l.toArray⟩ pos (by rw [ba_size]; exact h) hb
        have ⟨c1, c2⟩ := cover l pos h hb
        generalize Utf8.decode ⟨l.toArray⟩ pos = x at d1 d2 c1 c2
        obtain ⟨r, n⟩ := x
        dsimp only at d1 d2 c1 c2
        rw [spB_high _ d1, if_neg (by simp)]
        have hrun : l.drop pos = (l.take (pos + n)).drop pos ++ l.drop (pos + n) := by
          rw [← List.drop_append_of_le_length (by simp; omega), List.take_append_drop]
        have hall : ∀ c ∈ (l.take (pos + n)).drop pos, spb c = false := fun c hc => by
          obtain ⟨k, hk, rfl⟩ := List.mem_iff_getElem.1 hc
          simp at hk
          have := c2 k (by omega)
          rw [gb_at (by omega)] at this
          rw [List.getElem_drop, List.getElem_take]
          exact spb_high _ this
        rw [hrun, wf_run _ _ _ hall]
        cases st with
        | none =>
          show (Go.Lib.closeSpans _ (Go.Lib.spansFromP spB _ f (pos + n) (some pos) acc)).map _ = _
          rw [ih _ _ _ (by omega) c1 (fun a h => by cases h; omega)]; rfl
        | some a =>
          have hlt := hst a rfl
          show (Go.Lib.closeSpans _ (Go.Lib.spansFromP spB _ f (pos + n) (some a) acc)).map _ = _
          rw [ih _ _ _ (by omega) c1 (fun b h => by cases h; omega)]
          have : opn l (some a) (pos + n) = opn l (some a) pos ++ (l.take (pos + n)).drop pos := by
            show (l.take (pos + n)).drop a = (l.take pos).drop a ++ _
            have : l.take (pos + n) = l.take pos ++ (l.take (pos + n)).drop pos := by
              conv => lhs; rw [← List.take_append_drop pos (l.take (pos + n))]
              rw [List.take_take, Nat.min_eq_left (by omega)]
            rw [this, List.drop_append_of_le_length (by simp; omega)]
            congr 2
          rw [this]
    · have : pos = l.length := by omega
      subst this
      rw [if_neg (by rw [ba_size]; exact h)]
      cases st with
      | none => simp [Go.Lib.closeSpans, opn, wf]
      | some a =>
        have := opn_ne (hst a rfl) hp
        simp only [Go.Lib.closeSpans, opn, ba_size, List.map_append, List.drop_length]
        rw [wf, if_neg this]; rfl
theorem fields_eq (s : Bs) : fieldsP spB s = wf [] s := by
  have := spans_wf s (⟨s.toArray⟩ : ByteArray).size 0 none [] (by rw [ba_size]; omega) (by omega) (fun a h => by cases h)
  unfold fieldsP Go.Lib.goFieldsP Go.Lib.spansOfP
  rw [List.map_map]
  have e : ((fun x : ByteArray => x.data.toList) ∘ fun x : Nat × Nat => (⟨s.toArray⟩ : ByteArray).extract x.1 x.2) = fun x => (s.take x.2).drop x.1 := by
    funext x; exact ext_eq s x.1 x.2
  rw [e, this]; rfl
theorem wf_total : ∀ (s cur : Bs), Str.total (wf cur s) + (wf cur s).length ≤ cur.length + s.length + 1
  | [], cur => by
    rw [wf]; split
    · simp [Str.total]
    · simp [Str.total]
  | c :: r, cur => by
    rw [wf]
    split
    · have := wf_total r []
      split
      · simp at this ⊢; omega
      · simp [Str.total] at this ⊢; omega
    · have := wf_total r (cur ++ [c])
      simp at this ⊢; omega
end Go.Hd
namespace Go.Hd
open Go.Pv Go.Av
def isCoded (w : Bs) : Bool := decide (12 ≤ w.length) && (decide (w.take 10 = ahead) && decide (w.drop (w.length - 2) = behind))
def mid (w : Bs) : Bs := (w.take (w.length - 2)).drop 10
noncomputable def cdB (w : Bs) : Bool := isCoded w && decide ((dec (mid w)).2 = 0)
noncomputable def cdT (w : Bs) : Bs := (dec (mid w)).1
theorem dec_len (s : Bs) : (dec s).1.length ≤ s.length := by
  by_cases h : ∃ b, enc b = s
  · obtain ⟨b, rfl⟩ := h
    rw [dec_enc]
    have := decP_len (enc b) b (decP_enc b)
    exact this
  · rw [dec_no h]; simp
theorem bql (a b : Bs) : decide (a = b) = (a == b) := by by_cases h : a = b <;> simp [h]
theorem hp_take {w p : Bs} : Go.Lib.hasPrefix w p = (decide (p.length ≤ w.length) && decide (w.take p.length = p)) := by
  rw [← Go.Lib.hasPrefix_of_take, bql]
theorem hs_drop {w p : Bs} : Go.Lib.hasSuffix w p = (decide (p.length ≤ w.length) && decide (w.drop (w.length - p.length) = p)) := by
  rw [← Go.Lib.hasSuffix_of_drop, bql]
theorem coded_eq (F : Nat) (w : Bs) (hw : w.length ≤ 300000) (hF : w.length + 100 < F) : ∃ d, head_coded F w = some (d, cdB w) ∧ (cdB w = true → d = cdT w) := by
  unfold head_coded
  rw [lt_eq]
  have hal : ([61, 63, 117, 116, 102, 45, 56, 63, 66, 63] : Bs).length = 10 := rfl
  have hbl : ([63, 61] : Bs).length = 2 := rfl
  cases hp : Go.Lib.hasPrefix w [61, 63, 117, 116, 102, 45, 56, 63, 66, 63] with
  | false =>
    refine ⟨[], ?_, ?_⟩
    · dsimp only
      rw [Bool.not_false, cond_true]
      have : cdB w = false := by
        rw [hp_take, hal] at hp
        unfold cdB isCoded
        by_cases h : 12 ≤ w.length
        · rw [decide_eq_true (show 10 ≤ w.length by omega), tand] at hp
          have h9 : decide (w.take 10 = ahead) = false := hp
          rw [h9]; simp
        · rw [decide_eq_false h]; rfl
      rw [this]
    · intro h
      exfalso
      rw [hp_take, hal] at hp
      unfold cdB isCoded at h
      simp only [Bool.and_eq_true, decide_eq_true_eq] at h
      rw [decide_eq_true (show 10 ≤ w.length by omega), tand] at hp
      exact absurd h.1.2.1 (of_decide_eq_false hp)
  | true =>
    have hp2 := hp
    rw [hp_take, hal] at hp2
    simp only [Bool.and_eq_true, decide_eq_true_eq] at hp2
    have ht : Go.Lib.trimPrefix w [61, 63, 117, 116, 102, 45, 56, 63, 66, 63] = w.drop 10 := by unfold Go.Lib.trimPrefix; rw [hp]; rfl
    dsimp only
    rw [Bool.not_true, cond_false, ht, grd_S (by simp; omega), lt_eq]
    have hts : (Go.Lib.trimSuffix (w.drop 10) [63, 61]).length ≤ w.length := by have := Go.Lib.trimSuffix_le (w.drop 10) [63, 61]; simp at this; omega
    dsimp only
    rw [Bytes_eq F _ (by omega) (by omega), show dec (Go.Lib.trimSuffix (w.drop 10) [63, 61]) = ((dec (Go.Lib.trimSuffix (w.drop 10) [63, 61])).1, (dec (Go.Lib.trimSuffix (w.drop 10) [63, 61])).2) from rfl, bnd2_some]
    have hsf : Go.Lib.hasSuffix (w.drop 10) [63, 61] = isCoded w := by
      rw [hs_drop, hbl]
      unfold isCoded
      have h1 : decide (w.take 10 = ahead) = true := decide_eq_true hp2.2
      rw [h1, tand]
      by_cases h : 12 ≤ w.length
      · have e : (w.drop 10).drop ((w.drop 10).length - 2) = w.drop (w.length - 2) := by
          rw [List.drop_drop]; congr 1; simp; omega
        rw [e, decide_eq_true h, decide_eq_true (show 2 ≤ (w.drop 10).length by simp; omega)]; rfl
      · rw [decide_eq_false h, decide_eq_false (show ¬ 2 ≤ (w.drop 10).length by simp; omega)]; rfl
    cases hc : isCoded w with
    | false =>
      refine ⟨(dec (Go.Lib.trimSuffix (w.drop 10) [63, 61])).1, ?_, ?_⟩
      · rw [hsf, hc, fand]
        have : cdB w = false := by unfold cdB; rw [hc, fand]
        rw [this]
      · intro h; unfold cdB at h; rw [hc] at h; cases h
    | true =>
      have hm : Go.Lib.trimSuffix (w.drop 10) [63, 61] = mid w := by
        unfold Go.Lib.trimSuffix mid
        rw [hsf, hc, if_pos rfl, hbl, List.drop_take]
        congr 1
        rw [List.length_drop]; omega
      refine ⟨(dec (Go.Lib.trimSuffix (w.drop 10) [63, 61])).1, ?_, fun _ => ?_⟩
      · rw [hsf, hc, tand]
        have : cdB w = decide ((dec (mid w)).2 = 0) := by unfold cdB; rw [hc, tand]
        rw [this, hm]
      · rw [hm]; rfl
noncomputable def catT (ws : List Bs) : Bs := ws.flatMap cdT
noncomputable def valueOf (ws : List Bs) : Bs := bif ws.all cdB then catT ws else Str.join [32] ws
theorem cdT_len (w : Bs) : (cdT w).length ≤ w.length := by
  have h1 := dec_len (mid w)
  have h2 : (mid w).length ≤ w.length := by unfold mid; simp; omega
  unfold cdT; omega
theorem catT_cons (w : Bs) (ws : List Bs) : catT (w :: ws) = cdT w ++ catT ws := by unfold catT; rw [List.flatMap_cons]
theorem catT_len : ∀ ws : List Bs, (catT ws).length ≤ Str.total ws
  | [] => by simp [catT, Str.total]
  | w :: ws => by
    have := catT_len ws
    have := cdT_len w
    simp [catT, Str.total] at *; omega
theorem valueOf_len (ws : List Bs) : (valueOf ws).length ≤ ws.length + Str.total ws := by
  unfold valueOf
  cases ws.all cdB with
  | true => have := catT_len ws; rw [ctr]; omega
  | false => have := Str.join_length [32] ws; rw [cfl]; simpa using this
theorem value_loop (F : Nat) (ws : List Bs) (hF : 400100 < F) (hl : ws.length + Str.total ws ≤ 300000) : ∀ (n i : Nat) (out : Bs), ws.length - i < n → i ≤ ws.length → out.length + Str.total (ws.drop i) ≤ 300000 →
    head_value_L1 F ws n ((i : Int), out) = some (bif (ws.drop i).all cdB then out ++ catT (ws.drop i) else Str.join [32] ws) := by
  intro n
  induction n with
  | zero => intro i out h; omega
  | succ n ih =>
    intro i out hn hi ho
    show head_value_B1 F ws (head_value_L1 F ws n) (i : Int) out = _
    unfold head_value_B1 head_value_j1
    by_cases h : i < ws.length
    · have hd : ws.drop i = ws[i] :: ws.drop (i + 1) := List.drop_eq_getElem_cons h
      have ht := Str.total_drop ws i h
      obtain ⟨d, c1, c2⟩ := coded_eq F ws[i] (by omega) (by omega)
      rw [bT (by omega), grd_At (by omega), lt_eq, at_nat h, c1, bnd2_some, hd, List.all_cons]
      cases hc : cdB ws[i] with
      | false => rw [nfl, ctr, grd_Join (by simp; omega), lt_eq, fand, cfl]
      | true =>
        have hdl := cdT_len ws[i]
        rw [ntr, cfl, tand, c2 hc, grd_W (by omega), lt_eq, grd_I (by omega), cast_succ, ih (i + 1) _ (by omega) (by omega) (by simp; omega)]
        rw [catT_cons, List.append_assoc]
    · have hd : ws.drop i = [] := List.drop_eq_nil_of_le (by omega)
      rw [bF (by omega), grd_W (by simp; omega), hd]
      simp [catT]
theorem value_eq (F : Nat) (ws : List Bs) (hF : 400100 < F) (hl : ws.length + Str.total ws ≤ 300000) : head_value F ws = some (valueOf ws) := by
  have := value_loop F ws hF hl F 0 [] (by omega) (by omega) (by simp; omega)
  rw [List.drop_zero, List.nil_append] at this
  exact this
end Go.Hd
namespace Go.Av.Qp
def dg (n : Nat) : UInt8 := [48, 49, 50, 51, 52, 53, 54, 55, 56, 57, 65, 66, 67, 68, 69, 70].getD n 0
def plainB (c : UInt8) (r : List UInt8) : Bool :=
  if c.toNat = 32 ∨ c.toNat = 9 then (match r with | [] => false | d :: _ => decide (d.toNat ≠ 10)) else decide (33 ≤ c.toNat ∧ c.toNat ≤ 126 ∧ c.toNat ≠ 61)
theorem plainB_nil (c : UInt8) : plainB c [] = decide (c.toNat ≠ 32 ∧ c.toNat ≠ 9 ∧ 33 ≤ c.toNat ∧ c.toNat ≤ 126 ∧ c.toNat ≠ 61) := by
  unfold plainB; split
  · rename_i h; rw [eq_comm, decide_eq_false_iff_not]; omega
  · rename_i h; rw [decide_eq_decide]; omega
theorem plainB_cons (c d : UInt8) (r : List UInt8) : plainB c (d :: r) = decide (((c.toNat = 32 ∨ c.toNat = 9) ∧ d.toNat ≠ 10) ∨ (c.toNat ≠ 32 ∧ c.toNat ≠ 9 ∧ 33 ≤ c.toNat ∧ c.toNat ≤ 126 ∧ c.toNat ≠ 61)) := by
  unfold plainB; split
  · rename_i h; simp only; rw [decide_eq_decide]; omega
  · rename_i h; rw [decide_eq_decide]; omega
def code (c : UInt8) (r : List UInt8) : List UInt8 := if plainB c r then [c] else [61, dg (c.toNat / 16), dg (c.toNat % 16)]
def put (line : Nat) (s : List UInt8) : List UInt8 × Nat := if line + s.length > 75 then ([61, 13, 10] ++ s, s.length) else (s, line + s.length)
def enc : Nat → List UInt8 → List UInt8
  | _, [] => []
  | n, c :: r => if c.toNat = 10 then [13, 10] ++ enc 0 r else (put n (code c r)).1 ++ enc (put n (code c r)).2 r
def dig (c : UInt8) : Option Nat :=
  if 48 ≤ c.toNat ∧ c.toNat ≤ 57 then some (c.toNat - 48) else if 65 ≤ c.toNat ∧ c.toNat ≤ 70 then some (c.toNat - 55) else if 97 ≤ c.toNat ∧ c.toNat ≤ 102 then some (c.toNat - 87) else none
def tok : List UInt8 → Option (List UInt8 × Nat)
  | [] => none
  | c :: r =>
    if c.toNat = 13 ∧ (r.map UInt8.toNat).head? = some 10 then some ([10], 2)
    else if c.toNat = 61 then
      (match r with
       | a :: b :: _ => if a.toNat = 13 ∧ b.toNat = 10 then some ([], 3) else (match dig a, dig b with | some x, some y => some ([UInt8.ofNat (16 * x + y)], 3) | _, _ => none)
       | _ => none)
    else if c.toNat = 9 ∨ (32 ≤ c.toNat ∧ c.toNat ≤ 126) then some ([c], 1) else none
def dec : Nat → List UInt8 → Option (List UInt8)
  | _, [] => some []
  | 0, _ :: _ => none
  | k + 1, b => match tok b with
    | none => none
    | some (x, n) => (dec k (b.drop n)).map (x ++ ·)
theorem code_length (c : UInt8) (r : List UInt8) : (code c r).length ≤ 3 := by unfold code; split <;> simp
theorem put_bounds (n : Nat) (s : List UInt8) (hn : n ≤ 75) (hs : s.length ≤ 3) : (put n s).2 ≤ 75 ∧ (put n s).1.length ≤ 6 := by
  unfold put; split
  · simp; omega
  · simp; omega
theorem enc_step (n : Nat) (b : List UInt8) (i : Nat) (h : i < b.length) : enc n (b.drop i) =
    if b[i].toNat = 10 then [13, 10] ++ enc 0 (b.drop (i + 1)) else (put n (code b[i] (b.drop (i + 1)))).1 ++ enc (put n (code b[i] (b.drop (i + 1)))).2 (b.drop (i + 1)) := by
  rw [List.drop_eq_getElem_cons h, enc]
theorem tok_pos {b x : List UInt8} {n : Nat} (h : tok b = some (x, n)) : 1 ≤ n ∧ n ≤ b.length ∧ x.length ≤ 1 := by
  unfold tok at h
  cases b with
  | nil => cases h
  | cons c r =>
    simp only at h
    split at h
    · rename_i h1
      cases h
      have : r ≠ [] := by intro e; subst e; simp at h1
      have := List.length_pos_iff.2 this
      simp; omega
    · split at h
      · split at h
        · rename_i a b' r'
          split at h
          · cases h; simp
          · split at h
            · cases h; simp
            · cases h
        · cases h
      · split at h
        · cases h; simp
        · cases h
def decode (b : List UInt8) : Option (List UInt8) := dec b.length b
theorem dec_more : ∀ (k : Nat) (b : List UInt8), b.length ≤ k → dec k b = dec b.length b := by
  intro k
  induction k using Nat.strongRecOn with
  | _ k ih =>
    intro b hb
    cases b with
    | nil => cases k <;> rfl
    | cons c r =>
      obtain ⟨k, rfl⟩ : ∃ m, k = m + 1 := ⟨k - 1, by simp at hb; omega⟩
      simp only [dec, List.length_cons]
      cases ht : tok (c :: r) with
      | none => rfl
      | some p =>
        obtain ⟨x, n⟩ := p
        obtain ⟨h1, h2, _⟩ := tok_pos ht
        simp only
        simp at hb h2
        have hl : ((c :: r).drop n).length ≤ r.length := by simp; omega
        rw [ih k (by omega) _ (by omega)]
        by_cases hk : r.length < k + 1
        · rw [ih r.length hk _ hl]
        · omega
theorem decode_nil : decode [] = some [] := rfl
theorem decode_step {b : List UInt8} (hb : b ≠ []) : decode b = match tok b with
    | none => none
    | some (x, n) => (decode (b.drop n)).map (x ++ ·) := by
  cases b with
  | nil => exact absurd rfl hb
  | cons c r =>
    unfold decode
    simp only [List.length_cons, dec]
    cases ht : tok (c :: r) with
    | none => rfl
    | some p =>
      obtain ⟨x, n⟩ := p
      obtain ⟨h1, h2, _⟩ := tok_pos ht
      simp only
      simp at h2
      rw [dec_more r.length _ (by simp; omega)]
theorem nat10 {c : UInt8} : c = 10 ↔ c.toNat = 10 := ⟨fun h => by rw [h]; rfl, fun h => UInt8.toNat_inj.1 h⟩
theorem nat13 {c : UInt8} : c = 13 ↔ c.toNat = 13 := ⟨fun h => by rw [h]; rfl, fun h => UInt8.toNat_inj.1 h⟩
theorem nat61 {c : UInt8} : c = 61 ↔ c.toNat = 61 := ⟨fun h => by rw [h]; rfl, fun h => UInt8.toNat_inj.1 h⟩
theorem tok_crlf {r : List UInt8} (h : (decide ([13, 10].length ≤ r.length) && decide (List.take [13, 10].length r = [13, 10])) = true) : tok r = some ([10], 2) := by
  match r with
  | [] => simp at h
  | [a] => simp at h
  | a :: b :: s =>
    simp at h
    obtain ⟨rfl, rfl⟩ := h
    rfl
theorem tok_soft {r : List UInt8} (h : (decide ([61, 13, 10].length ≤ r.length) && decide (List.take [61, 13, 10].length r = [61, 13, 10])) = true) : tok r = some ([], 3) := by
  match r with
  | [] => simp at h
  | [a] => simp at h
  | [a, b] => simp at h
  | a :: b :: c :: s =>
    simp at h
    obtain ⟨rfl, rfl, rfl⟩ := h
    rfl
theorem tok_hex {r : List UInt8} (h0 : 0 < r.length) (h1 : 1 < r.length) (h2 : 2 < r.length) (h3 : (decide ([61, 13, 10].length ≤ r.length) && decide (List.take [61, 13, 10].length r = [61, 13, 10])) = false) (h5 : r[0].toNat = 61)
    (h : ((dig r[1]).isSome && (dig r[2]).isSome) = true) : tok r = some ([UInt8.ofNat (16 * (dig r[1]).getD 0 + (dig r[2]).getD 0)], 3) := by
  match r with
  | [] => simp at h0
  | [a] => simp at h1
  | [a, b] => simp at h2
  | a :: b :: c :: s =>
    simp only [List.getElem_cons_zero, List.getElem_cons_succ] at h h5 ⊢
    simp [nat13, nat10, nat61] at h3
    have h6 : ¬(b.toNat = 13 ∧ c.toNat = 10) := fun e => h3 h5 e.1 e.2
    cases hb : dig b with
    | none => rw [hb] at h; simp at h
    | some x =>
      cases hc : dig c with
      | none => rw [hc] at h; simp at h
      | some y => simp only [tok]; rw [if_neg (by omega), if_pos h5, if_neg h6, hb, hc]; rfl
theorem tok_nohex {r : List UInt8} (h0 : 0 < r.length) (h1 : 1 < r.length) (h2 : 2 < r.length) (h3 : (decide ([61, 13, 10].length ≤ r.length) && decide (List.take [61, 13, 10].length r = [61, 13, 10])) = false) (h5 : r[0].toNat = 61)
    (h : ((dig r[1]).isSome && (dig r[2]).isSome) = false) : tok r = none := by
  match r with
  | [] => simp at h0
  | [a] => simp at h1
  | [a, b] => simp at h2
  | a :: b :: c :: s =>
    simp only [List.getElem_cons_zero, List.getElem_cons_succ] at h h5 ⊢
    simp [nat13, nat10, nat61] at h3
    have h6 : ¬(b.toNat = 13 ∧ c.toNat = 10) := fun e => h3 h5 e.1 e.2
    simp only [tok]; rw [if_neg (by omega), if_pos h5, if_neg h6]
    cases hb : dig b with
    | none => rfl
    | some x =>
      cases hc : dig c with
      | none => rfl
      | some y => rw [hb, hc] at h; simp at h
theorem tok_plain {r : List UInt8} (h0 : 0 < r.length) (h11 : r[0].toNat ≠ 61 ∧ (r[0].toNat = 9 ∨ 32 ≤ r[0].toNat ∧ r[0].toNat ≤ 126)) : tok r = some ([r[0]], 1) := by
  match r with
  | [] => simp at h0
  | a :: s =>
    simp only [List.getElem_cons_zero] at h11 ⊢
    simp only [tok]; rw [if_neg (by omega), if_neg h11.1, if_pos h11.2]
theorem tok_other {r : List UInt8} (h0 : 0 < r.length) (h2 : (decide ([13, 10].length ≤ r.length) && decide (List.take [13, 10].length r = [13, 10])) = false) (h5 : ¬(r[0].toNat = 61 ∧ 2 < r.length))
    (h11 : ¬(r[0].toNat ≠ 61 ∧ (r[0].toNat = 9 ∨ 32 ≤ r[0].toNat ∧ r[0].toNat ≤ 126))) : tok r = none := by
  match r with
  | [] => simp at h0
  | a :: s =>
    simp only [List.getElem_cons_zero] at h11 h5
    have h6 : ¬(a.toNat = 13 ∧ (s.map UInt8.toNat).head? = some 10) := by
      rintro ⟨e1, e2⟩
      cases s with
      | nil => simp at e2
      | cons b s => simp at e2; simp [nat13, nat10] at h2; exact h2 e1 e2
    simp only [tok]; rw [if_neg h6]
    by_cases h7 : a.toNat = 61
    · rw [if_pos h7]
      match s with
      | [] => rfl
      | [b] => rfl
      | b :: c :: s => simp [h7] at h5
    · rw [if_neg h7, if_neg (fun h => h11 ⟨h7, h⟩)]
theorem decode_some {b x : List UInt8} {n : Nat} (h0 : 0 < b.length) (h : tok b = some (x, n)) : decode b = (decode (b.drop n)).map (x ++ ·) := by
  rw [decode_step (by intro e; subst e; simp at h0), h]
theorem decode_none {b : List UInt8} (h0 : 0 < b.length) (h : tok b = none) : decode b = none := by
  rw [decode_step (by intro e; subst e; simp at h0), h]
theorem put_long (n : Nat) (s : List UInt8) (h : 75 < n + s.length) : put n s = ([61, 13, 10] ++ s, s.length) := if_pos h
theorem put_short (n : Nat) (s : List UInt8) (h : ¬ 75 < n + s.length) : put n s = (s, n + s.length) := if_neg h
end Go.Av.Qp
namespace Go.Av.Qp
theorem soft_ahead (b : List UInt8) : decode ([61, 13, 10] ++ b) = decode b := by
  rw [decode_some (x := []) (n := 3) (by simp) (by rfl)]
  simp
theorem dig_dg : ∀ n : Nat, n < 16 → dig (dg n) = some n ∧ (dg n).toNat ≠ 13 ∧ (dg n).toNat ≠ 10 ∧ 48 ≤ (dg n).toNat ∧ (dg n).toNat ≤ 70 := by decide +kernel
theorem dg_byte : ∀ n : Nat, n < 256 → UInt8.ofNat (16 * (n / 16) + n % 16) = UInt8.ofNat n := by decide +kernel
theorem code_cases (c : UInt8) (r : List UInt8) : (plainB c r = true ∧ code c r = [c] ∧ c.toNat ≠ 61 ∧ c.toNat ≠ 13 ∧ c.toNat ≠ 10 ∧ (c.toNat = 9 ∨ (32 ≤ c.toNat ∧ c.toNat ≤ 126))) ∨ code c r = [61, dg (c.toNat / 16), dg (c.toNat % 16)] := by
  unfold code
  by_cases h : plainB c r = true
  · left
    rw [if_pos h]
    refine ⟨h, rfl, ?_⟩
    cases r with
    | nil => rw [plainB_nil] at h; simp at h; omega
    | cons d r => rw [plainB_cons] at h; simp at h; omega
  · right; rw [if_neg h]
theorem back_code (c : UInt8) (r x : List UInt8) : decode (code c r ++ x) = (decode x).map ([c] ++ ·) := by
  rcases code_cases c r with ⟨_, h, h1, h2, h3, h4⟩ | h
  · rw [h, decode_some (x := [c]) (n := 1) (by simp) (by simp only [List.cons_append, tok]; rw [if_neg (by omega), if_neg h1, if_pos h4])]
    rfl
  · rw [h]
    have a1 := dig_dg (c.toNat / 16) (by have := c.toNat_lt; omega)
    have a2 := dig_dg (c.toNat % 16) (by omega)
    have ht : tok ([61, dg (c.toNat / 16), dg (c.toNat % 16)] ++ x) = some ([c], 3) := by
      simp only [List.cons_append, tok]
      have e : (61 : UInt8).toNat = 61 := rfl
      rw [if_neg (by rw [e]; omega), if_pos e, if_neg (by omega), a1.1, a2.1]
      simp only
      rw [dg_byte _ c.toNat_lt, UInt8.ofNat_toNat]
    rw [decode_some (by simp) ht]
    rfl
theorem back : ∀ (b : List UInt8) (n : Nat), decode (enc n b) = some b := by
  intro b
  induction b with
  | nil => intro n; rfl
  | cons c r ih =>
    intro n
    unfold enc
    by_cases h : c.toNat = 10
    · rw [if_pos h, decode_some (x := [10]) (n := 2) (by simp) (by rfl)]
      show (decode (enc 0 r)).map ([10] ++ ·) = _; rw [ih]
      have : c = 10 := nat10.2 h
      rw [this]; rfl
    · rw [if_neg h]
      unfold put
      split
      · simp only [List.append_assoc]
        rw [soft_ahead, back_code, ih]; rfl
      · simp only
        rw [back_code, ih]; rfl
theorem enc_length : ∀ (b : List UInt8) (n : Nat), (enc n b).length ≤ 6 * b.length := by
  intro b
  induction b with
  | nil => intro n; simp [enc]
  | cons c r ih =>
    intro n
    have hl := code_length c r
    have h1 := ih 0
    unfold enc put
    split
    · simp; omega
    · split
      · have := ih (code c r).length; simp; omega
      · have := ih (n + (code c r).length); simp; omega
theorem decode_length : ∀ (k : Nat) (b x : List UInt8), b.length ≤ k → decode b = some x → x.length ≤ b.length := by
  intro k
  induction k with
  | zero =>
    intro b x hb h
    have : b = [] := List.length_eq_zero_iff.1 (by omega)
    subst this
    rw [decode_nil] at h; cases h; simp
  | succ k ih =>
    intro b x hb h
    by_cases h0 : 0 < b.length
    · cases ht : tok b with
      | none => rw [decode_none h0 ht] at h; cases h
      | some p =>
        obtain ⟨y, n⟩ := p
        rw [decode_some h0 ht] at h
        obtain ⟨h1, h2, h3⟩ := tok_pos ht
        cases hd : decode (b.drop n) with
        | none => rw [hd] at h; cases h
        | some z =>
          rw [hd] at h; cases h
          have := ih (b.drop n) z (by simp; omega) hd
          simp at this ⊢; omega
    · have : b = [] := List.length_eq_zero_iff.1 (by omega)
      subst this
      rw [decode_nil] at h; cases h; simp
theorem decode_len (b : List UInt8) : ((decode b).getD []).length ≤ b.length := by
  cases h : decode b with
  | none => simp
  | some x => exact decode_length _ b x (Nat.le_refl _) h
end Go.Av.Qp
namespace Go.Pt
open Go.Pv Go.Av
open Go.Hd (fand tand nfl ntr cfl ctr bq of_all8 Bs hp_take)
theorem fo (x : Bool) : (false || x) = x := Eq.symm (Eq.symm rfl)
theorem pl_nil (c : UInt8) (x : Bool) : ((((((decide (c = 32)) || (decide (c = 9))) && false)) && x) || (((decide (32 < (c.toNat : Int))) && (decide ((c.toNat : Int) < 127))) && (!decide (c = 61)))) = Qp.plainB c [] := by
  have := of_all8 (fun c => (((((((decide (c = 32)) || (decide (c = 9))) && false)) && true) || (((decide (32 < (c.toNat : Int))) && (decide ((c.toNat : Int) < 127))) && (!decide (c = 61)))) == Qp.plainB c []) && ((((((decide (c = 32)) || (decide (c = 9))) && false)) && false) || (((decide (32 < (c.toNat : Int))) && (decide ((c.toNat : Int) < 127))) && (!decide (c = 61)))) == Qp.plainB c []) (by decide +kernel) c
  rw [Bool.and_eq_true, beq_iff_eq, beq_iff_eq] at this
  cases x
  · exact this.2
  · exact this.1
theorem pl_ten (c : UInt8) : ((((((decide (c = 32)) || (decide (c = 9))) && true)) && false) || (((decide (32 < (c.toNat : Int))) && (decide ((c.toNat : Int) < 127))) && (!decide (c = 61)))) = Qp.plainB c [10] := by
  have := of_all8 (fun c => ((((((decide (c = 32)) || (decide (c = 9))) && true)) && false) || (((decide (32 < (c.toNat : Int))) && (decide ((c.toNat : Int) < 127))) && (!decide (c = 61)))) == Qp.plainB c [10]) (by decide +kernel) c
  exact eq_of_beq this
theorem pl_one (c : UInt8) : ((((((decide (c = 32)) || (decide (c = 9))) && true)) && true) || (((decide (32 < (c.toNat : Int))) && (decide ((c.toNat : Int) < 127))) && (!decide (c = 61)))) = Qp.plainB c [0] := by
  have := of_all8 (fun c => ((((((decide (c = 32)) || (decide (c = 9))) && true)) && true) || (((decide (32 < (c.toNat : Int))) && (decide ((c.toNat : Int) < 127))) && (!decide (c = 61)))) == Qp.plainB c [0]) (by decide +kernel) c
  exact eq_of_beq this
theorem pl_same (c d e : UInt8) (r s : Bs) (h : (d.toNat ≠ 10) ↔ (e.toNat ≠ 10)) : Qp.plainB c (d :: r) = Qp.plainB c (e :: s) := by
  rw [Qp.plainB_cons, Qp.plainB_cons]
  exact decide_eq_decide.2 (by rw [h])
theorem hexA (c : UInt8) : okAt ((Go.Av.shr8 c 4).toNat : Int) ([48, 49, 50, 51, 52, 53, 54, 55, 56, 57, 65, 66, 67, 68, 69, 70] : Bs).length = true ∧ at_ ([48, 49, 50, 51, 52, 53, 54, 55, 56, 57, 65, 66, 67, 68, 69, 70] : Bs) ((Go.Av.shr8 c 4).toNat : Int) = Qp.dg (c.toNat / 16) := by
  have := of_all8 (fun c => decide (okAt ((Go.Av.shr8 c 4).toNat : Int) ([48, 49, 50, 51, 52, 53, 54, 55, 56, 57, 65, 66, 67, 68, 69, 70] : Bs).length = true ∧ at_ ([48, 49, 50, 51, 52, 53, 54, 55, 56, 57, 65, 66, 67, 68, 69, 70] : Bs) ((Go.Av.shr8 c 4).toNat : Int) = Qp.dg (c.toNat / 16))) (by decide +kernel) c
  exact of_decide_eq_true this
theorem hexB (c : UInt8) : okAt ((c &&& 15).toNat : Int) ([48, 49, 50, 51, 52, 53, 54, 55, 56, 57, 65, 66, 67, 68, 69, 70] : Bs).length = true ∧ at_ ([48, 49, 50, 51, 52, 53, 54, 55, 56, 57, 65, 66, 67, 68, 69, 70] : Bs) ((c &&& 15).toNat : Int) = Qp.dg (c.toNat % 16) := by
  have := of_all8 (fun c => decide (okAt ((c &&& 15).toNat : Int) ([48, 49, 50, 51, 52, 53, 54, 55, 56, 57, 65, 66, 67, 68, 69, 70] : Bs).length = true ∧ at_ ([48, 49, 50, 51, 52, 53, 54, 55, 56, 57, 65, 66, 67, 68, 69, 70] : Bs) ((c &&& 15).toNat : Int) = Qp.dg (c.toNat % 16))) (by decide +kernel) c
  exact of_decide_eq_true this
theorem code_eq (F : Nat) (c : UInt8) (r : Bs) : qp_code F c r = some (Qp.code c r) := by
  unfold qp_code
  have ⟨a1, a2⟩ := hexA c
  have ⟨b1, b2⟩ := hexB c
  simp only [a1, a2, b1, b2, grd_t, lt_eq]
  have fin : ∀ b : Bool, b = Qp.plainB c r → (bif b then some ([c] : Bs) else some ([61, Qp.dg (c.toNat / 16), Qp.dg (c.toNat % 16)] : Bs)) = some (Qp.code c r) := by
    intro b hb
    subst hb
    unfold Qp.code
    cases Qp.plainB c r <;> rfl
  cases r with
  | nil =>
    have h0 : decide ((0 : Int) < (([] : Bs).length : Int)) = false := rfl
    rw [h0, Bool.and_false, grdc_f]
    apply fin
    have := pl_nil c (!decide (at_ ([] : Bs) 0 = 10))
    rw [Bool.and_false] at this
    exact this
  | cons d t =>
    have h0 : decide ((0 : Int) < ((d :: t).length : Int)) = true := decide_eq_true (by simp)
    have hA : ∀ (b : Bool) (k : Option Bs), grdc b (okAt 0 (d :: t).length) k = k := fun b k => by
      rw [show okAt 0 (d :: t).length = true from decide_eq_true (by simp)]; cases b <;> rfl
    have h1 : at_ (d :: t) 0 = d := rfl
    rw [h0, hA, h1]
    apply fin
    by_cases hd : d = 10
    · subst hd
      have := pl_ten c
      rw [pl_same c 10 10 t [] Iff.rfl, ← this]; rfl
    · have hd2 : d.toNat ≠ 10 := fun h => hd (UInt8.toNat_inj.1 h)
      have := pl_one c
      rw [pl_same c d 0 t [] ⟨fun _ => by decide, fun _ => hd2⟩, ← this, decide_eq_false hd]; rfl
theorem put_eq (F : Nat) (o s : Bs) (n : Nat) (hn : n ≤ 75) (hs : s.length ≤ 3) (ho : o.length ≤ 10000000000) : qp_put F o (n : Int) s = some (o ++ (Qp.put n s).1, ((Qp.put n s).2 : Int)) := by
  unfold qp_put qp_put_j1
  by_cases h : 75 < n + s.length
  · rw [Qp.put_long n s h, grd_I (by omega), bT (by omega), grd_Cat (by simp; omega), lt_eq, grd_Cat (by simp; omega), lt_eq, grd_I (by omega)]
    simp
  · rw [Qp.put_short n s h, grd_I (by omega), bF (by omega), grd_Cat (by omega), lt_eq, grd_I (by omega)]
    simp
theorem enc_loop (F : Nat) (b : Bs) (hb : b.length ≤ 1000000) : ∀ (m i : Nat) (o : Bs) (n : Nat), b.length - i < m → i ≤ b.length → n ≤ 75 → o.length ≤ 6 * i →
    qp_Encode_L1 F b m ((i : Int), o, (n : Int)) = some (o ++ Qp.enc n (b.drop i)) := by
  intro m
  induction m with
  | zero => intro i o n h; omega
  | succ m ih =>
    intro i o n hm hi hn ho
    show qp_Encode_B1 F b (qp_Encode_L1 F b m) (i : Int) o (n : Int) = _
    unfold qp_Encode_B1 qp_Encode_j2 qp_Encode_j1
    by_cases h : i < b.length
    · rw [bT (by omega), grd_At (by omega), lt_eq, at_nat h, Qp.enc_step n b i h]
      by_cases hc : b[i] = 10
      · rw [bT hc, if_pos (by rw [hc]; rfl), grd_Cat (by simp; omega), lt_eq, grd_I (by omega), cast_succ, show (0 : Int) = ((0 : Nat) : Int) from rfl, ih (i + 1) _ 0 (by omega) (by omega) (by omega) (by simp; omega), List.append_assoc]
      · have hc2 : ¬ b[i].toNat = 10 := fun h => hc (UInt8.toNat_inj.1 h)
        have hcl := Qp.code_length b[i] (b.drop (i + 1))
        have hpb := Qp.put_bounds n (Qp.code b[i] (b.drop (i + 1))) hn hcl
        rw [bF hc, if_neg hc2, grd_I (by omega), grd_To (by omega), lt_eq, cast_succ, from_nat, code_eq, bnd_some, put_eq F o _ n hn hcl (by omega), bnd2_some, grd_I (by omega), ih (i + 1) _ _ (by omega) (by omega) hpb.1 (by simp; omega), List.append_assoc]
    · rw [bF (by omega), List.drop_eq_nil_of_le (by omega)]
      simp [Qp.enc]
theorem Encode_eq (F : Nat) (b : Bs) (hb : b.length ≤ 1000000) (hF : b.length < F) : qp_Encode F b = some (Qp.enc 0 b) := by
  have := enc_loop F b hb F 0 [] 0 (by omega) (by omega) (by omega) (by simp)
  rw [List.drop_zero, List.nil_append] at this
  exact this
def qd (c : UInt8) : UInt8 × Bool := match Qp.dig c with
  | some k => (UInt8.ofNat k, true)
  | none => (0, false)
theorem digit_eq (F : Nat) (c : UInt8) : qp_digit F c = some (qd c) := by
  have := of_all8 (fun c => decide (qp_digit 0 c = some (qd c))) (by decide +kernel) c
  exact of_decide_eq_true this
theorem dig_lt (c : UInt8) : (Qp.dig c).getD 0 < 16 := by
  have := of_all8 (fun c => decide ((Qp.dig c).getD 0 < 16)) (by decide +kernel) c
  exact of_decide_eq_true this
theorem hexv (x y : Nat) (hx : x < 16) (hy : y < 16) : (Go.Av.shl8 (UInt8.ofNat x) 4 ||| UInt8.ofNat y) = UInt8.ofNat (16 * x + y) := by
  have : ∀ (a b : Fin 16), (Go.Av.shl8 (UInt8.ofNat a.val) 4 ||| UInt8.ofNat b.val) = UInt8.ofNat (16 * a.val + b.val) := by decide +kernel
  exact this ⟨x, hx⟩ ⟨y, hy⟩
def dres (o : Bs) (r : Option Bs) : Bs × Int := match r with
  | some d => (o ++ d, 0)
  | none => ([], 2)
theorem dres_map (o x : Bs) (r : Option Bs) : dres o (r.map (x ++ ·)) = dres (o ++ x) r := by
  cases r with
  | none => rfl
  | some d => simp [dres]
theorem dec_loop (F : Nat) : ∀ (m : Nat) (r o : Bs), r.length < m → o.length + r.length ≤ 10000000 → qp_Decode_L1 F m (r, o) = some (dres o (Qp.decode r)) := by
  intro m
  induction m with
  | zero => intro r o h; omega
  | succ m ih =>
    intro r o hm ho
    show qp_Decode_B1 F (qp_Decode_L1 F m) r o = _
    unfold qp_Decode_B1
    by_cases h : 0 < r.length
    · have go : ∀ (x : Bs) (n : Nat), Qp.tok r = some (x, n) → qp_Decode_j2 r (qp_Decode_L1 F m) (o ++ x) (n : Int) = some (dres o (Qp.decode r)) := by
        intro x n ht
        have hp := Qp.tok_pos ht
        unfold qp_Decode_j2
        rw [grd_To (by omega), lt_eq, from_nat, ih _ _ (by simp; omega) (by simp; omega), Qp.decode_some h ht, dres_map]
      have no : Qp.tok r = none → some (([] : Bs), (2 : Int)) = some (dres o (Qp.decode r)) := by
        intro ht; rw [Qp.decode_none h ht]; rfl
      have h0 : at_ r 0 = r[0] := at_nat (i := 0) h
      rw [bT (by omega), grd_At (by omega), lt_eq, lt_eq, h0]
      cases hc : Go.Lib.hasPrefix r [13, 10] with
      | true =>
        rw [hp_take] at hc
        rw [ctr, grd_Cat (by simp; omega), lt_eq]
        exact go [10] 2 (Qp.tok_crlf hc)
      | false =>
        rw [cfl, lt_eq]
        rw [hp_take] at hc
        cases hs : Go.Lib.hasPrefix r [61, 13, 10] with
        | true =>
          rw [hp_take] at hs
          have := go [] 3 (Qp.tok_soft hs)
          rw [List.append_nil] at this
          rw [ctr]
          exact this
        | false =>
          rw [hp_take] at hs
          rw [cfl]
          by_cases h61 : r[0] = 61 ∧ 2 < r.length
          · have e61 : r[0].toNat = 61 := by rw [h61.1]; rfl
            have h1 : at_ r 1 = r[1] := at_nat (i := 1) (by omega)
            have h2 : at_ r 2 = r[2] := at_nat (i := 2) (by omega)
            rw [decide_eq_true h61.1, decide_eq_true (show 2 < (r.length : Int) by omega), tand, ctr, grd_At (by omega), lt_eq, h1, digit_eq, show qd r[1] = ((qd r[1]).1, (qd r[1]).2) from rfl, bnd2_some, grd_At (by omega), lt_eq, h2, digit_eq, show qd r[2] = ((qd r[2]).1, (qd r[2]).2) from rfl, bnd2_some]
            have hx := dig_lt r[1]
            have hy := dig_lt r[2]
            cases d1 : Qp.dig r[1] with
            | none =>
              have q1 : (qd r[1]).2 = false := by unfold qd; rw [d1]
              rw [q1, nfl, Bool.true_or, ctr]
              refine no (Qp.tok_nohex h (by omega) h61.2 hs e61 (by rw [d1]; rfl))
            | some a =>
              have q1 : qd r[1] = (UInt8.ofNat a, true) := by unfold qd; rw [d1]
              cases d2 : Qp.dig r[2] with
              | none =>
                have q2 : (qd r[2]).2 = false := by unfold qd; rw [d2]
                rw [q2, nfl, Bool.or_true, ctr]
                refine no (Qp.tok_nohex h (by omega) h61.2 hs e61 (by rw [d1, d2]; rfl))
              | some b =>
                have q2 : qd r[2] = (UInt8.ofNat b, true) := by unfold qd; rw [d2]
                rw [d1] at hx
                rw [d2] at hy
                have ht := Qp.tok_hex h (by omega) h61.2 hs e61 (by rw [d1, d2]; rfl)
                rw [d1, d2] at ht
                rw [q1, q2]
                dsimp only
                rw [ntr, fo, cfl, grd_Cat (by simp; omega), lt_eq, hexv a b hx hy]
                exact go _ 3 ht
          · have e : ((decide (r[0] = 61)) && (decide (2 < (r.length : Int)))) = false := by
              rw [← Bool.decide_and]; exact decide_eq_false (fun h => h61 ⟨h.1, by omega⟩)
            have hcond : ((!decide (r[0] = 61)) && (((decide ((32 : Int) ≤ (r[0].toNat : Int))) && (decide ((r[0].toNat : Int) < (127 : Int)))) || (decide (r[0] = 9)))) = decide (r[0].toNat ≠ 61 ∧ (r[0].toNat = 9 ∨ 32 ≤ r[0].toNat ∧ r[0].toNat ≤ 126)) := by
              have := of_all8 (fun c => ((!decide (c = 61)) && (((decide ((32 : Int) ≤ (c.toNat : Int))) && (decide ((c.toNat : Int) < (127 : Int)))) || (decide (c = 9)))) == decide (c.toNat ≠ 61 ∧ (c.toNat = 9 ∨ 32 ≤ c.toNat ∧ c.toNat ≤ 126))) (by decide +kernel) r[0]
              exact eq_of_beq this
            rw [e, cfl, hcond]
            by_cases hk : r[0].toNat ≠ 61 ∧ (r[0].toNat = 9 ∨ 32 ≤ r[0].toNat ∧ r[0].toNat ≤ 126)
            · rw [bT hk, grd_Cat (by simp; omega), lt_eq]
              exact go _ 1 (Qp.tok_plain h hk)
            · rw [bF hk]
              exact no (Qp.tok_other h hc (fun hh => h61 ⟨UInt8.toNat_inj.1 (by rw [hh.1]; rfl), hh.2⟩) hk)
    · have : r = [] := List.eq_nil_of_length_eq_zero (by omega)
      subst this
      rw [bF (by simp)]
      unfold qp_Decode_j1
      rw [Qp.decode_nil]
      simp [dres]
theorem Decode_eq (F : Nat) (b : Bs) (hb : b.length ≤ 1000000) (hF : b.length < F) : qp_Decode F b = some (dres [] (Qp.decode b)) := dec_loop F F b [] hF (by simp; omega)
end Go.Pt
namespace Go.Hd
open Go.Pv Go.Av
def cutAt (c : UInt8) : Bs → Option (Bs × Bs)
  | [] => none
  | b :: r => if b = c then some ([], r) else match cutAt c r with
    | none => none
    | some (x, y) => some (b :: x, y)
theorem cut_one (c : UInt8) : ∀ s : Bs, Go.Lib.cut s [c] = match cutAt c s with
    | none => (s, [], false)
    | some (x, y) => (x, y, true)
  | [] => rfl
  | b :: r => by
    have ih := cut_one c r
    have hi := index_one_cons b c r
    have hge := Go.Lib.index_ge r [c]
    unfold cutAt
    unfold Go.Lib.cut at ih ⊢
    by_cases h : b = c
    · rw [if_pos h] at hi ⊢
      rw [hi]; rfl
    · rw [if_neg h] at hi ⊢
      by_cases hm : Go.Lib.index r [c] = -1
      · rw [if_pos hm] at hi
        rw [hm, if_neg (by omega)] at ih
        rw [hi, if_neg (by omega)]
        cases hc : cutAt c r with
        | none => rfl
        | some x => rw [hc] at ih; simp at ih
      · rw [if_neg hm] at hi
        obtain ⟨j, hj⟩ := Int.eq_ofNat_of_zero_le (show 0 ≤ Go.Lib.index r [c] by omega)
        rw [hj, if_pos (by omega), Int.toNat_natCast] at ih
        rw [hi, hj, if_pos (by omega), show ((j : Int) + 1).toNat = j + 1 by omega]
        cases hc : cutAt c r with
        | none => rw [hc] at ih; simp at ih
        | some x =>
          obtain ⟨x, y⟩ := x
          rw [hc] at ih
          simp only [Prod.mk.injEq] at ih
          show ((b :: r).take (j + 1), (b :: r).drop (j + 1 + 1), true) = (b :: x, y, true)
          rw [List.take_succ_cons, ih.1, List.drop_succ_cons]
          have h2 := ih.2.1
          rw [show ([c] : Bs).length = 1 from rfl] at h2
          rw [h2]
theorem cutAt_len {c : UInt8} : ∀ {s x y : Bs}, cutAt c s = some (x, y) → s = x ++ c :: y
  | [], x, y, h => by cases h
  | b :: r, x, y, h => by
    unfold cutAt at h
    by_cases hb : b = c
    · rw [if_pos hb] at h; cases h; rw [hb]; rfl
    · rw [if_neg hb] at h
      cases hc : cutAt c r with
      | none => rw [hc] at h; cases h
      | some z =>
        obtain ⟨p, q⟩ := z
        rw [hc] at h; cases h
        have := cutAt_len hc
        rw [this]; rfl
theorem cutAt_app {c : UInt8} : ∀ {x : Bs} (y : Bs), (∀ b ∈ x, b ≠ c) → cutAt c (x ++ c :: y) = some (x, y)
  | [], y, h => by show cutAt c (c :: y) = _; unfold cutAt; rw [if_pos rfl]
  | b :: x, y, h => by
    show cutAt c (b :: (x ++ c :: y)) = _
    unfold cutAt
    rw [if_neg (h b (by simp)), cutAt_app y (fun z hz => h z (by simp [hz]))]
noncomputable def readOf (s : Bs) : Bs × Bs × Int := match cutAt 58 s with
  | none => ([], [], 2)
  | some (x, y) => if okLine x (valueOf (wf [] y)) = true ∧ lineOf x (valueOf (wf [] y)) = s then (x, valueOf (wf [] y), 0) else ([], [], 2)
theorem Read_eq (F : Nat) (s : Bs) (hs : s.length ≤ 250000) (hF : 900000 < F) : head_Read F s = some (readOf s) := by
  unfold head_Read readOf
  rw [grd_S (by omega), lt_eq, cut_one]
  cases hc : cutAt 58 s with
  | none =>
    dsimp only
    have e : fieldsP spB [] = [] := fields_eq []
    rw [grd_S (by simp), lt_eq, e, value_eq F [] (by omega) (by simp [Str.total]), bnd_some, Line_eq F s _ (by omega) (by omega) (by omega)]
    generalize (if okLine s (valueOf []) = true then (lineOf s (valueOf []), (0 : Int)) else ([], 1)) = r
    obtain ⟨p, q⟩ := r
    rw [bnd2_some, lt_eq, nfl, Bool.true_or, Bool.true_or, ctr]
  | some z =>
    obtain ⟨x, y⟩ := z
    have hl := congrArg List.length (cutAt_len hc)
    rw [List.length_append, List.length_cons] at hl
    have ht := wf_total y []
    have hv := valueOf_len (wf [] y)
    simp only [List.length_nil] at ht
    dsimp only
    rw [grd_S (by omega), lt_eq, fields_eq, value_eq F _ (by omega) (by omega), bnd_some, Line_eq F x _ (by omega) (by omega) (by omega)]
    by_cases ho : okLine x (valueOf (wf [] y)) = true
    · rw [if_pos ho, bnd2_some, lt_eq, decide_eq_true rfl, ntr, Bool.false_or]
      by_cases he : lineOf x (valueOf (wf [] y)) = s
      · rw [decide_eq_true he, ntr, Bool.false_or, cfl, if_pos ⟨ho, he⟩]
      · rw [decide_eq_false he, nfl, Bool.false_or, ctr, if_neg (fun h => he h.2)]
    · rw [if_neg ho, bnd2_some, lt_eq, decide_eq_false (show ¬ (1 : Int) = 0 by omega), nfl, ntr, Bool.false_or, Bool.true_or, ctr, if_neg (fun h => ho h.1)]
end Go.Hd
