/-
  Texts in one (only what PartJoins needs): PartAP, PartAW, PartLP, PartLW, HeadRP, HeadRW, PartRP.
-/
import Derived.Test.YtdaafnaokdigbaaGreatDoorZPartJoins3
import Derived.Lib.ItoaNum
import Derived.Test.YtdaafnaokdigbaaGreatDoorShelf
import Derived.Test.YtdaafnaokdigbaaGreatDoorChecked
set_option linter.unusedVariables false
set_option linter.unusedSimpArgs false
namespace Go.Pv
def parta_k1 : List UInt8 := [97, 98, 99, 100, 101, 102, 103, 104, 105, 106, 107, 108, 109, 110, 111, 112, 113, 114, 115, 116, 117, 118, 119, 120, 121, 122, 48, 49, 50, 51, 52, 53, 54, 55, 56, 57, 47, 45, 61, 59, 32]
def parta_k2 : List UInt8 := [67, 111, 110, 116, 101, 110, 116, 45, 84, 114, 97, 110, 115, 102, 101, 114, 45, 69, 110, 99, 111, 100, 105, 110, 103]
def part_hasC (F : Nat) (a1 : List UInt8) (a4 : List UInt8) : Option Bool :=
grd (okCat a4.length) <|
grd (okS a1.length) <|
grd (decide (2 ≤ a4.length)) <|
grd (okS a4.length) <|
lt (Go.Lib.contains a1 a4) fun x11 =>
some x11
def part_IndexB_j1 : Option Int :=
some (-1)
def part_IndexB_B1 (F : Nat) (a1 : List (List UInt8)) (a4 : List UInt8) (rec7 : Int → Option Int) (y6 : Int) : Option Int :=
bif decide (y6 < (a1.length : Int)) then
  grd (okAt y6 a1.length) <|
  lt (at_ a1 y6) fun x11 =>
  bnd (part_hasC F x11 a4) fun x13 =>
  bif x13 then
    some y6
  else
    grd (okI (y6 + 1)) <|
    rec7 (y6 + 1)
else
  part_IndexB_j1
def part_IndexB_L1 (F : Nat) (a1 : List (List UInt8)) (a4 : List UInt8) (n : Nat) : Int → Option Int :=
  loop (fun rec x => part_IndexB_B1 F a1 a4 rec x) n
def part_IndexB (F : Nat) (a1 : List (List UInt8)) (a4 : List UInt8) : Option Int :=
part_IndexB_L1 F a1 a4 F 0
def part_ContainsB (F : Nat) (a1 : List (List UInt8)) (a4 : List UInt8) : Option Bool :=
bnd (part_IndexB F a1 a4) fun x6 =>
some (decide (0 ≤ x6))
def part_Boundary_B1 (F : Nat) (a1 : List (List UInt8)) (rec5 : Int → Option ((List UInt8))) (y4 : Int) : Option ((List UInt8)) :=
grd (okI y4) <|
lt (Go.Lib.itoa y4) fun x8 =>
grd (okCat (([61, 95] : List UInt8).length + x8.length)) <|
lt (([61, 95] : List UInt8) ++ x8) fun x11 =>
bnd (part_ContainsB F a1 x11) fun x14 =>
bif !x14 then
  some x11
else
  grd (okI (y4 + 1)) <|
  rec5 (y4 + 1)
def part_Boundary_L1 (F : Nat) (a1 : List (List UInt8)) (n : Nat) : Int → Option ((List UInt8)) :=
  loop (fun rec x => part_Boundary_B1 F a1 rec x) n
def part_Boundary (F : Nat) (a1 : List (List UInt8)) : Option ((List UInt8)) :=
part_Boundary_L1 F a1 F 0
def part_kind_j1 (a1 : List UInt8) : Option Bool :=
grdc ((!decide (a1 = ([] : List UInt8))) && (decide ((a1.length : Int) ≤ 60))) (okS a1.length) <|
lt (Go.Lib.trimB a1 32) fun x18 =>
grdc (((!decide (a1 = ([] : List UInt8))) && (decide ((a1.length : Int) ≤ 60))) && (decide (x18 = a1))) (okS a1.length) <|
lt (Go.Lib.contains a1 ([32, 32] : List UInt8)) fun x22 =>
some ((((!decide (a1 = ([] : List UInt8))) && (decide ((a1.length : Int) ≤ 60))) && (decide (x18 = a1))) && (!x22))
def part_kind_B1 (a1 : List UInt8) (rec4 : Int → Option Bool) (y3 : Int) : Option Bool :=
bif decide (y3 < (a1.length : Int)) then
  grd (okAt y3 a1.length) <|
  lt (at_ a1 y3) fun x8 =>
  lt (Go.Lib.indexByte parta_k1 x8) fun x10 =>
  bif decide (x10 < 0) then
    some false
  else
    grd (okI (y3 + 1)) <|
    rec4 (y3 + 1)
else
  part_kind_j1 a1
def part_kind_L1 (a1 : List UInt8) (n : Nat) : Int → Option Bool :=
  loop (fun rec x => part_kind_B1 a1 rec x) n
def part_kind (F : Nat) (a1 : List UInt8) : Option Bool :=
part_kind_L1 a1 F 0
def part_notC (F : Nat) (a1 : List UInt8) : Option Bool :=
bnd (part_kind F a1) fun x3 =>
some (!x3)
def part_IndexK_j1 : Option Int :=
some (-1)
def part_IndexK_B1 (F : Nat) (a1 : List (List UInt8)) (rec5 : Int → Option Int) (y4 : Int) : Option Int :=
bif decide (y4 < (a1.length : Int)) then
  grd (okAt y4 a1.length) <|
  lt (at_ a1 y4) fun x9 =>
  bnd (part_notC F x9) fun x11 =>
  bif x11 then
    some y4
  else
    grd (okI (y4 + 1)) <|
    rec5 (y4 + 1)
else
  part_IndexK_j1
def part_IndexK_L1 (F : Nat) (a1 : List (List UInt8)) (n : Nat) : Int → Option Int :=
  loop (fun rec x => part_IndexK_B1 F a1 rec x) n
def part_IndexK (F : Nat) (a1 : List (List UInt8)) : Option Int :=
part_IndexK_L1 F a1 F 0
def part_ContainsK (F : Nat) (a1 : List (List UInt8)) : Option Bool :=
bnd (part_IndexK F a1) fun x4 =>
some (decide (0 ≤ x4))
def part_put_j1 (a6 : List UInt8) (x10 : List UInt8) (y24 : List UInt8) : Option ((List UInt8)) :=
grd (okCat (y24.length + x10.length)) <|
lt (y24 ++ x10) fun x29 =>
grd (okCat (x29.length + a6.length)) <|
lt (x29 ++ a6) fun x33 =>
grd (okCat (x33.length + ([13, 10] : List UInt8).length)) <|
lt (x33 ++ ([13, 10] : List UInt8)) fun x37 =>
some x37
def part_put (F : Nat) (a2 : List UInt8) (a4 : List UInt8) (a5 : List UInt8) (a6 : List UInt8) : Option ((List UInt8)) :=
bnd2 (head_All F ([(([67, 111, 110, 116, 101, 110, 116, 45, 84, 121, 112, 101] : List UInt8), a5), (parta_k2, ([113, 117, 111, 116, 101, 100, 45, 112, 114, 105, 110, 116, 97, 98, 108, 101] : List UInt8))] : List ((List UInt8) × List UInt8))) fun x10 x11 =>
grd (okCat (([45, 45] : List UInt8).length + a4.length)) <|
lt (([45, 45] : List UInt8) ++ a4) fun x14 =>
grd (okCat (x14.length + ([13, 10] : List UInt8).length)) <|
lt (x14 ++ ([13, 10] : List UInt8)) fun x17 =>
grd (okCat (a2.length + x17.length)) <|
lt (a2 ++ x17) fun x21 =>
part_put_j1 a6 x10 x21
def part_Join_j1 (x34 : List UInt8) (y54 : List UInt8) : Option ((List UInt8) × (List UInt8) × Int) :=
grd (okCat (([45, 45] : List UInt8).length + x34.length)) <|
lt (([45, 45] : List UInt8) ++ x34) fun x58 =>
grd (okCat (x58.length + ([45, 45] : List UInt8).length)) <|
lt (x58 ++ ([45, 45] : List UInt8)) fun x61 =>
grd (okCat (x61.length + ([13, 10] : List UInt8).length)) <|
lt (x61 ++ ([13, 10] : List UInt8)) fun x64 =>
grd (okCat (y54.length + x64.length)) <|
lt (y54 ++ x64) fun x68 =>
some (x68, x34, 0)
def part_Join_B1 (F : Nat) (a1 : List (List UInt8)) (y31 : List (List UInt8)) (x34 : List UInt8) (rec41 : (Int × (List UInt8)) → Option ((List UInt8) × (List UInt8) × Int)) (y38 : Int) (y39 : List UInt8) : Option ((List UInt8) × (List UInt8) × Int) :=
bif decide (y38 < (y31.length : Int)) then
  grd (okAt y38 y31.length) <|
  lt (at_ y31 y38) fun x45 =>
  grd (okAt y38 a1.length) <|
  lt (at_ a1 y38) fun x48 =>
  bnd (part_put F y39 x34 x48 x45) fun x50 =>
  grd (okI (y38 + 1)) <|
  rec41 (y38 + 1, x50)
else
  part_Join_j1 x34 y39
def part_Join_L1 (F : Nat) (a1 : List (List UInt8)) (y31 : List (List UInt8)) (x34 : List UInt8) (n : Nat) : (Int × (List UInt8)) → Option ((List UInt8) × (List UInt8) × Int) :=
  loop (fun rec x => part_Join_B1 F a1 y31 x34 rec x.1 x.2) n
def part_Join_j2 (F : Nat) (a1 : List (List UInt8)) (y31 : List (List UInt8)) : Option ((List UInt8) × (List UInt8) × Int) :=
bnd (part_Boundary F y31) fun x34 =>
part_Join_L1 F a1 y31 x34 F (0, [])
def part_Join_B2 (F : Nat) (a1 : List (List UInt8)) (a3 : List (List UInt8)) (rec18 : ((List (List UInt8)) × Int) → Option ((List UInt8) × (List UInt8) × Int)) (y15 : List (List UInt8)) (y17 : Int) : Option ((List UInt8) × (List UInt8) × Int) :=
bif decide (y17 < (a3.length : Int)) then
  grd (okAt y17 a3.length) <|
  lt (at_ a3 y17) fun x22 =>
  bnd (qp_Encode F x22) fun x24 =>
  grd (okCat (y15.length + ([x24] : List (List UInt8)).length)) <|
  lt (y15 ++ ([x24] : List (List UInt8))) fun x28 =>
  grd (okI (y17 + 1)) <|
  rec18 (x28, y17 + 1)
else
  part_Join_j2 F a1 y15
def part_Join_L2 (F : Nat) (a1 : List (List UInt8)) (a3 : List (List UInt8)) (n : Nat) : ((List (List UInt8)) × Int) → Option ((List UInt8) × (List UInt8) × Int) :=
  loop (fun rec x => part_Join_B2 F a1 a3 rec x.1 x.2) n
def part_Join (F : Nat) (a1 : List (List UInt8)) (a3 : List (List UInt8)) : Option ((List UInt8) × (List UInt8) × Int) :=
bndc (!(((!decide ((a1.length : Int) = (a3.length : Int))) || (decide ((a3.length : Int) = 0))) || (decide (8 < (a3.length : Int))))) (part_ContainsK F a1) fun x11 =>
bif (((!decide ((a1.length : Int) = (a3.length : Int))) || (decide ((a3.length : Int) = 0))) || (decide (8 < (a3.length : Int)))) || x11 then
  some ([], ([] : List UInt8), 1)
else
  part_Join_L2 F a1 a3 F ([], 0)
def part_one (F : Nat) (a1 : List UInt8) : Option ((List UInt8) × (List UInt8) × Bool) :=
bnd3 (head_Cut F a1) fun x6 x7 x8 =>
bif ((!decide (x8 = 0)) || (!decide ((x6.length : Int) = 2))) || (decide ((x7.length : Int) < 2)) then
  some (([] : List UInt8), [], false)
else
  grd (okI ((x7.length : Int) - 2)) <|
  grd (okTo ((x7.length : Int) - 2) x7.length) <|
  lt (to_ x7 ((x7.length : Int) - 2)) fun x15 =>
  bnd2 (qp_Decode F x15) fun x17 x18 =>
  grd (okAt 0 x6.length) <|
  lt (at_ x6 0) fun x21 =>
  some (x21.2, x17, decide (x18 = 0))
def part_Split_j1 (F : Nat) (a1 : List UInt8) (a3 : List UInt8) (y63 : List (List UInt8)) (y65 : List (List UInt8)) : Option ((List (List UInt8)) × (List (List UInt8)) × Int) :=
bnd3 (part_Join F y63 y65) fun x68 x69 x70 =>
lt (decide (x68 = a1)) fun x74 =>
bif ((!decide (x70 = 0)) || (!decide (x69 = a3))) || (!x74) then
  some ([], [], 2)
else
  some (y63, y65, 0)
def part_Split_B1 (F : Nat) (a1 : List UInt8) (a3 : List UInt8) (rec14 : ((List (List UInt8)) × (List (List UInt8)) × (List UInt8)) → Option ((List (List UInt8)) × (List (List UInt8)) × Int)) (y9 : List (List UInt8)) (y11 : List (List UInt8)) (y13 : List UInt8) : Option ((List (List UInt8)) × (List (List UInt8)) × Int) :=
bif decide ((y11.length : Int) ≤ 8) then
  grd (okCat (([45, 45] : List UInt8).length + a3.length)) <|
  lt (([45, 45] : List UInt8) ++ a3) fun x18 =>
  grd (okCat (x18.length + ([13, 10] : List UInt8).length)) <|
  lt (x18 ++ ([13, 10] : List UInt8)) fun x21 =>
  grd (okCat x21.length) <|
  grd (decide (1 ≤ x21.length)) <|
  lt (Go.Lib.trimPrefix y13 x21, Go.Lib.hasPrefix y13 x21) fun x26 =>
  bif !x26.2 then
    part_Split_j1 F a1 a3 y9 y11
  else
    grd (okCat (([45, 45] : List UInt8).length + a3.length)) <|
    lt (([45, 45] : List UInt8) ++ a3) fun x30 =>
    grd (okCat x30.length) <|
    grd (okS x26.1.length) <|
    grd (decide (2 ≤ x30.length)) <|
    grd (okS x30.length) <|
    lt (Go.Lib.index x26.1 x30) fun x37 =>
    bif decide (x37 < 0) then
      some ([], [], 2)
    else
      grd (okTo x37 x26.1.length) <|
      lt (to_ x26.1 x37) fun x41 =>
      bnd3 (part_one F x41) fun x43 x44 x45 =>
      bif !x45 then
        some ([], [], 2)
      else
        grd (okTo x37 x26.1.length) <|
        lt (from_ x26.1 x37) fun x49 =>
        grd (okCat (y9.length + ([x43] : List (List UInt8)).length)) <|
        lt (y9 ++ ([x43] : List (List UInt8))) fun x53 =>
        grd (okCat (y11.length + ([x44] : List (List UInt8)).length)) <|
        lt (y11 ++ ([x44] : List (List UInt8))) fun x57 =>
        rec14 (x53, x57, x49)
else
  part_Split_j1 F a1 a3 y9 y11
def part_Split_L1 (F : Nat) (a1 : List UInt8) (a3 : List UInt8) (n : Nat) : ((List (List UInt8)) × (List (List UInt8)) × (List UInt8)) → Option ((List (List UInt8)) × (List (List UInt8)) × Int) :=
  loop (fun rec x => part_Split_B1 F a1 a3 rec x.1 x.2.1 x.2.2) n
def part_Split (F : Nat) (a1 : List UInt8) (a3 : List UInt8) : Option ((List (List UInt8)) × (List (List UInt8)) × Int) :=
part_Split_L1 F a1 a3 F ([], [], a1)
end Go.Pv
namespace Go.Proofs.YtdaafnaokdigbaaGreatDoor
open Go.RowKit Go.Av Go.Pv
theorem en10_parta : ∀ (args : Array Value) (w : World), (callFunc 10 args).run Tryz.prog w = .ok (.enter 10 args) w := fun _ _ => by kernel_rfl
theorem en12_parta : ∀ (args : Array Value) (w : World), (callFunc 12 args).run Tryz.prog w = .ok (.enter 12 args) w := fun _ _ => by kernel_rfl
theorem en20_parta : ∀ (args : Array Value) (w : World), (callFunc 20 args).run Tryz.prog w = .ok (.enter 20 args) w := fun _ _ => by kernel_rfl
theorem en21_parta : ∀ (args : Array Value) (w : World), (callFunc 21 args).run Tryz.prog w = .ok (.enter 21 args) w := fun _ _ => by kernel_rfl
theorem en22_parta : ∀ (args : Array Value) (w : World), (callFunc 22 args).run Tryz.prog w = .ok (.enter 22 args) w := fun _ _ => by kernel_rfl
theorem en23_parta : ∀ (args : Array Value) (w : World), (callFunc 23 args).run Tryz.prog w = .ok (.enter 23 args) w := fun _ _ => by kernel_rfl
theorem en24_parta : ∀ (args : Array Value) (w : World), (callFunc 24 args).run Tryz.prog w = .ok (.enter 24 args) w := fun _ _ => by kernel_rfl
theorem en27_parta : ∀ (args : Array Value) (w : World), (callFunc 27 args).run Tryz.prog w = .ok (.enter 27 args) w := fun _ _ => by kernel_rfl
theorem en28_parta : ∀ (args : Array Value) (w : World), (callFunc 28 args).run Tryz.prog w = .ok (.enter 28 args) w := fun _ _ => by kernel_rfl
theorem en29_parta : ∀ (args : Array Value) (w : World), (callFunc 29 args).run Tryz.prog w = .ok (.enter 29 args) w := fun _ _ => by kernel_rfl
theorem en30_parta : ∀ (args : Array Value) (w : World), (callFunc 30 args).run Tryz.prog w = .ok (.enter 30 args) w := fun _ _ => by kernel_rfl
theorem en33_parta : ∀ (args : Array Value) (w : World), (callFunc 33 args).run Tryz.prog w = .ok (.enter 33 args) w := fun _ _ => by kernel_rfl
theorem en34_parta : ∀ (args : Array Value) (w : World), (callFunc 34 args).run Tryz.prog w = .ok (.enter 34 args) w := fun _ _ => by kernel_rfl
theorem en35_parta : ∀ (args : Array Value) (w : World), (callFunc 35 args).run Tryz.prog w = .ok (.enter 35 args) w := fun _ _ => by kernel_rfl
theorem en36_parta : ∀ (args : Array Value) (w : World), (callFunc 36 args).run Tryz.prog w = .ok (.enter 36 args) w := fun _ _ => by kernel_rfl
theorem en40_parta : ∀ (args : Array Value) (w : World), (callFunc 40 args).run Tryz.prog w = .ok (.enter 40 args) w := fun _ _ => by kernel_rfl
theorem en41_parta : ∀ (args : Array Value) (w : World), (callFunc 41 args).run Tryz.prog w = .ok (.enter 41 args) w := fun _ _ => by kernel_rfl
theorem en42_parta : ∀ (args : Array Value) (w : World), (callFunc 42 args).run Tryz.prog w = .ok (.enter 42 args) w := fun _ _ => by kernel_rfl
theorem en43_parta : ∀ (args : Array Value) (w : World), (callFunc 43 args).run Tryz.prog w = .ok (.enter 43 args) w := fun _ _ => by kernel_rfl
theorem en46_parta : ∀ (args : Array Value) (w : World), (callFunc 46 args).run Tryz.prog w = .ok (.enter 46 args) w := fun _ _ => by kernel_rfl
theorem en49_parta : ∀ (args : Array Value) (w : World), (callFunc 49 args).run Tryz.prog w = .ok (.enter 49 args) w := fun _ _ => by kernel_rfl
theorem en55_parta : ∀ (args : Array Value) (w : World), (callFunc 55 args).run Tryz.prog w = .ok (.enter 55 args) w := fun _ _ => by kernel_rfl
theorem en56_parta : ∀ (args : Array Value) (w : World), (callFunc 56 args).run Tryz.prog w = .ok (.enter 56 args) w := fun _ _ => by kernel_rfl
set_option maxRecDepth 100000 in
set_option maxHeartbeats 1000000 in
theorem w_part_hasC (F : Nat) (a1 : List UInt8) (q2 : Option Nat) (o3 : Nat) (a4 : List UInt8) (r5 : Bool) (H : part_hasC F a1 a4 = some r5) : ACalls Tryz.prog 29 [slE Enc.byte a1 q2, .pt o3 0] [.obj o3 [S a4]] (fun e A' => e = .ret (B r5) ∧ A' = [.obj o3 [S a4]]) := by
 unfold part_hasC at H
 refine ACalls.of_body Tryz.func29 rfl rfl ?_
 show AW _ _ 8 _ _ _
 refine AW.seq ?_
 refine AW.region ?_
 show AR _ _ _ _ _ [0] _
 refine sS rfl rfl rfl (asg rfl) ?_
 refine AR.nil ?_
 show AW _ _ _ _ _ _
 refine AW.seq ?_
 obtain ⟨g6, H⟩ := grd_s H
 obtain ⟨g8, H⟩ := grd_s H
 obtain ⟨g9, H⟩ := grd_s H
 obtain ⟨g10, H⟩ := grd_s H
 obtain ⟨x11, e12, H⟩ := lt_s H
 refine AW.region ?_
 show AR _ _ _ _ _ [0, 1, 2, 3, 4] _
 refine sS rfl rfl rfl (opS_move (av := slE _ _ _) rfl) ?_
 refine sR rfl rfl rfl (opR_load_pt (i := 0) Tryz.underlying9 rfl rfl rfl rfl) ?_
 refine sX rfl rfl rfl (g_conv_str_bytes (bytes := 1) Tryz.underlying9 Tryz.underlying26 Tryz.underlying5 rfl g6) ?_
 rintro _ _ ⟨t7, rfl, rfl⟩
 refine AR.run rfl rfl (AO.callp rfl en30_parta rfl (show ACalls _ _ _ [] (Ret (B x11) []) from by subst e12; exact lib_bytesContains a1 a4 q2 (some t7) (okS_s g8) (of_decide_eq_true g9) (okS_s g10)) ?_)
 refine sS rfl rfl rfl (asg rfl) ?_
 refine AR.nil ?_
 show AW _ _ _ _ _ _
 refine AW.ret ?_
 obtain rfl := Option.some.inj H
 exact And.intro rfl (Exists.intro _ (Exists.intro _ ⟨ResV.oneW rfl (.refl _), Sub.at [1] rfl, rfl, rfl⟩))
set_option maxRecDepth 100000 in
set_option maxHeartbeats 1000000 in
theorem w_part_IndexB (F : Nat) (a1 : List (List UInt8)) (q2 : Option Nat) (o3 : Nat) (a4 : List UInt8) (r5 : Int) (H : part_IndexB F a1 a4 = some r5) : ACalls Tryz.prog 49 [slE (Enc.sl Enc.byte) a1 q2, .fn (.func 29) [] [.pt o3 0]] [.obj o3 [S a4]] (fun e A' => e = .ret (i64 r5) ∧ A' = [.obj o3 [S a4]]) := by
 unfold part_IndexB at H
 refine ACalls.of_body Tryz.func49 rfl rfl ?_
 show AW _ _ 19 _ _ _
 refine AW.seq ?_
 refine AW.region ?_
 show AR _ _ _ _ _ [0] _
 refine sS rfl rfl rfl (asg rfl) ?_
 refine AR.nil ?_
 show AW _ _ _ _ _ _
 refine AW.cut (X := Unit) (fun _ => ⟨[], [], [.obj o3 [S a4]]⟩) (fun _ => part_IndexB_j1 = some r5) ?_ ?_
 ·
  refine AW.seq ?_
  refine AW.region ?_
  show AR _ _ _ _ _ [0, 1, 2] _
  refine sS rfl rfl rfl (opS_move (av := slE _ _ _) rfl) ?_
  refine sS rfl rfl rfl (opS_len_sl Tryz.underlying23 rfl) ?_
  refine sS rfl rfl rfl (mv rfl) ?_
  refine AR.nil ?_
  show AW _ _ _ _ _ _
  refine AW.block ?_
  refine AW.loop (X := Nat × Int) (fun (n8, y6) => ⟨[(0, slE (Enc.sl Enc.byte) a1 q2), (1, .fn (.func 29) [] [.pt o3 0]), (7, i64 (a1.length : Int)), (8, i64 y6)], [], [.obj o3 [S a4]]⟩) (fun (n8, y6) => part_IndexB_L1 F a1 a4 n8 y6 = some r5) (fun (n8, y6) => n8) (F, 0) H (WK.at [0] (.cons (.refl _) (.cons (.refl _) (.cons (.refl _) (.cons (.refl _) (.nil _))))) rfl) ?_
  rintro ⟨n8, y6⟩ H
  obtain ⟨n8, rfl, H⟩ := loop_s H
  replace H : part_IndexB_B1 F a1 a4 (part_IndexB_L1 F a1 a4 n8) y6 = some r5 := H
  unfold part_IndexB_B1 at H
  show AW _ _ _ _ _ _
  refine AW.seq ?_
  refine AW.region ?_
  show AR _ _ _ _ _ [0] _
  refine sS rfl rfl rfl (opS_lt rfl rfl) ?_
  refine AR.nil ?_
  show AW _ _ _ _ _ _
  refine AW.seq ?_
  refine AW.cond rfl (fun c9 => ?_) (fun c9 => ?_)
  ·replace H := cnd_t c9 H
   refine AW.skip ?_
   show AW _ _ _ _ _ _
   refine AW.seq ?_
   refine AW.block ?_
   refine AW.seq ?_
   refine AW.region ?_
   show AR _ _ _ _ _ [0, 1] _
   refine sS rfl rfl rfl (mv rfl) ?_
   refine sS rfl rfl rfl (asg rfl) ?_
   refine AR.nil ?_
   show AW _ _ _ _ _ _
   refine AW.seq ?_
   obtain ⟨g10, H⟩ := grd_s H
   obtain ⟨x11, e12, H⟩ := lt_s H
   obtain ⟨x13, e14, H⟩ := bnd_s H
   refine AW.region ?_
   show AR _ _ _ _ _ [0, 1, 2, 3, 4, 5] _
   refine sS rfl rfl rfl (opS_move (av := .fn _ _ _) rfl) ?_
   refine sS rfl rfl rfl (opS_move (av := slE _ _ _) rfl) ?_
   refine sS rfl rfl rfl (mv rfl) ?_
   refine sS rfl rfl rfl (g_indexAddr (E := (Enc.sl Enc.byte)) Tryz.underlying23 (by kernel_rfl) rfl rfl g10 e12) ?_
   refine sS rfl rfl rfl (opS_load_cp Tryz.underlying26 rfl rfl) ?_
   refine AR.run rfl rfl (AO.callFAt [0] rfl (.inl rfl) en29_parta rfl (w_part_hasC F x11 none o3 a4 x13 e14) rfl (fun c A' h => by cases h.1) ?_)
   rintro av A' ⟨h, rfl⟩; cases h
   refine AR.nil ?_
   show AW _ _ _ _ _ _
   refine AW.cond rfl (fun c15 => ?_) (fun c15 => ?_)
   ·replace H := cnd_t c15 H
    refine AW.seq ?_
    refine AW.region ?_
    show AR _ _ _ _ _ [0, 1] _
    refine sS rfl rfl rfl (mv rfl) ?_
    refine sS rfl rfl rfl (asg rfl) ?_
    refine AR.nil ?_
    show AW _ _ _ _ _ _
    refine AW.ret ?_
    obtain rfl := Option.some.inj H
    exact And.intro rfl (Exists.intro _ (Exists.intro _ ⟨ResV.oneW rfl (.refl _), Sub.at [0] rfl, rfl, rfl⟩))
   ·replace H := cnd_f c15 H
    refine AW.skip ?_
    show AW _ _ _ _ _ _
    obtain ⟨g16, H⟩ := grd_s H
    refine AW.region ?_
    show AR _ _ _ _ _ [0, 1] _
    refine sS rfl rfl rfl (g_add rfl rfl g16) ?_
    refine sS rfl rfl rfl (mv rfl) ?_
    refine AR.nil ?_
    exact Exists.intro (n8, y6 + 1) ⟨H, Nat.lt_succ_self _, WK.at [0] (.cons (.refl _) (.cons (.refl _) (.cons (.refl _) (.cons (.refl _) (.nil _))))) rfl⟩
  ·replace H := cnd_f c9 H
   refine AW.exit ?_
   exact Exists.intro () ⟨H, WK.at [0] (.nil _) rfl⟩
 rintro _ H
 replace H : part_IndexB_j1 = some r5 := H
 unfold part_IndexB_j1 at H
 show AW _ _ _ _ _ _
 refine AW.seq ?_
 refine AW.region ?_
 show AR _ _ _ _ _ [0] _
 refine sS rfl rfl rfl (asg rfl) ?_
 refine AR.nil ?_
 show AW _ _ _ _ _ _
 refine AW.ret ?_
 obtain rfl := Option.some.inj H
 exact And.intro rfl (Exists.intro _ (Exists.intro _ ⟨ResV.oneW rfl (.refl _), Sub.at [0] rfl, rfl, rfl⟩))
set_option maxRecDepth 100000 in
set_option maxHeartbeats 1000000 in
theorem w_part_ContainsB (F : Nat) (a1 : List (List UInt8)) (q2 : Option Nat) (o3 : Nat) (a4 : List UInt8) (r5 : Bool) (H : part_ContainsB F a1 a4 = some r5) : ACalls Tryz.prog 28 [slE (Enc.sl Enc.byte) a1 q2, .fn (.func 29) [] [.pt o3 0]] [.obj o3 [S a4]] (fun e A' => e = .ret (B r5) ∧ A' = [.obj o3 [S a4]]) := by
 unfold part_ContainsB at H
 refine ACalls.of_body Tryz.func28 rfl rfl ?_
 show AW _ _ 9 _ _ _
 refine AW.seq ?_
 refine AW.region ?_
 show AR _ _ _ _ _ [0] _
 refine sS rfl rfl rfl (asg rfl) ?_
 refine AR.nil ?_
 show AW _ _ _ _ _ _
 refine AW.seq ?_
 obtain ⟨x6, e7, H⟩ := bnd_s H
 refine AW.region ?_
 show AR _ _ _ _ _ [0, 1, 2, 3, 4] _
 refine sS rfl rfl rfl (opS_move (av := slE _ _ _) rfl) ?_
 refine sS rfl rfl rfl (opS_move (av := .fn _ _ _) rfl) ?_
 refine AR.run rfl rfl (AO.callAt [0] rfl en49_parta rfl (w_part_IndexB F a1 q2 o3 a4 x6 e7) rfl (fun c A' h => by cases h.1) ?_)
 rintro av A' ⟨h, rfl⟩; cases h
 refine sS rfl rfl rfl (opS_ge rfl rfl) ?_
 refine sS rfl rfl rfl (asg rfl) ?_
 refine AR.nil ?_
 show AW _ _ _ _ _ _
 refine AW.ret ?_
 obtain rfl := Option.some.inj H
 exact And.intro rfl (Exists.intro _ (Exists.intro _ ⟨ResV.oneW rfl (.refl _), Sub.at [0] rfl, rfl, rfl⟩))
set_option maxRecDepth 100000 in
set_option maxHeartbeats 1000000 in
theorem w_part_Boundary (F : Nat) (a1 : List (List UInt8)) (q2 : Option Nat) (r3 : List UInt8) (H : part_Boundary F a1 = some r3) : ACalls Tryz.prog 12 [slE (Enc.sl Enc.byte) a1 q2] [] (Ret (S r3) []) := by
 unfold part_Boundary at H
 refine ACalls.of_body Tryz.func12 rfl rfl ?_
 show AW _ _ 15 _ _ _
 refine AW.seq ?_
 refine AW.region ?_
 show AR _ _ _ _ _ [0] _
 refine sS rfl rfl rfl (asg rfl) ?_
 refine AR.nil ?_
 show AW _ _ _ _ _ _
 refine AW.seq ?_
 refine AW.region ?_
 show AR _ _ _ _ _ [0] _
 refine sS rfl rfl rfl (asg rfl) ?_
 refine AR.nil ?_
 show AW _ _ _ _ _ _
 refine AW.block ?_
 refine AW.loop (X := Nat × Int) (fun (n6, y4) => ⟨[(0, slE (Enc.sl Enc.byte) a1 q2), (3, i64 y4)], [], []⟩) (fun (n6, y4) => part_Boundary_L1 F a1 n6 y4 = some r3) (fun (n6, y4) => n6) (F, 0) H (WK.at [] (.cons (.refl _) (.cons (.refl _) (.nil _))) rfl) ?_
 rintro ⟨n6, y4⟩ H
 obtain ⟨n6, rfl, H⟩ := loop_s H
 replace H : part_Boundary_B1 F a1 (part_Boundary_L1 F a1 n6) y4 = some r3 := H
 unfold part_Boundary_B1 at H
 show AW _ _ _ _ _ _
 refine AW.seq ?_
 refine AW.block ?_
 refine AW.seq ?_
 obtain ⟨g7, H⟩ := grd_s H
 obtain ⟨x8, e9, H⟩ := lt_s H
 obtain ⟨g10, H⟩ := grd_s H
 obtain ⟨x11, e12, H⟩ := lt_s H
 refine AW.region ?_
 show AR _ _ _ _ _ [0, 1, 2, 3, 4] _
 refine sS rfl rfl rfl (mv rfl) ?_
 refine AR.run rfl rfl (AO.callp rfl en27_parta rfl (show ACalls _ _ _ [] (Ret (S x8) []) from by subst e9; exact lib_ItoaAll y4 (okI_s g7)) ?_)
 refine sS rfl rfl rfl (g_cat rfl rfl g10 e12) ?_
 refine sX rfl rfl rfl (opX_alloc (zs := [.string ⟨#[]⟩]) (by kernel_rfl)) ?_
 rintro _ _ ⟨o13, rfl, rfl⟩
 refine s0 rfl rfl (opR_store_pt (i := 0) (c := .v _) (by kernel_rfl) rfl rfl rfl rfl (Nat.le_of_ble_eq_true rfl)) ?_
 refine AR.nil ?_
 show AW _ _ _ _ _ _
 refine AW.seq ?_
 obtain ⟨x14, e15, H⟩ := bnd_s H
 refine AW.region ?_
 show AR _ _ _ _ _ [0, 1, 2, 3] _
 refine sS rfl rfl rfl (opS_move (av := slE _ _ _) rfl) ?_
 refine sS rfl rfl rfl (opS_makeFunc rfl rfl) ?_
 refine AR.run rfl rfl (AO.callAt [0] rfl en28_parta rfl (w_part_ContainsB F a1 q2 o13 x11 x14 e15) rfl (fun c A' h => by cases h.1) ?_)
 rintro av A' ⟨h, rfl⟩; cases h
 refine sS rfl rfl rfl (opS_not rfl) ?_
 refine AR.nil ?_
 show AW _ _ _ _ _ _
 refine AW.cond rfl (fun c16 => ?_) (fun c16 => ?_)
 ·replace H := cnd_t c16 H
  refine AW.seq ?_
  refine AW.region ?_
  show AR _ _ _ _ _ [0, 1] _
  refine sR rfl rfl rfl (opR_load_pt (i := 0) Tryz.underlying9 rfl rfl rfl rfl) ?_
  refine sS rfl rfl rfl (asg rfl) ?_
  refine AR.nil ?_
  show AW _ _ _ _ _ _
  refine AW.ret ?_
  obtain rfl := Option.some.inj H
  exact And.intro rfl (Exists.intro _ (Exists.intro _ ⟨ResV.oneW rfl (.refl _), Sub.at [] rfl, rfl, rfl⟩))
 ·replace H := cnd_f c16 H
  refine AW.skip ?_
  show AW _ _ _ _ _ _
  obtain ⟨g17, H⟩ := grd_s H
  refine AW.region ?_
  show AR _ _ _ _ _ [0, 1, 2] _
  refine sS rfl rfl rfl (mv rfl) ?_
  refine sS rfl rfl rfl (g_add rfl rfl g17) ?_
  refine sS rfl rfl rfl (asg rfl) ?_
  refine AR.nil ?_
  exact Exists.intro (n6, y4 + 1) ⟨H, Nat.lt_succ_self _, WK.at [] (.cons (.refl _) (.cons (.refl _) (.nil _))) rfl⟩
set_option maxRecDepth 100000 in
set_option maxHeartbeats 1000000 in
theorem w_part_kind (F : Nat) (a1 : List UInt8) (r2 : Bool) (H : part_kind F a1 = some r2) : ACalls Tryz.prog 22 [S a1] [] (Ret (B r2) []) := by
 unfold part_kind at H
 refine ACalls.of_body Tryz.func22 rfl rfl ?_
 show AW _ _ 33 _ _ _
 refine AW.seq ?_
 refine AW.region ?_
 show AR _ _ _ _ _ [0] _
 refine sS rfl rfl rfl (asg rfl) ?_
 refine AR.nil ?_
 show AW _ _ _ _ _ _
 refine AW.cut (X := Unit) (fun _ => ⟨[(0, S a1)], [], []⟩) (fun _ => part_kind_j1 a1 = some r2) ?_ ?_
 ·
  refine AW.seq ?_
  refine AW.region ?_
  show AR _ _ _ _ _ [0, 1, 2] _
  refine sS rfl rfl rfl (mv rfl) ?_
  refine sS rfl rfl rfl (opS_len_str Tryz.underlying9 rfl) ?_
  refine sS rfl rfl rfl (mv rfl) ?_
  refine AR.nil ?_
  show AW _ _ _ _ _ _
  refine AW.block ?_
  refine AW.loop (X := Nat × Int) (fun (n5, y3) => ⟨[(0, S a1), (5, i64 (a1.length : Int)), (6, i64 y3)], [], []⟩) (fun (n5, y3) => part_kind_L1 a1 n5 y3 = some r2) (fun (n5, y3) => n5) (F, 0) H (WK.at [] (.cons (.refl _) (.cons (.refl _) (.cons (.refl _) (.nil _)))) rfl) ?_
  rintro ⟨n5, y3⟩ H
  obtain ⟨n5, rfl, H⟩ := loop_s H
  replace H : part_kind_B1 a1 (part_kind_L1 a1 n5) y3 = some r2 := H
  unfold part_kind_B1 at H
  show AW _ _ _ _ _ _
  refine AW.seq ?_
  refine AW.region ?_
  show AR _ _ _ _ _ [0] _
  refine sS rfl rfl rfl (opS_lt rfl rfl) ?_
  refine AR.nil ?_
  show AW _ _ _ _ _ _
  refine AW.seq ?_
  refine AW.cond rfl (fun c6 => ?_) (fun c6 => ?_)
  ·replace H := cnd_t c6 H
   refine AW.skip ?_
   show AW _ _ _ _ _ _
   refine AW.seq ?_
   refine AW.block ?_
   refine AW.seq ?_
   refine AW.region ?_
   show AR _ _ _ _ _ [0, 1] _
   refine sS rfl rfl rfl (mv rfl) ?_
   refine sS rfl rfl rfl (asg rfl) ?_
   refine AR.nil ?_
   show AW _ _ _ _ _ _
   refine AW.seq ?_
   obtain ⟨g7, H⟩ := grd_s H
   obtain ⟨x8, e9, H⟩ := lt_s H
   obtain ⟨x10, e11, H⟩ := lt_s H
   refine AW.region ?_
   show AR _ _ _ _ _ [0, 1, 2, 3, 4] _
   refine sS rfl rfl rfl (mv rfl) ?_
   refine sS rfl rfl rfl (mv rfl) ?_
   refine sS rfl rfl rfl (g_index_str Tryz.underlying9 rfl rfl g7 e9) ?_
   refine AR.run rfl rfl (AO.callp rfl en41_parta rfl (show ACalls _ _ _ [] (Ret (i64 x10) []) from by subst e11; exact lib_IndexByte parta_k1 x8) ?_)
   refine sS rfl rfl rfl (opS_lt rfl rfl) ?_
   refine AR.nil ?_
   show AW _ _ _ _ _ _
   refine AW.cond rfl (fun c12 => ?_) (fun c12 => ?_)
   ·replace H := cnd_t c12 H
    refine AW.seq ?_
    refine AW.region ?_
    show AR _ _ _ _ _ [0] _
    refine sS rfl rfl rfl (asg rfl) ?_
    refine AR.nil ?_
    show AW _ _ _ _ _ _
    refine AW.ret ?_
    obtain rfl := Option.some.inj H
    exact And.intro rfl (Exists.intro _ (Exists.intro _ ⟨ResV.oneW rfl (.refl _), Sub.at [] rfl, rfl, rfl⟩))
   ·replace H := cnd_f c12 H
    refine AW.skip ?_
    show AW _ _ _ _ _ _
    obtain ⟨g13, H⟩ := grd_s H
    refine AW.region ?_
    show AR _ _ _ _ _ [0, 1] _
    refine sS rfl rfl rfl (g_add rfl rfl g13) ?_
    refine sS rfl rfl rfl (mv rfl) ?_
    refine AR.nil ?_
    exact Exists.intro (n5, y3 + 1) ⟨H, Nat.lt_succ_self _, WK.at [] (.cons (.refl _) (.cons (.refl _) (.cons (.refl _) (.nil _)))) rfl⟩
  ·replace H := cnd_f c6 H
   refine AW.exit ?_
   exact Exists.intro () ⟨H, WK.at [] (.cons (.refl _) (.nil _)) rfl⟩
 rintro _ H
 replace H : part_kind_j1 a1 = some r2 := H
 unfold part_kind_j1 at H
 show AW _ _ _ _ _ _
 refine AW.seq ?_
 obtain ⟨g17, H⟩ := grdc_s H
 obtain ⟨x18, e19, H⟩ := lt_s H
 obtain ⟨g21, H⟩ := grdc_s H
 obtain ⟨x22, e23, H⟩ := lt_s H
 refine AW.region ?_
 show AR _ _ _ _ _ [0, 1, 2, 3, 4, 5, 6, 7, 8, 9, 10, 11, 12, 13, 14, 15, 16, 17, 18] _
 refine sS rfl rfl rfl (mv rfl) ?_
 refine sS rfl rfl rfl (opS_nes rfl rfl) ?_
 refine sS rfl rfl rfl (mv rfl) ?_
 refine AR.meet (l := [7, 8, 9, 10, 11, 12, 13, 14, 15, 16, 17, 18]) 21 (B ((!decide (a1 = ([] : List UInt8))) && (decide ((a1.length : Int) ≤ 60)))) (fun K => ?_) ?_
 ·rcases Bool.eq_false_or_eq_true (!decide (a1 = ([] : List UInt8))) with h15 | h15
  ·
   refine gT h15 rfl rfl rfl rfl rfl rfl (AO.ops rfl rfl (mv rfl) ?_)
   refine gT h15 rfl rfl rfl rfl rfl rfl (AO.ops rfl rfl (opS_len_str Tryz.underlying9 rfl) ?_)
   refine gT h15 rfl rfl rfl rfl rfl rfl (AO.ops rfl rfl (opS_le rfl rfl) ?_)
   refine sS rfl rfl rfl (opS_pick_t (av := .v _) rfl h15 rfl) ?_
   exact K _ 3 _ (B_congr (and_t h15)) rfl rfl
  ·
   refine gF h15 rfl rfl rfl rfl rfl ?_
   refine gF h15 rfl rfl rfl rfl rfl ?_
   refine gF h15 rfl rfl rfl rfl rfl ?_
   refine sS rfl rfl rfl (opS_pick_f (av := .v _) rfl h15 rfl) ?_
   exact K _ 3 _ (B_congr (and_f h15)) rfl rfl
 refine sS rfl rfl rfl (mv rfl) ?_
 refine AR.meet (l := [13, 14, 15, 16, 17, 18]) 27 (B (((!decide (a1 = ([] : List UInt8))) && (decide ((a1.length : Int) ≤ 60))) && (decide (x18 = a1)))) (fun K => ?_) ?_
 ·rcases Bool.eq_false_or_eq_true ((!decide (a1 = ([] : List UInt8))) && (decide ((a1.length : Int) ≤ 60))) with h16 | h16
  ·
   refine gT h16 rfl rfl rfl rfl rfl rfl (AO.ops rfl rfl (mv rfl) ?_)
   refine gT h16 rfl rfl rfl rfl rfl rfl (AO.callp rfl en42_parta rfl (show ACalls _ _ _ [] (Ret (S x18) []) from by subst e19; exact lib_Trim1 a1 32 (by decide) (okS_s (g17 h16))) ?_)
   refine gT h16 rfl rfl rfl rfl rfl rfl (AO.ops rfl rfl (mv rfl) ?_)
   refine gT h16 rfl rfl rfl rfl rfl rfl (AO.ops rfl rfl (opS_eqs rfl rfl) ?_)
   refine sS rfl rfl rfl (opS_pick_t (av := .v _) rfl h16 rfl) ?_
   exact K _ 4 _ (B_congr (and_t h16)) rfl rfl
  ·
   refine gF h16 rfl rfl rfl rfl rfl ?_
   refine gF h16 rfl rfl rfl rfl rfl ?_
   refine gF h16 rfl rfl rfl rfl rfl ?_
   refine gF h16 rfl rfl rfl rfl rfl ?_
   refine sS rfl rfl rfl (opS_pick_f (av := .v _) rfl h16 rfl) ?_
   exact K _ 4 _ (B_congr (and_f h16)) rfl rfl
 refine sS rfl rfl rfl (mv rfl) ?_
 refine AR.meet (l := [18]) 32 (B ((((!decide (a1 = ([] : List UInt8))) && (decide ((a1.length : Int) ≤ 60))) && (decide (x18 = a1))) && (!x22))) (fun K => ?_) ?_
 ·rcases Bool.eq_false_or_eq_true (((!decide (a1 = ([] : List UInt8))) && (decide ((a1.length : Int) ≤ 60))) && (decide (x18 = a1))) with h20 | h20
  ·
   refine gT h20 rfl rfl rfl rfl rfl rfl (AO.ops rfl rfl (mv rfl) ?_)
   refine gT h20 rfl rfl rfl rfl rfl rfl (AO.callp rfl en43_parta rfl (show ACalls _ _ _ [] (Ret (B x22) []) from by subst e23; exact lib_Contains a1 ([32, 32] : List UInt8) (okS_s (g21 h20))) ?_)
   refine gT h20 rfl rfl rfl rfl rfl rfl (AO.ops rfl rfl (opS_not rfl) ?_)
   refine sS rfl rfl rfl (opS_pick_t (av := .v _) rfl h20 rfl) ?_
   exact K _ 3 _ (B_congr (and_t h20)) rfl rfl
  ·
   refine gF h20 rfl rfl rfl rfl rfl ?_
   refine gF h20 rfl rfl rfl rfl rfl ?_
   refine gF h20 rfl rfl rfl rfl rfl ?_
   refine sS rfl rfl rfl (opS_pick_f (av := .v _) rfl h20 rfl) ?_
   exact K _ 3 _ (B_congr (and_f h20)) rfl rfl
 refine sS rfl rfl rfl (asg rfl) ?_
 refine AR.nil ?_
 show AW _ _ _ _ _ _
 refine AW.ret ?_
 obtain rfl := Option.some.inj H
 exact And.intro rfl (Exists.intro _ (Exists.intro _ ⟨ResV.oneW rfl (.refl _), Sub.at [] rfl, rfl, rfl⟩))
set_option maxRecDepth 100000 in
set_option maxHeartbeats 1000000 in
theorem w_part_notC (F : Nat) (a1 : List UInt8) (r2 : Bool) (H : part_notC F a1 = some r2) : ACalls Tryz.prog 21 [S a1] [] (Ret (B r2) []) := by
 unfold part_notC at H
 refine ACalls.of_body Tryz.func21 rfl rfl ?_
 show AW _ _ 6 _ _ _
 refine AW.seq ?_
 refine AW.region ?_
 show AR _ _ _ _ _ [0] _
 refine sS rfl rfl rfl (asg rfl) ?_
 refine AR.nil ?_
 show AW _ _ _ _ _ _
 refine AW.seq ?_
 obtain ⟨x3, e4, H⟩ := bnd_s H
 refine AW.region ?_
 show AR _ _ _ _ _ [0, 1, 2, 3] _
 refine sS rfl rfl rfl (mv rfl) ?_
 refine AR.run rfl rfl (AO.callp rfl en22_parta rfl (w_part_kind F a1 x3 e4) ?_)
 refine sS rfl rfl rfl (opS_not rfl) ?_
 refine sS rfl rfl rfl (asg rfl) ?_
 refine AR.nil ?_
 show AW _ _ _ _ _ _
 refine AW.ret ?_
 obtain rfl := Option.some.inj H
 exact And.intro rfl (Exists.intro _ (Exists.intro _ ⟨ResV.oneW rfl (.refl _), Sub.at [] rfl, rfl, rfl⟩))
set_option maxRecDepth 100000 in
set_option maxHeartbeats 1000000 in
theorem w_part_IndexK (F : Nat) (a1 : List (List UInt8)) (q2 : Option Nat) (r3 : Int) (H : part_IndexK F a1 = some r3) : ACalls Tryz.prog 40 [slE Enc.str a1 q2, .v (.func (.func 21) #[] #[])] [] (Ret (i64 r3) []) := by
 unfold part_IndexK at H
 refine ACalls.of_body Tryz.func40 rfl rfl ?_
 show AW _ _ 19 _ _ _
 refine AW.seq ?_
 refine AW.region ?_
 show AR _ _ _ _ _ [0] _
 refine sS rfl rfl rfl (asg rfl) ?_
 refine AR.nil ?_
 show AW _ _ _ _ _ _
 refine AW.cut (X := Unit) (fun _ => ⟨[], [], []⟩) (fun _ => part_IndexK_j1 = some r3) ?_ ?_
 ·
  refine AW.seq ?_
  refine AW.region ?_
  show AR _ _ _ _ _ [0, 1, 2] _
  refine sS rfl rfl rfl (opS_move (av := slE _ _ _) rfl) ?_
  refine sS rfl rfl rfl (opS_len_sl Tryz.underlying22 rfl) ?_
  refine sS rfl rfl rfl (mv rfl) ?_
  refine AR.nil ?_
  show AW _ _ _ _ _ _
  refine AW.block ?_
  refine AW.loop (X := Nat × Int) (fun (n6, y4) => ⟨[(0, slE Enc.str a1 q2), (1, .v (.func (.func 21) #[] #[])), (7, i64 (a1.length : Int)), (8, i64 y4)], [], []⟩) (fun (n6, y4) => part_IndexK_L1 F a1 n6 y4 = some r3) (fun (n6, y4) => n6) (F, 0) H (WK.at [] (.cons (.refl _) (.cons (.refl _) (.cons (.refl _) (.cons (.refl _) (.nil _))))) rfl) ?_
  rintro ⟨n6, y4⟩ H
  obtain ⟨n6, rfl, H⟩ := loop_s H
  replace H : part_IndexK_B1 F a1 (part_IndexK_L1 F a1 n6) y4 = some r3 := H
  unfold part_IndexK_B1 at H
  show AW _ _ _ _ _ _
  refine AW.seq ?_
  refine AW.region ?_
  show AR _ _ _ _ _ [0] _
  refine sS rfl rfl rfl (opS_lt rfl rfl) ?_
  refine AR.nil ?_
  show AW _ _ _ _ _ _
  refine AW.seq ?_
  refine AW.cond rfl (fun c7 => ?_) (fun c7 => ?_)
  ·replace H := cnd_t c7 H
   refine AW.skip ?_
   show AW _ _ _ _ _ _
   refine AW.seq ?_
   refine AW.block ?_
   refine AW.seq ?_
   refine AW.region ?_
   show AR _ _ _ _ _ [0, 1] _
   refine sS rfl rfl rfl (mv rfl) ?_
   refine sS rfl rfl rfl (asg rfl) ?_
   refine AR.nil ?_
   show AW _ _ _ _ _ _
   refine AW.seq ?_
   obtain ⟨g8, H⟩ := grd_s H
   obtain ⟨x9, e10, H⟩ := lt_s H
   obtain ⟨x11, e12, H⟩ := bnd_s H
   refine AW.region ?_
   show AR _ _ _ _ _ [0, 1, 2, 3, 4, 5] _
   refine sS rfl rfl rfl (mv rfl) ?_
   refine sS rfl rfl rfl (opS_move (av := slE _ _ _) rfl) ?_
   refine sS rfl rfl rfl (mv rfl) ?_
   refine sS rfl rfl rfl (g_indexAddr (E := Enc.str) Tryz.underlying22 (by kernel_rfl) rfl rfl g8 e10) ?_
   refine sS rfl rfl rfl (opS_load_cp Tryz.underlying9 rfl rfl) ?_
   refine AR.run rfl rfl (AO.callFp rfl (.inr ⟨rfl, rfl, rfl⟩) en21_parta rfl (w_part_notC F x9 x11 e12) ?_)
   refine AR.nil ?_
   show AW _ _ _ _ _ _
   refine AW.cond rfl (fun c13 => ?_) (fun c13 => ?_)
   ·replace H := cnd_t c13 H
    refine AW.seq ?_
    refine AW.region ?_
    show AR _ _ _ _ _ [0, 1] _
    refine sS rfl rfl rfl (mv rfl) ?_
    refine sS rfl rfl rfl (asg rfl) ?_
    refine AR.nil ?_
    show AW _ _ _ _ _ _
    refine AW.ret ?_
    obtain rfl := Option.some.inj H
    exact And.intro rfl (Exists.intro _ (Exists.intro _ ⟨ResV.oneW rfl (.refl _), Sub.at [] rfl, rfl, rfl⟩))
   ·replace H := cnd_f c13 H
    refine AW.skip ?_
    show AW _ _ _ _ _ _
    obtain ⟨g14, H⟩ := grd_s H
    refine AW.region ?_
    show AR _ _ _ _ _ [0, 1] _
    refine sS rfl rfl rfl (g_add rfl rfl g14) ?_
    refine sS rfl rfl rfl (mv rfl) ?_
    refine AR.nil ?_
    exact Exists.intro (n6, y4 + 1) ⟨H, Nat.lt_succ_self _, WK.at [] (.cons (.refl _) (.cons (.refl _) (.cons (.refl _) (.cons (.refl _) (.nil _))))) rfl⟩
  ·replace H := cnd_f c7 H
   refine AW.exit ?_
   exact Exists.intro () ⟨H, WK.at [] (.nil _) rfl⟩
 rintro _ H
 replace H : part_IndexK_j1 = some r3 := H
 unfold part_IndexK_j1 at H
 show AW _ _ _ _ _ _
 refine AW.seq ?_
 refine AW.region ?_
 show AR _ _ _ _ _ [0] _
 refine sS rfl rfl rfl (asg rfl) ?_
 refine AR.nil ?_
 show AW _ _ _ _ _ _
 refine AW.ret ?_
 obtain rfl := Option.some.inj H
 exact And.intro rfl (Exists.intro _ (Exists.intro _ ⟨ResV.oneW rfl (.refl _), Sub.at [] rfl, rfl, rfl⟩))
set_option maxRecDepth 100000 in
set_option maxHeartbeats 1000000 in
theorem w_part_ContainsK (F : Nat) (a1 : List (List UInt8)) (q2 : Option Nat) (r3 : Bool) (H : part_ContainsK F a1 = some r3) : ACalls Tryz.prog 20 [slE Enc.str a1 q2, .v (.func (.func 21) #[] #[])] [] (Ret (B r3) []) := by
 unfold part_ContainsK at H
 refine ACalls.of_body Tryz.func20 rfl rfl ?_
 show AW _ _ 9 _ _ _
 refine AW.seq ?_
 refine AW.region ?_
 show AR _ _ _ _ _ [0] _
 refine sS rfl rfl rfl (asg rfl) ?_
 refine AR.nil ?_
 show AW _ _ _ _ _ _
 refine AW.seq ?_
 obtain ⟨x4, e5, H⟩ := bnd_s H
 refine AW.region ?_
 show AR _ _ _ _ _ [0, 1, 2, 3, 4] _
 refine sS rfl rfl rfl (opS_move (av := slE _ _ _) rfl) ?_
 refine sS rfl rfl rfl (mv rfl) ?_
 refine AR.run rfl rfl (AO.callp rfl en40_parta rfl (w_part_IndexK F a1 q2 x4 e5) ?_)
 refine sS rfl rfl rfl (opS_ge rfl rfl) ?_
 refine sS rfl rfl rfl (asg rfl) ?_
 refine AR.nil ?_
 show AW _ _ _ _ _ _
 refine AW.ret ?_
 obtain rfl := Option.some.inj H
 exact And.intro rfl (Exists.intro _ (Exists.intro _ ⟨ResV.oneW rfl (.refl _), Sub.at [] rfl, rfl, rfl⟩))
set_option maxRecDepth 100000 in
set_option maxHeartbeats 1000000 in
theorem w_part_put (F : Nat) (o1 : Nat) (a2 : List UInt8) (t3 : Nat) (a4 : List UInt8) (a5 : List UInt8) (a6 : List UInt8) (q7 : Option Nat) (r8 : List UInt8) (H : part_put F a2 a4 a5 a6 = some r8) : ACalls Tryz.prog 24 [.pt o1 0, S a5, slE Enc.byte a6 q7] [.obj o1 [slE Enc.byte a2 (some t3), S a4], .tok t3 5] (fun e A' => e = .ret (.tup []) ∧ ∃ t9, A' = [.obj o1 [slE Enc.byte r8 (some t9), S a4], .tok t9 5]) := by
 unfold part_put at H
 refine ACalls.of_body Tryz.func24 rfl rfl ?_
 show AW _ _ 42 _ _ _
 refine AW.seq ?_
 obtain ⟨x10, x11, e12, H⟩ := bnd2_s H
 refine AW.region ?_
 show AR _ _ _ _ _ [0, 1, 2, 3, 4, 5, 6, 7, 8, 9] _
 refine sS rfl rfl rfl (mv rfl) ?_
 refine sS rfl rfl rfl (g_build (zs := [.string ⟨#[]⟩, .string ⟨#[]⟩]) (ps := [(0, 1), (1, 1)]) (cs := [S ([67, 111, 110, 116, 101, 110, 116, 45, 84, 121, 112, 101] : List UInt8), S a5]) (by kernel_rfl) rfl rfl) ?_
 refine sS rfl rfl rfl (g_build (zs := [.string ⟨#[]⟩, .string ⟨#[]⟩]) (ps := [(0, 1), (1, 1)]) (cs := [S parta_k2, S ([113, 117, 111, 116, 101, 100, 45, 112, 114, 105, 110, 116, 97, 98, 108, 101] : List UInt8)]) (by kernel_rfl) rfl rfl) ?_
 refine sR rfl rfl rfl (opR_buildBig (E := (Enc.prod Enc.str Enc.str)) (bytes := 32) (zs := [.string ⟨#[]⟩, .string ⟨#[]⟩]) (l := ([(([67, 111, 110, 116, 101, 110, 116, 45, 84, 121, 112, 101] : List UInt8), a5), (parta_k2, ([113, 117, 111, 116, 101, 100, 45, 112, 114, 105, 110, 116, 97, 98, 108, 101] : List UInt8))] : List ((List UInt8) × List UInt8))) Tryz.underlying72 (by kernel_rfl) (by kernel_rfl) rfl rfl rfl rfl rfl) ?_
 refine AR.run rfl rfl (AO.callp rfl en46_parta rfl (w_head_All F ([(([67, 111, 110, 116, 101, 110, 116, 45, 84, 121, 112, 101] : List UInt8), a5), (parta_k2, ([113, 117, 111, 116, 101, 100, 45, 112, 114, 105, 110, 116, 97, 98, 108, 101] : List UInt8))] : List ((List UInt8) × List UInt8)) none x10 x11 e12) ?_)
 refine sS rfl rfl rfl (opS_move (av := .tup _) rfl) ?_
 refine sS rfl rfl rfl (opS_extract (av := slE _ _ _) rfl rfl) ?_
 refine sS rfl rfl rfl (opS_extract (av := .v _) rfl rfl) ?_
 refine sS rfl rfl rfl (opS_assign (av := slE _ _ _) rfl) ?_
 refine sS rfl rfl rfl (asg rfl) ?_
 refine AR.nil ?_
 show AW _ _ _ _ _ _
 refine AW.cut (X := (List UInt8) × Nat) (fun (y24, t25) => ⟨[(0, .pt o1 0), (2, slE Enc.byte a6 q7), (6, slE Enc.byte x10 none)], [], [.obj o1 [slE Enc.byte y24 (some t25), S a4], .tok t25 5]⟩) (fun (y24, t25) => part_put_j1 a6 x10 y24 = some r8) ?_ ?_
 ·
  obtain ⟨g13, H⟩ := grd_s H
  obtain ⟨x14, e15, H⟩ := lt_s H
  obtain ⟨g16, H⟩ := grd_s H
  obtain ⟨x17, e18, H⟩ := lt_s H
  obtain ⟨g20, H⟩ := grd_s H
  obtain ⟨x21, e22, H⟩ := lt_s H
  refine AW.region_draw (by kernel_rfl) ?_
  show AI _ _ _ _ _ 15 (Array.replicate 15 false) _
  refine AI.take (i := 0) rfl rfl (by kernel_rfl) (by kernel_rfl) (by kernel_rfl) (fun _ _ h => h) (opS_move (av := .pt _ _) rfl) ?_
  show AI _ _ _ _ _ _ #[true, false, false, false, false, false, false, false, false, false, false, false, false, false, false] _
  refine AI.take (i := 1) rfl rfl (by kernel_rfl) (by kernel_rfl) (by kernel_rfl) (fun _ _ h => h) (opS_move (av := .pt _ _) rfl) ?_
  show AI _ _ _ _ _ _ #[true, true, false, false, false, false, false, false, false, false, false, false, false, false, false] _
  refine AI.take (i := 2) rfl rfl (by kernel_rfl) (by kernel_rfl) (by kernel_rfl) (fun _ _ h => h) (opS_nilCheck_pt rfl) ?_
  show AI _ _ _ _ _ _ #[true, true, true, false, false, false, false, false, false, false, false, false, false, false, false] _
  refine AI.take (i := 3) rfl rfl (by kernel_rfl) (by kernel_rfl) (by kernel_rfl) (fun _ _ h => h) (opS_fieldAddr_pt (n := 0) (by kernel_rfl) rfl) ?_
  show AI _ _ _ _ _ _ #[true, true, true, true, false, false, false, false, false, false, false, false, false, false, false] _
  refine AI.take (i := 5) rfl rfl (by kernel_rfl) (by kernel_rfl) (by kernel_rfl) (fun _ _ h => h) (opS_move (av := .pt _ _) rfl) ?_
  show AI _ _ _ _ _ _ #[true, true, true, true, false, true, false, false, false, false, false, false, false, false, false] _
  refine AI.take (i := 6) rfl rfl (by kernel_rfl) (by kernel_rfl) (by kernel_rfl) (fun _ _ h => h) (opS_nilCheck_pt rfl) ?_
  show AI _ _ _ _ _ _ #[true, true, true, true, false, true, true, false, false, false, false, false, false, false, false] _
  refine AI.take (i := 7) rfl rfl (by kernel_rfl) (by kernel_rfl) (by kernel_rfl) (fun _ _ h => h) (opS_fieldAddr_pt (n := 1) (by kernel_rfl) rfl) ?_
  show AI _ _ _ _ _ _ #[true, true, true, true, false, true, true, true, false, false, false, false, false, false, false] _
  refine AI.two (i := 4) (j := 8) (by kernel_rfl) rfl rfl rfl rfl ?_ ?_
  ·
   refine AIO.op rfl (opR_load_pt (i := 0) Tryz.underlying26 rfl rfl rfl rfl) ?_
   show AI _ _ _ _ _ _ #[true, true, true, true, true, true, true, true, false, false, false, false, false, false, false] _
   refine AI.one (i := 8) (by kernel_rfl) rfl rfl ?_
   refine AIO.op rfl (opR_load_pt (i := 0) Tryz.underlying9 rfl rfl rfl rfl) ?_
   show AI _ _ _ _ _ _ #[true, true, true, true, true, true, true, true, true, false, false, false, false, false, false] _
   refine AI.take (i := 9) rfl rfl (by kernel_rfl) (by kernel_rfl) (by kernel_rfl) (fun _ _ h => h) (g_cat rfl rfl g13 e15) ?_
   show AI _ _ _ _ _ _ #[true, true, true, true, true, true, true, true, true, true, false, false, false, false, false] _
   refine AI.take (i := 10) rfl rfl (by kernel_rfl) (by kernel_rfl) (by kernel_rfl) (fun _ _ h => h) (g_cat rfl rfl g16 e18) ?_
   show AI _ _ _ _ _ _ #[true, true, true, true, true, true, true, true, true, true, true, false, false, false, false] _
   refine AI.one (i := 11) (by kernel_rfl) rfl rfl ?_
   refine AIO.opx rfl (g_append_str (bytes := 1) 1 Tryz.underlying26 Tryz.underlying9 rfl (by kernel_rfl) rfl rfl rfl rfl g20 e22) ?_
   rintro _ _ ⟨t19, rfl, rfl⟩
   show AI _ _ _ _ _ _ #[true, true, true, true, true, true, true, true, true, true, true, true, false, false, false] _
   refine AI.take (i := 12) rfl rfl (by kernel_rfl) (by kernel_rfl) (by kernel_rfl) (fun _ _ h => h) (opS_nilCheck_pt rfl) ?_
   show AI _ _ _ _ _ _ #[true, true, true, true, true, true, true, true, true, true, true, true, true, false, false] _
   refine AI.take (i := 13) rfl rfl (by kernel_rfl) (by kernel_rfl) (by kernel_rfl) (fun _ _ h => h) (opS_fieldAddr_pt (n := 0) (by kernel_rfl) rfl) ?_
   show AI _ _ _ _ _ _ #[true, true, true, true, true, true, true, true, true, true, true, true, true, true, false] _
   refine AI.one (i := 14) (by kernel_rfl) rfl rfl ?_
   refine AIO.op0 (opR_store_pt (i := 0) (c := slE _ _ _) (by kernel_rfl) rfl rfl rfl rfl (Nat.le_of_ble_eq_true rfl)) ?_
   show AI _ _ _ _ _ _ #[true, true, true, true, true, true, true, true, true, true, true, true, true, true, true] _
   refine AI.done rfl ?_
   exact Exists.intro (x21, t19) ⟨H, WK.at [0, 0] (.cons (.refl _) (.cons (.refl _) (.cons (.refl _) (.nil _)))) rfl⟩
  ·
   refine AIO.op rfl (opR_load_pt (i := 0) Tryz.underlying9 rfl rfl rfl rfl) ?_
   show AI _ _ _ _ _ _ #[true, true, true, true, false, true, true, true, true, false, false, false, false, false, false] _
   refine AI.take (i := 9) rfl rfl (by kernel_rfl) (by kernel_rfl) (by kernel_rfl) (fun _ _ h => h) (g_cat rfl rfl g13 e15) ?_
   show AI _ _ _ _ _ _ #[true, true, true, true, false, true, true, true, true, true, false, false, false, false, false] _
   refine AI.take (i := 10) rfl rfl (by kernel_rfl) (by kernel_rfl) (by kernel_rfl) (fun _ _ h => h) (g_cat rfl rfl g16 e18) ?_
   show AI _ _ _ _ _ _ #[true, true, true, true, false, true, true, true, true, true, true, false, false, false, false] _
   refine AI.one (i := 4) (by kernel_rfl) rfl rfl ?_
   refine AIO.op rfl (opR_load_pt (i := 0) Tryz.underlying26 rfl rfl rfl rfl) ?_
   show AI _ _ _ _ _ _ #[true, true, true, true, true, true, true, true, true, true, true, false, false, false, false] _
   refine AI.one (i := 11) (by kernel_rfl) rfl rfl ?_
   refine AIO.opx rfl (g_append_str (bytes := 1) 1 Tryz.underlying26 Tryz.underlying9 rfl (by kernel_rfl) rfl rfl rfl rfl g20 e22) ?_
   rintro _ _ ⟨t23, rfl, rfl⟩
   show AI _ _ _ _ _ _ #[true, true, true, true, true, true, true, true, true, true, true, true, false, false, false] _
   refine AI.take (i := 12) rfl rfl (by kernel_rfl) (by kernel_rfl) (by kernel_rfl) (fun _ _ h => h) (opS_nilCheck_pt rfl) ?_
   show AI _ _ _ _ _ _ #[true, true, true, true, true, true, true, true, true, true, true, true, true, false, false] _
   refine AI.take (i := 13) rfl rfl (by kernel_rfl) (by kernel_rfl) (by kernel_rfl) (fun _ _ h => h) (opS_fieldAddr_pt (n := 0) (by kernel_rfl) rfl) ?_
   show AI _ _ _ _ _ _ #[true, true, true, true, true, true, true, true, true, true, true, true, true, true, false] _
   refine AI.one (i := 14) (by kernel_rfl) rfl rfl ?_
   refine AIO.op0 (opR_store_pt (i := 0) (c := slE _ _ _) (by kernel_rfl) rfl rfl rfl rfl (Nat.le_of_ble_eq_true rfl)) ?_
   show AI _ _ _ _ _ _ #[true, true, true, true, true, true, true, true, true, true, true, true, true, true, true] _
   refine AI.done rfl ?_
   exact Exists.intro (x21, t23) ⟨H, WK.at [0, 0] (.cons (.refl _) (.cons (.refl _) (.cons (.refl _) (.nil _)))) rfl⟩
 rintro ⟨y24, t25⟩ H
 replace H : part_put_j1 a6 x10 y24 = some r8 := H
 unfold part_put_j1 at H
 show AW _ _ _ _ _ _
 obtain ⟨g28, H⟩ := grd_s H
 obtain ⟨x29, e30, H⟩ := lt_s H
 obtain ⟨g32, H⟩ := grd_s H
 obtain ⟨x33, e34, H⟩ := lt_s H
 obtain ⟨g36, H⟩ := grd_s H
 obtain ⟨x37, e38, H⟩ := lt_s H
 refine AW.region ?_
 show AR _ _ _ _ _ [0, 1, 2, 3, 4, 5, 6, 7, 8, 9, 10, 11, 12] _
 refine sS rfl rfl rfl (opS_move (av := .pt _ _) rfl) ?_
 refine sS rfl rfl rfl (opS_move (av := .pt _ _) rfl) ?_
 refine sS rfl rfl rfl (opS_nilCheck_pt rfl) ?_
 refine sS rfl rfl rfl (opS_fieldAddr_pt (n := 0) (by kernel_rfl) rfl) ?_
 refine sR rfl rfl rfl (opR_load_pt (i := 0) Tryz.underlying26 rfl rfl rfl rfl) ?_
 refine sS rfl rfl rfl (opS_move (av := slE _ _ _) rfl) ?_
 refine sX rfl rfl rfl (g_append (E := Enc.byte) (bytes := 1) 1 Tryz.underlying26 Tryz.underlying26 rfl (by kernel_rfl) rfl rfl rfl rfl g28 e30) ?_
 rintro _ _ ⟨t27, rfl, rfl⟩
 refine sS rfl rfl rfl (opS_move (av := slE _ _ _) rfl) ?_
 refine sX rfl rfl rfl (g_append (E := Enc.byte) (bytes := 1) 1 Tryz.underlying26 Tryz.underlying26 rfl (by kernel_rfl) rfl rfl rfl rfl g32 e34) ?_
 rintro _ _ ⟨t31, rfl, rfl⟩
 refine sX rfl rfl rfl (g_append_str (bytes := 1) 1 Tryz.underlying26 Tryz.underlying9 rfl (by kernel_rfl) rfl rfl rfl rfl g36 e38) ?_
 rintro _ _ ⟨t35, rfl, rfl⟩
 refine sS rfl rfl rfl (opS_nilCheck_pt rfl) ?_
 refine sS rfl rfl rfl (opS_fieldAddr_pt (n := 0) (by kernel_rfl) rfl) ?_
 refine s0 rfl rfl (opR_store_pt (i := 0) (c := slE _ _ _) (by kernel_rfl) rfl rfl rfl rfl (Nat.le_of_ble_eq_true rfl)) ?_
 refine AR.nil ?_
 obtain rfl := Option.some.inj H
 exact And.intro rfl (Exists.intro _ (Exists.intro _ ⟨ResV.noneW rfl, Sub.at [0, 0] rfl, rfl, t35, rfl⟩))
set_option maxRecDepth 100000 in
set_option maxHeartbeats 1000000 in
theorem w_part_Join (F : Nat) (a1 : List (List UInt8)) (q2 : Option Nat) (a3 : List (List UInt8)) (q4 : Option Nat) (r5 : List UInt8) (r6 : List UInt8) (r7 : Int) (H : part_Join F a1 a3 = some (r5, r6, r7)) : ACalls Tryz.prog 10 [slE Enc.str a1 q2, slE (Enc.sl Enc.byte) a3 q4] [] (Ret (.tup [slE Enc.byte r5 none, S r6, i64 r7]) []) := by
 unfold part_Join at H
 refine ACalls.of_body Tryz.func10 rfl rfl ?_
 show AW _ _ 82 _ _ _
 refine AW.seq ?_
 refine AW.region ?_
 show AR _ _ _ _ _ [0, 1, 2] _
 refine sS rfl rfl rfl (asg rfl) ?_
 refine sS rfl rfl rfl (asg rfl) ?_
 refine sS rfl rfl rfl (asg rfl) ?_
 refine AR.nil ?_
 show AW _ _ _ _ _ _
 refine AW.seq ?_
 refine AW.seq ?_
 obtain ⟨x11, e12, H⟩ := bndc_s H
 refine AW.region ?_
 show AR _ _ _ _ _ [0, 1, 2, 3, 4, 5, 6, 7, 8, 9, 10, 11, 12, 13, 14, 15, 16, 17, 18] _
 refine sS rfl rfl rfl (opS_move (av := slE _ _ _) rfl) ?_
 refine sS rfl rfl rfl (opS_len_sl Tryz.underlying22 rfl) ?_
 refine sS rfl rfl rfl (opS_move (av := slE _ _ _) rfl) ?_
 refine sS rfl rfl rfl (opS_len_sl Tryz.underlying23 rfl) ?_
 refine sS rfl rfl rfl (opS_nei rfl rfl) ?_
 refine sS rfl rfl rfl (mv rfl) ?_
 refine AR.meet (l := [10, 11, 12, 13, 14, 15, 16, 17, 18]) 23 (B ((!decide ((a1.length : Int) = (a3.length : Int))) || (decide ((a3.length : Int) = 0)))) (fun K => ?_) ?_
 ·rcases Bool.eq_false_or_eq_true (!decide ((a1.length : Int) = (a3.length : Int))) with h8 | h8
  ·
   refine gF h8 rfl rfl rfl rfl rfl ?_
   refine gF h8 rfl rfl rfl rfl rfl ?_
   refine gF h8 rfl rfl rfl rfl rfl ?_
   refine sS rfl rfl rfl (opS_pick_t (av := .v _) rfl h8 rfl) ?_
   exact K _ 3 _ (B_congr (or_t h8)) rfl rfl
  ·
   refine gT h8 rfl rfl rfl rfl rfl rfl (AO.ops rfl rfl (opS_move (av := slE _ _ _) rfl) ?_)
   refine gT h8 rfl rfl rfl rfl rfl rfl (AO.ops rfl rfl (opS_len_sl Tryz.underlying23 rfl) ?_)
   refine gT h8 rfl rfl rfl rfl rfl rfl (AO.ops rfl rfl (opS_eqi rfl rfl) ?_)
   refine sS rfl rfl rfl (opS_pick_f (av := .v _) rfl h8 rfl) ?_
   exact K _ 3 _ (B_congr (or_f h8)) rfl rfl
 refine sS rfl rfl rfl (mv rfl) ?_
 refine AR.meet (l := [15, 16, 17, 18]) 28 (B (((!decide ((a1.length : Int) = (a3.length : Int))) || (decide ((a3.length : Int) = 0))) || (decide (8 < (a3.length : Int))))) (fun K => ?_) ?_
 ·rcases Bool.eq_false_or_eq_true ((!decide ((a1.length : Int) = (a3.length : Int))) || (decide ((a3.length : Int) = 0))) with h9 | h9
  ·
   refine gF h9 rfl rfl rfl rfl rfl ?_
   refine gF h9 rfl rfl rfl rfl rfl ?_
   refine gF h9 rfl rfl rfl rfl rfl ?_
   refine sS rfl rfl rfl (opS_pick_t (av := .v _) rfl h9 rfl) ?_
   exact K _ 3 _ (B_congr (or_t h9)) rfl rfl
  ·
   refine gT h9 rfl rfl rfl rfl rfl rfl (AO.ops rfl rfl (opS_move (av := slE _ _ _) rfl) ?_)
   refine gT h9 rfl rfl rfl rfl rfl rfl (AO.ops rfl rfl (opS_len_sl Tryz.underlying23 rfl) ?_)
   refine gT h9 rfl rfl rfl rfl rfl rfl (AO.ops rfl rfl (opS_gt rfl rfl) ?_)
   refine sS rfl rfl rfl (opS_pick_f (av := .v _) rfl h9 rfl) ?_
   exact K _ 3 _ (B_congr (or_f h9)) rfl rfl
 refine sS rfl rfl rfl (mv rfl) ?_
 refine AR.meet (l := []) 32 (B ((((!decide ((a1.length : Int) = (a3.length : Int))) || (decide ((a3.length : Int) = 0))) || (decide (8 < (a3.length : Int)))) || x11)) (fun K => ?_) ?_
 ·rcases Bool.eq_false_or_eq_true (((!decide ((a1.length : Int) = (a3.length : Int))) || (decide ((a3.length : Int) = 0))) || (decide (8 < (a3.length : Int)))) with h10 | h10
  ·
   refine gF h10 rfl rfl rfl rfl rfl ?_
   refine gF h10 rfl rfl rfl rfl rfl ?_
   refine sS rfl rfl rfl (opS_pick_t (av := .v _) rfl h10 rfl) ?_
   exact K _ 2 _ (B_congr (or_t h10)) rfl rfl
  ·
   refine gT h10 rfl rfl rfl rfl rfl rfl (AO.ops rfl rfl (opS_move (av := slE _ _ _) rfl) ?_)
   refine gT h10 rfl rfl rfl rfl rfl rfl (AO.callp rfl en20_parta rfl (w_part_ContainsK F a1 q2 x11 (e12 (nf h10))) ?_)
   refine sS rfl rfl rfl (opS_pick_f (av := .v _) rfl h10 rfl) ?_
   exact K _ 2 _ (B_congr (or_f h10)) rfl rfl
 refine AR.nil ?_
 show AW _ _ _ _ _ _
 refine AW.cond rfl (fun c13 => ?_) (fun c13 => ?_)
 ·replace H := cnd_t c13 H
  refine AW.seq ?_
  refine AW.region ?_
  show AR _ _ _ _ _ [0, 1, 2] _
  refine sS rfl rfl rfl (asg rfl) ?_
  refine sS rfl rfl rfl (asg rfl) ?_
  refine sS rfl rfl rfl (asg rfl) ?_
  refine AR.nil ?_
  show AW _ _ _ _ _ _
  refine AW.ret ?_
  obtain ⟨rfl, rfl, rfl⟩ := res3 H
  exact And.intro rfl (Exists.intro _ (Exists.intro _ ⟨ResV.threeW rfl (.nil _) (.refl _) (.refl _), Sub.at [] rfl, rfl, rfl⟩))
 ·replace H := cnd_f c13 H
  refine AW.skip ?_
  show AW _ _ _ _ _ _
  refine AW.seq ?_
  refine AW.region ?_
  show AR _ _ _ _ _ [0] _
  refine sS rfl rfl rfl (asg rfl) ?_
  refine AR.nil ?_
  show AW _ _ _ _ _ _
  refine AW.nil_grows 7 1 26 rfl fun t14 => ?_
  show AW _ _ _ _ _ ⟨(7, slE (Enc.sl Enc.byte) [] (some t14)) :: _, _, _⟩
  refine AW.cut (X := (List (List UInt8)) × Nat) (fun (y31, t32) => ⟨[(0, slE Enc.str a1 q2), (7, slE (Enc.sl Enc.byte) y31 (some t32))], [], [.tok t32 26]⟩) (fun (y31, t32) => part_Join_j2 F a1 y31 = some (r5, r6, r7)) ?_ ?_
  ·
   refine AW.seq ?_
   refine AW.region ?_
   show AR _ _ _ _ _ [0, 1, 2] _
   refine sS rfl rfl rfl (opS_move (av := slE _ _ _) rfl) ?_
   refine sS rfl rfl rfl (opS_len_sl Tryz.underlying23 rfl) ?_
   refine sS rfl rfl rfl (mv rfl) ?_
   refine AR.nil ?_
   show AW _ _ _ _ _ _
   refine AW.block ?_
   refine AW.loop (X := Nat × (List (List UInt8)) × Nat × Int) (fun (n19, y15, t16, y17) => ⟨[(0, slE Enc.str a1 q2), (7, slE (Enc.sl Enc.byte) y15 (some t16)), (33, slE (Enc.sl Enc.byte) a3 q4), (34, i64 (a3.length : Int)), (35, i64 y17)], [], [.tok t16 26]⟩) (fun (n19, y15, t16, y17) => part_Join_L2 F a1 a3 n19 (y15, y17) = some (r5, r6, r7)) (fun (n19, y15, t16, y17) => n19) (F, [], t14, 0) H (WK.at [0] (.cons (.refl _) (.cons (.refl _) (.cons (.refl _) (.cons (.refl _) (.cons (.refl _) (.nil _)))))) rfl) ?_
   rintro ⟨n19, y15, t16, y17⟩ H
   obtain ⟨n19, rfl, H⟩ := loop_s H
   replace H : part_Join_B2 F a1 a3 (part_Join_L2 F a1 a3 n19) y15 y17 = some (r5, r6, r7) := H
   unfold part_Join_B2 at H
   show AW _ _ _ _ _ _
   refine AW.seq ?_
   refine AW.region ?_
   show AR _ _ _ _ _ [0] _
   refine sS rfl rfl rfl (opS_lt rfl rfl) ?_
   refine AR.nil ?_
   show AW _ _ _ _ _ _
   refine AW.seq ?_
   refine AW.cond rfl (fun c20 => ?_) (fun c20 => ?_)
   ·replace H := cnd_t c20 H
    refine AW.skip ?_
    show AW _ _ _ _ _ _
    refine AW.seq ?_
    refine AW.block ?_
    refine AW.seq ?_
    obtain ⟨g21, H⟩ := grd_s H
    obtain ⟨x22, e23, H⟩ := lt_s H
    refine AW.region ?_
    show AR _ _ _ _ _ [0, 1, 2] _
    refine sS rfl rfl rfl (g_indexAddr (E := (Enc.sl Enc.byte)) Tryz.underlying23 (by kernel_rfl) rfl rfl g21 e23) ?_
    refine sS rfl rfl rfl (opS_load_cp Tryz.underlying26 rfl rfl) ?_
    refine sS rfl rfl rfl (opS_assign (av := slE _ _ _) rfl) ?_
    refine AR.nil ?_
    show AW _ _ _ _ _ _
    obtain ⟨x24, e25, H⟩ := bnd_s H
    obtain ⟨g27, H⟩ := grd_s H
    obtain ⟨x28, e29, H⟩ := lt_s H
    refine AW.region ?_
    show AR _ _ _ _ _ [0, 1, 2, 3, 4, 5] _
    refine sS rfl rfl rfl (opS_move (av := slE _ _ _) rfl) ?_
    refine sS rfl rfl rfl (opS_move (av := slE _ _ _) rfl) ?_
    refine AR.run rfl rfl (AO.callp rfl en23_parta rfl (w_qp_Encode F x22 none x24 e25) ?_)
    refine sR rfl rfl rfl (opR_buildE (E := (Enc.sl Enc.byte)) (bytes := 24) (xs := [.tmp 41]) (l := ([x24] : List (List UInt8))) Tryz.underlying23 (by kernel_rfl) rfl rfl (by decide) rfl rfl) ?_
    refine sX rfl rfl rfl (g_append (E := (Enc.sl Enc.byte)) (bytes := 24) 0 Tryz.underlying23 Tryz.underlying23 rfl (by kernel_rfl) rfl rfl rfl rfl g27 e29) ?_
    rintro _ _ ⟨t26, rfl, rfl⟩
    refine sS rfl rfl rfl (opS_assign (av := slE _ _ _) rfl) ?_
    refine AR.nil ?_
    show AW _ _ _ _ _ _
    obtain ⟨g30, H⟩ := grd_s H
    refine AW.region ?_
    show AR _ _ _ _ _ [0, 1] _
    refine sS rfl rfl rfl (g_add rfl rfl g30) ?_
    refine sS rfl rfl rfl (mv rfl) ?_
    refine AR.nil ?_
    exact Exists.intro (n19, x28, t26, y17 + 1) ⟨H, Nat.lt_succ_self _, WK.at [0] (.cons (.refl _) (.cons (.refl _) (.cons (.refl _) (.cons (.refl _) (.cons (.refl _) (.nil _)))))) rfl⟩
   ·replace H := cnd_f c20 H
    refine AW.exit ?_
    exact Exists.intro (y15, t16) ⟨H, WK.at [0] (.cons (.refl _) (.cons (.refl _) (.nil _))) rfl⟩
  rintro ⟨y31, t32⟩ H
  replace H : part_Join_j2 F a1 y31 = some (r5, r6, r7) := H
  unfold part_Join_j2 at H
  show AW _ _ _ _ _ _
  refine AW.seq ?_
  obtain ⟨x34, e35, H⟩ := bnd_s H
  refine AW.region ?_
  show AR _ _ _ _ _ [0, 1, 2, 3, 4] _
  refine sS rfl rfl rfl (opS_move (av := slE _ _ _) rfl) ?_
  refine AR.run rfl rfl (AO.callp rfl en12_parta rfl (w_part_Boundary F y31 (some t32) x34 e35) ?_)
  refine sS rfl rfl rfl (g_build (zs := [.slice none 0 0, .string ⟨#[]⟩]) (ps := [(0, 1), (1, 1)]) (cs := [nilS, S x34]) (by kernel_rfl) rfl rfl) ?_
  refine sX rfl rfl rfl (opX_box rfl (.inr ⟨_, rfl⟩)) ?_
  rintro _ _ ⟨o36, rfl, rfl⟩
  refine sS rfl rfl rfl (opS_assign (av := .pt _ _) rfl) ?_
  refine AR.nil ?_
  show AW _ _ _ _ _ _
  refine AW.nil_objAt 0 0 1 5 rfl rfl fun t37 => ?_
  show AW _ _ _ _ _ ⟨_, _, [.tok t37 5, .obj o36 [slE Enc.byte [] (some t37), S x34], .tok t32 26]⟩
  refine AW.seq ?_
  refine AW.region ?_
  show AR _ _ _ _ _ [0, 1, 2] _
  refine sS rfl rfl rfl (opS_move (av := .pt _ _) rfl) ?_
  refine sS rfl rfl rfl (opS_makeFunc rfl rfl) ?_
  refine sS rfl rfl rfl (opS_assign (av := .fn _ _ _) rfl) ?_
  refine AR.nil ?_
  show AW _ _ _ _ _ _
  refine AW.cut (X := (List UInt8) × Nat) (fun (y54, t55) => ⟨[(10, .pt o36 0)], [], [.obj o36 [slE Enc.byte y54 (some t55), S x34], .tok t55 5]⟩) (fun (y54, t55) => part_Join_j1 x34 y54 = some (r5, r6, r7)) ?_ ?_
  ·
   refine AW.seq ?_
   refine AW.region ?_
   show AR _ _ _ _ _ [0, 1, 2] _
   refine sS rfl rfl rfl (opS_move (av := slE _ _ _) rfl) ?_
   refine sS rfl rfl rfl (opS_len_sl Tryz.underlying23 rfl) ?_
   refine sS rfl rfl rfl (mv rfl) ?_
   refine AR.nil ?_
   show AW _ _ _ _ _ _
   refine AW.block ?_
   refine AW.loop (X := Nat × Int × (List UInt8) × Nat) (fun (n42, y38, y39, t40) => ⟨[(0, slE Enc.str a1 q2), (10, .pt o36 0), (11, .fn (.func 24) [.pt o36 0] []), (51, slE (Enc.sl Enc.byte) y31 (some t32)), (52, i64 (y31.length : Int)), (53, i64 y38)], [], [.obj o36 [slE Enc.byte y39 (some t40), S x34], .tok t32 26, .tok t40 5]⟩) (fun (n42, y38, y39, t40) => part_Join_L1 F a1 y31 x34 n42 (y38, y39) = some (r5, r6, r7)) (fun (n42, y38, y39, t40) => n42) (F, 0, [], t37) H (WK.at [1, 1, 0] (.cons (.refl _) (.cons (.refl _) (.cons (.refl _) (.cons (.refl _) (.cons (.refl _) (.cons (.refl _) (.nil _))))))) rfl) ?_
   rintro ⟨n42, y38, y39, t40⟩ H
   obtain ⟨n42, rfl, H⟩ := loop_s H
   replace H : part_Join_B1 F a1 y31 x34 (part_Join_L1 F a1 y31 x34 n42) y38 y39 = some (r5, r6, r7) := H
   unfold part_Join_B1 at H
   show AW _ _ _ _ _ _
   refine AW.seq ?_
   refine AW.region ?_
   show AR _ _ _ _ _ [0] _
   refine sS rfl rfl rfl (opS_lt rfl rfl) ?_
   refine AR.nil ?_
   show AW _ _ _ _ _ _
   refine AW.seq ?_
   refine AW.cond rfl (fun c43 => ?_) (fun c43 => ?_)
   ·replace H := cnd_t c43 H
    refine AW.skip ?_
    show AW _ _ _ _ _ _
    refine AW.seq ?_
    refine AW.block ?_
    refine AW.seq ?_
    obtain ⟨g44, H⟩ := grd_s H
    obtain ⟨x45, e46, H⟩ := lt_s H
    refine AW.region ?_
    show AR _ _ _ _ _ [0, 1, 2, 3, 4] _
    refine sS rfl rfl rfl (mv rfl) ?_
    refine sS rfl rfl rfl (g_indexAddr (E := (Enc.sl Enc.byte)) Tryz.underlying23 (by kernel_rfl) rfl rfl g44 e46) ?_
    refine sS rfl rfl rfl (opS_load_cp Tryz.underlying26 rfl rfl) ?_
    refine sS rfl rfl rfl (asg rfl) ?_
    refine sS rfl rfl rfl (opS_assign (av := slE _ _ _) rfl) ?_
    refine AR.nil ?_
    show AW _ _ _ _ _ _
    obtain ⟨g47, H⟩ := grd_s H
    obtain ⟨x48, e49, H⟩ := lt_s H
    obtain ⟨x50, e51, H⟩ := bnd_s H
    refine AW.region ?_
    show AR _ _ _ _ _ [0, 1, 2, 3, 4, 5, 6] _
    refine sS rfl rfl rfl (opS_move (av := .fn _ _ _) rfl) ?_
    refine sS rfl rfl rfl (opS_move (av := slE _ _ _) rfl) ?_
    refine sS rfl rfl rfl (mv rfl) ?_
    refine sS rfl rfl rfl (g_indexAddr (E := Enc.str) Tryz.underlying22 (by kernel_rfl) rfl rfl g47 e49) ?_
    refine sS rfl rfl rfl (opS_load_cp Tryz.underlying9 rfl rfl) ?_
    refine sS rfl rfl rfl (opS_move (av := slE _ _ _) rfl) ?_
    refine AR.run rfl rfl (AO.callFAt [0, 1] rfl (.inl rfl) en24_parta rfl (w_part_put F o36 y39 t40 x34 x48 x45 none x50 e51) rfl (fun c A' h => by cases h.1) ?_)
    rintro av A' ⟨h, t52, rfl⟩; cases h
    refine AR.nil ?_
    show AW _ _ _ _ _ _
    obtain ⟨g53, H⟩ := grd_s H
    refine AW.region ?_
    show AR _ _ _ _ _ [0, 1] _
    refine sS rfl rfl rfl (g_add rfl rfl g53) ?_
    refine sS rfl rfl rfl (mv rfl) ?_
    refine AR.nil ?_
    exact Exists.intro (n42, y38 + 1, x50, t52) ⟨H, Nat.lt_succ_self _, WK.at [0, 1, 0] (.cons (.refl _) (.cons (.refl _) (.cons (.refl _) (.cons (.refl _) (.cons (.refl _) (.cons (.refl _) (.nil _))))))) rfl⟩
   ·replace H := cnd_f c43 H
    refine AW.exit ?_
    exact Exists.intro (y39, t40) ⟨H, WK.at [0, 1] (.cons (.refl _) (.nil _)) rfl⟩
  rintro ⟨y54, t55⟩ H
  replace H : part_Join_j1 x34 y54 = some (r5, r6, r7) := H
  unfold part_Join_j1 at H
  show AW _ _ _ _ _ _
  refine AW.seq ?_
  obtain ⟨g57, H⟩ := grd_s H
  obtain ⟨x58, e59, H⟩ := lt_s H
  obtain ⟨g60, H⟩ := grd_s H
  obtain ⟨x61, e62, H⟩ := lt_s H
  obtain ⟨g63, H⟩ := grd_s H
  obtain ⟨x64, e65, H⟩ := lt_s H
  obtain ⟨g67, H⟩ := grd_s H
  obtain ⟨x68, e69, H⟩ := lt_s H
  refine AW.region_draw (by kernel_rfl) ?_
  show AI _ _ _ _ _ 19 (Array.replicate 19 false) _
  refine AI.take (i := 0) rfl rfl (by kernel_rfl) (by kernel_rfl) (by kernel_rfl) (fun _ _ h => h) (opS_move (av := .pt _ _) rfl) ?_
  show AI _ _ _ _ _ _ #[true, false, false, false, false, false, false, false, false, false, false, false, false, false, false, false, false, false, false] _
  refine AI.take (i := 1) rfl rfl (by kernel_rfl) (by kernel_rfl) (by kernel_rfl) (fun _ _ h => h) (opS_nilCheck_pt rfl) ?_
  show AI _ _ _ _ _ _ #[true, true, false, false, false, false, false, false, false, false, false, false, false, false, false, false, false, false, false] _
  refine AI.take (i := 2) rfl rfl (by kernel_rfl) (by kernel_rfl) (by kernel_rfl) (fun _ _ h => h) (opS_fieldAddr_pt (n := 0) (by kernel_rfl) rfl) ?_
  show AI _ _ _ _ _ _ #[true, true, true, false, false, false, false, false, false, false, false, false, false, false, false, false, false, false, false] _
  refine AI.take (i := 4) rfl rfl (by kernel_rfl) (by kernel_rfl) (by kernel_rfl) (fun _ _ h => h) (opS_move (av := .pt _ _) rfl) ?_
  show AI _ _ _ _ _ _ #[true, true, true, false, true, false, false, false, false, false, false, false, false, false, false, false, false, false, false] _
  refine AI.take (i := 5) rfl rfl (by kernel_rfl) (by kernel_rfl) (by kernel_rfl) (fun _ _ h => h) (opS_nilCheck_pt rfl) ?_
  show AI _ _ _ _ _ _ #[true, true, true, false, true, true, false, false, false, false, false, false, false, false, false, false, false, false, false] _
  refine AI.take (i := 6) rfl rfl (by kernel_rfl) (by kernel_rfl) (by kernel_rfl) (fun _ _ h => h) (opS_fieldAddr_pt (n := 1) (by kernel_rfl) rfl) ?_
  show AI _ _ _ _ _ _ #[true, true, true, false, true, true, true, false, false, false, false, false, false, false, false, false, false, false, false] _
  refine AI.take (i := 12) rfl rfl (by kernel_rfl) (by kernel_rfl) (by kernel_rfl) (fun _ _ h => h) (opS_move (av := .pt _ _) rfl) ?_
  show AI _ _ _ _ _ _ #[true, true, true, false, true, true, true, false, false, false, false, false, true, false, false, false, false, false, false] _
  refine AI.take (i := 13) rfl rfl (by kernel_rfl) (by kernel_rfl) (by kernel_rfl) (fun _ _ h => h) (opS_nilCheck_pt rfl) ?_
  show AI _ _ _ _ _ _ #[true, true, true, false, true, true, true, false, false, false, false, false, true, true, false, false, false, false, false] _
  refine AI.take (i := 14) rfl rfl (by kernel_rfl) (by kernel_rfl) (by kernel_rfl) (fun _ _ h => h) (opS_fieldAddr_pt (n := 1) (by kernel_rfl) rfl) ?_
  show AI _ _ _ _ _ _ #[true, true, true, false, true, true, true, false, false, false, false, false, true, true, true, false, false, false, false] _
  refine AI.three (i := 3) (j := 7) (l := 15) (by kernel_rfl) rfl rfl rfl rfl rfl rfl ?_ ?_ ?_
  ·
   refine AIO.op rfl (opR_load_pt (i := 0) Tryz.underlying26 rfl rfl rfl rfl) ?_
   show AI _ _ _ _ _ _ #[true, true, true, true, true, true, true, false, false, false, false, false, true, true, true, false, false, false, false] _
   refine AI.two (i := 7) (j := 15) (by kernel_rfl) rfl rfl rfl rfl ?_ ?_
   ·
    refine AIO.op rfl (opR_load_pt (i := 0) Tryz.underlying9 rfl rfl rfl rfl) ?_
    show AI _ _ _ _ _ _ #[true, true, true, true, true, true, true, true, false, false, false, false, true, true, true, false, false, false, false] _
    refine AI.take (i := 8) rfl rfl (by kernel_rfl) (by kernel_rfl) (by kernel_rfl) (fun _ _ h => h) (g_cat rfl rfl g57 e59) ?_
    show AI _ _ _ _ _ _ #[true, true, true, true, true, true, true, true, true, false, false, false, true, true, true, false, false, false, false] _
    refine AI.take (i := 9) rfl rfl (by kernel_rfl) (by kernel_rfl) (by kernel_rfl) (fun _ _ h => h) (g_cat rfl rfl g60 e62) ?_
    show AI _ _ _ _ _ _ #[true, true, true, true, true, true, true, true, true, true, false, false, true, true, true, false, false, false, false] _
    refine AI.take (i := 10) rfl rfl (by kernel_rfl) (by kernel_rfl) (by kernel_rfl) (fun _ _ h => h) (g_cat rfl rfl g63 e65) ?_
    show AI _ _ _ _ _ _ #[true, true, true, true, true, true, true, true, true, true, true, false, true, true, true, false, false, false, false] _
    refine AI.two (i := 11) (j := 15) (by kernel_rfl) rfl rfl rfl rfl ?_ ?_
    ·
     refine AIO.opx rfl (g_append_str (bytes := 1) 1 Tryz.underlying26 Tryz.underlying9 rfl (by kernel_rfl) rfl rfl rfl rfl g67 e69) ?_
     rintro _ _ ⟨t66, rfl, rfl⟩
     show AI _ _ _ _ _ _ #[true, true, true, true, true, true, true, true, true, true, true, true, true, true, true, false, false, false, false] _
     refine AI.take (i := 16) rfl rfl (by kernel_rfl) (by kernel_rfl) (by kernel_rfl) (fun _ _ h => h) (opS_assign (av := slE _ _ _) rfl) ?_
     show AI _ _ _ _ _ _ #[true, true, true, true, true, true, true, true, true, true, true, true, true, true, true, false, true, false, false] _
     refine AI.one (i := 15) (by kernel_rfl) rfl rfl ?_
     refine AIO.op rfl (opR_load_pt (i := 0) Tryz.underlying9 rfl rfl rfl rfl) ?_
     show AI _ _ _ _ _ _ #[true, true, true, true, true, true, true, true, true, true, true, true, true, true, true, true, true, false, false] _
     refine AI.take (i := 17) rfl rfl (by kernel_rfl) (by kernel_rfl) (by kernel_rfl) (fun _ _ h => h) (asg rfl) ?_
     show AI _ _ _ _ _ _ #[true, true, true, true, true, true, true, true, true, true, true, true, true, true, true, true, true, true, false] _
     refine AI.take (i := 18) rfl rfl (by kernel_rfl) (by kernel_rfl) (by kernel_rfl) (fun _ _ h => h) (asg rfl) ?_
     show AI _ _ _ _ _ _ #[true, true, true, true, true, true, true, true, true, true, true, true, true, true, true, true, true, true, true] _
     refine AI.done rfl ?_
     show AW _ _ _ _ _ _
     refine AW.ret ?_
     obtain ⟨rfl, rfl, rfl⟩ := res3 H
     exact And.intro rfl (Exists.intro _ (Exists.intro _ ⟨ResV.threeW rfl (.tok _ _ _) (.refl _) (.refl _), Sub.at [] rfl, rfl, rfl⟩))
    ·
     refine AIO.op rfl (opR_load_pt (i := 0) Tryz.underlying9 rfl rfl rfl rfl) ?_
     show AI _ _ _ _ _ _ #[true, true, true, true, true, true, true, true, true, true, true, false, true, true, true, true, false, false, false] _
     refine AI.one (i := 11) (by kernel_rfl) rfl rfl ?_
     refine AIO.opx rfl (g_append_str (bytes := 1) 1 Tryz.underlying26 Tryz.underlying9 rfl (by kernel_rfl) rfl rfl rfl rfl g67 e69) ?_
     rintro _ _ ⟨t70, rfl, rfl⟩
     show AI _ _ _ _ _ _ #[true, true, true, true, true, true, true, true, true, true, true, true, true, true, true, true, false, false, false] _
     refine AI.take (i := 16) rfl rfl (by kernel_rfl) (by kernel_rfl) (by kernel_rfl) (fun _ _ h => h) (opS_assign (av := slE _ _ _) rfl) ?_
     show AI _ _ _ _ _ _ #[true, true, true, true, true, true, true, true, true, true, true, true, true, true, true, true, true, false, false] _
     refine AI.take (i := 17) rfl rfl (by kernel_rfl) (by kernel_rfl) (by kernel_rfl) (fun _ _ h => h) (asg rfl) ?_
     show AI _ _ _ _ _ _ #[true, true, true, true, true, true, true, true, true, true, true, true, true, true, true, true, true, true, false] _
     refine AI.take (i := 18) rfl rfl (by kernel_rfl) (by kernel_rfl) (by kernel_rfl) (fun _ _ h => h) (asg rfl) ?_
     show AI _ _ _ _ _ _ #[true, true, true, true, true, true, true, true, true, true, true, true, true, true, true, true, true, true, true] _
     refine AI.done rfl ?_
     show AW _ _ _ _ _ _
     refine AW.ret ?_
     obtain ⟨rfl, rfl, rfl⟩ := res3 H
     exact And.intro rfl (Exists.intro _ (Exists.intro _ ⟨ResV.threeW rfl (.tok _ _ _) (.refl _) (.refl _), Sub.at [] rfl, rfl, rfl⟩))
   ·
    refine AIO.op rfl (opR_load_pt (i := 0) Tryz.underlying9 rfl rfl rfl rfl) ?_
    show AI _ _ _ _ _ _ #[true, true, true, true, true, true, true, false, false, false, false, false, true, true, true, true, false, false, false] _
    refine AI.one (i := 7) (by kernel_rfl) rfl rfl ?_
    refine AIO.op rfl (opR_load_pt (i := 0) Tryz.underlying9 rfl rfl rfl rfl) ?_
    show AI _ _ _ _ _ _ #[true, true, true, true, true, true, true, true, false, false, false, false, true, true, true, true, false, false, false] _
    refine AI.take (i := 8) rfl rfl (by kernel_rfl) (by kernel_rfl) (by kernel_rfl) (fun _ _ h => h) (g_cat rfl rfl g57 e59) ?_
    show AI _ _ _ _ _ _ #[true, true, true, true, true, true, true, true, true, false, false, false, true, true, true, true, false, false, false] _
    refine AI.take (i := 9) rfl rfl (by kernel_rfl) (by kernel_rfl) (by kernel_rfl) (fun _ _ h => h) (g_cat rfl rfl g60 e62) ?_
    show AI _ _ _ _ _ _ #[true, true, true, true, true, true, true, true, true, true, false, false, true, true, true, true, false, false, false] _
    refine AI.take (i := 10) rfl rfl (by kernel_rfl) (by kernel_rfl) (by kernel_rfl) (fun _ _ h => h) (g_cat rfl rfl g63 e65) ?_
    show AI _ _ _ _ _ _ #[true, true, true, true, true, true, true, true, true, true, true, false, true, true, true, true, false, false, false] _
    refine AI.one (i := 11) (by kernel_rfl) rfl rfl ?_
    refine AIO.opx rfl (g_append_str (bytes := 1) 1 Tryz.underlying26 Tryz.underlying9 rfl (by kernel_rfl) rfl rfl rfl rfl g67 e69) ?_
    rintro _ _ ⟨t71, rfl, rfl⟩
    show AI _ _ _ _ _ _ #[true, true, true, true, true, true, true, true, true, true, true, true, true, true, true, true, false, false, false] _
    refine AI.take (i := 16) rfl rfl (by kernel_rfl) (by kernel_rfl) (by kernel_rfl) (fun _ _ h => h) (opS_assign (av := slE _ _ _) rfl) ?_
    show AI _ _ _ _ _ _ #[true, true, true, true, true, true, true, true, true, true, true, true, true, true, true, true, true, false, false] _
    refine AI.take (i := 17) rfl rfl (by kernel_rfl) (by kernel_rfl) (by kernel_rfl) (fun _ _ h => h) (asg rfl) ?_
    show AI _ _ _ _ _ _ #[true, true, true, true, true, true, true, true, true, true, true, true, true, true, true, true, true, true, false] _
    refine AI.take (i := 18) rfl rfl (by kernel_rfl) (by kernel_rfl) (by kernel_rfl) (fun _ _ h => h) (asg rfl) ?_
    show AI _ _ _ _ _ _ #[true, true, true, true, true, true, true, true, true, true, true, true, true, true, true, true, true, true, true] _
    refine AI.done rfl ?_
    show AW _ _ _ _ _ _
    refine AW.ret ?_
    obtain ⟨rfl, rfl, rfl⟩ := res3 H
    exact And.intro rfl (Exists.intro _ (Exists.intro _ ⟨ResV.threeW rfl (.tok _ _ _) (.refl _) (.refl _), Sub.at [] rfl, rfl, rfl⟩))
  ·
   refine AIO.op rfl (opR_load_pt (i := 0) Tryz.underlying9 rfl rfl rfl rfl) ?_
   show AI _ _ _ _ _ _ #[true, true, true, false, true, true, true, true, false, false, false, false, true, true, true, false, false, false, false] _
   refine AI.take (i := 8) rfl rfl (by kernel_rfl) (by kernel_rfl) (by kernel_rfl) (fun _ _ h => h) (g_cat rfl rfl g57 e59) ?_
   show AI _ _ _ _ _ _ #[true, true, true, false, true, true, true, true, true, false, false, false, true, true, true, false, false, false, false] _
   refine AI.take (i := 9) rfl rfl (by kernel_rfl) (by kernel_rfl) (by kernel_rfl) (fun _ _ h => h) (g_cat rfl rfl g60 e62) ?_
   show AI _ _ _ _ _ _ #[true, true, true, false, true, true, true, true, true, true, false, false, true, true, true, false, false, false, false] _
   refine AI.take (i := 10) rfl rfl (by kernel_rfl) (by kernel_rfl) (by kernel_rfl) (fun _ _ h => h) (g_cat rfl rfl g63 e65) ?_
   show AI _ _ _ _ _ _ #[true, true, true, false, true, true, true, true, true, true, true, false, true, true, true, false, false, false, false] _
   refine AI.two (i := 3) (j := 15) (by kernel_rfl) rfl rfl rfl rfl ?_ ?_
   ·
    refine AIO.op rfl (opR_load_pt (i := 0) Tryz.underlying26 rfl rfl rfl rfl) ?_
    show AI _ _ _ _ _ _ #[true, true, true, true, true, true, true, true, true, true, true, false, true, true, true, false, false, false, false] _
    refine AI.two (i := 11) (j := 15) (by kernel_rfl) rfl rfl rfl rfl ?_ ?_
    ·
     refine AIO.opx rfl (g_append_str (bytes := 1) 1 Tryz.underlying26 Tryz.underlying9 rfl (by kernel_rfl) rfl rfl rfl rfl g67 e69) ?_
     rintro _ _ ⟨t72, rfl, rfl⟩
     show AI _ _ _ _ _ _ #[true, true, true, true, true, true, true, true, true, true, true, true, true, true, true, false, false, false, false] _
     refine AI.take (i := 16) rfl rfl (by kernel_rfl) (by kernel_rfl) (by kernel_rfl) (fun _ _ h => h) (opS_assign (av := slE _ _ _) rfl) ?_
     show AI _ _ _ _ _ _ #[true, true, true, true, true, true, true, true, true, true, true, true, true, true, true, false, true, false, false] _
     refine AI.one (i := 15) (by kernel_rfl) rfl rfl ?_
     refine AIO.op rfl (opR_load_pt (i := 0) Tryz.underlying9 rfl rfl rfl rfl) ?_
     show AI _ _ _ _ _ _ #[true, true, true, true, true, true, true, true, true, true, true, true, true, true, true, true, true, false, false] _
     refine AI.take (i := 17) rfl rfl (by kernel_rfl) (by kernel_rfl) (by kernel_rfl) (fun _ _ h => h) (asg rfl) ?_
     show AI _ _ _ _ _ _ #[true, true, true, true, true, true, true, true, true, true, true, true, true, true, true, true, true, true, false] _
     refine AI.take (i := 18) rfl rfl (by kernel_rfl) (by kernel_rfl) (by kernel_rfl) (fun _ _ h => h) (asg rfl) ?_
     show AI _ _ _ _ _ _ #[true, true, true, true, true, true, true, true, true, true, true, true, true, true, true, true, true, true, true] _
     refine AI.done rfl ?_
     show AW _ _ _ _ _ _
     refine AW.ret ?_
     obtain ⟨rfl, rfl, rfl⟩ := res3 H
     exact And.intro rfl (Exists.intro _ (Exists.intro _ ⟨ResV.threeW rfl (.tok _ _ _) (.refl _) (.refl _), Sub.at [] rfl, rfl, rfl⟩))
    ·
     refine AIO.op rfl (opR_load_pt (i := 0) Tryz.underlying9 rfl rfl rfl rfl) ?_
     show AI _ _ _ _ _ _ #[true, true, true, true, true, true, true, true, true, true, true, false, true, true, true, true, false, false, false] _
     refine AI.one (i := 11) (by kernel_rfl) rfl rfl ?_
     refine AIO.opx rfl (g_append_str (bytes := 1) 1 Tryz.underlying26 Tryz.underlying9 rfl (by kernel_rfl) rfl rfl rfl rfl g67 e69) ?_
     rintro _ _ ⟨t73, rfl, rfl⟩
     show AI _ _ _ _ _ _ #[true, true, true, true, true, true, true, true, true, true, true, true, true, true, true, true, false, false, false] _
     refine AI.take (i := 16) rfl rfl (by kernel_rfl) (by kernel_rfl) (by kernel_rfl) (fun _ _ h => h) (opS_assign (av := slE _ _ _) rfl) ?_
     show AI _ _ _ _ _ _ #[true, true, true, true, true, true, true, true, true, true, true, true, true, true, true, true, true, false, false] _
     refine AI.take (i := 17) rfl rfl (by kernel_rfl) (by kernel_rfl) (by kernel_rfl) (fun _ _ h => h) (asg rfl) ?_
     show AI _ _ _ _ _ _ #[true, true, true, true, true, true, true, true, true, true, true, true, true, true, true, true, true, true, false] _
     refine AI.take (i := 18) rfl rfl (by kernel_rfl) (by kernel_rfl) (by kernel_rfl) (fun _ _ h => h) (asg rfl) ?_
     show AI _ _ _ _ _ _ #[true, true, true, true, true, true, true, true, true, true, true, true, true, true, true, true, true, true, true] _
     refine AI.done rfl ?_
     show AW _ _ _ _ _ _
     refine AW.ret ?_
     obtain ⟨rfl, rfl, rfl⟩ := res3 H
     exact And.intro rfl (Exists.intro _ (Exists.intro _ ⟨ResV.threeW rfl (.tok _ _ _) (.refl _) (.refl _), Sub.at [] rfl, rfl, rfl⟩))
   ·
    refine AIO.op rfl (opR_load_pt (i := 0) Tryz.underlying9 rfl rfl rfl rfl) ?_
    show AI _ _ _ _ _ _ #[true, true, true, false, true, true, true, true, true, true, true, false, true, true, true, true, false, false, false] _
    refine AI.one (i := 3) (by kernel_rfl) rfl rfl ?_
    refine AIO.op rfl (opR_load_pt (i := 0) Tryz.underlying26 rfl rfl rfl rfl) ?_
    show AI _ _ _ _ _ _ #[true, true, true, true, true, true, true, true, true, true, true, false, true, true, true, true, false, false, false] _
    refine AI.one (i := 11) (by kernel_rfl) rfl rfl ?_
    refine AIO.opx rfl (g_append_str (bytes := 1) 1 Tryz.underlying26 Tryz.underlying9 rfl (by kernel_rfl) rfl rfl rfl rfl g67 e69) ?_
    rintro _ _ ⟨t74, rfl, rfl⟩
    show AI _ _ _ _ _ _ #[true, true, true, true, true, true, true, true, true, true, true, true, true, true, true, true, false, false, false] _
    refine AI.take (i := 16) rfl rfl (by kernel_rfl) (by kernel_rfl) (by kernel_rfl) (fun _ _ h => h) (opS_assign (av := slE _ _ _) rfl) ?_
    show AI _ _ _ _ _ _ #[true, true, true, true, true, true, true, true, true, true, true, true, true, true, true, true, true, false, false] _
    refine AI.take (i := 17) rfl rfl (by kernel_rfl) (by kernel_rfl) (by kernel_rfl) (fun _ _ h => h) (asg rfl) ?_
    show AI _ _ _ _ _ _ #[true, true, true, true, true, true, true, true, true, true, true, true, true, true, true, true, true, true, false] _
    refine AI.take (i := 18) rfl rfl (by kernel_rfl) (by kernel_rfl) (by kernel_rfl) (fun _ _ h => h) (asg rfl) ?_
    show AI _ _ _ _ _ _ #[true, true, true, true, true, true, true, true, true, true, true, true, true, true, true, true, true, true, true] _
    refine AI.done rfl ?_
    show AW _ _ _ _ _ _
    refine AW.ret ?_
    obtain ⟨rfl, rfl, rfl⟩ := res3 H
    exact And.intro rfl (Exists.intro _ (Exists.intro _ ⟨ResV.threeW rfl (.tok _ _ _) (.refl _) (.refl _), Sub.at [] rfl, rfl, rfl⟩))
  ·
   refine AIO.op rfl (opR_load_pt (i := 0) Tryz.underlying9 rfl rfl rfl rfl) ?_
   show AI _ _ _ _ _ _ #[true, true, true, false, true, true, true, false, false, false, false, false, true, true, true, true, false, false, false] _
   refine AI.two (i := 3) (j := 7) (by kernel_rfl) rfl rfl rfl rfl ?_ ?_
   ·
    refine AIO.op rfl (opR_load_pt (i := 0) Tryz.underlying26 rfl rfl rfl rfl) ?_
    show AI _ _ _ _ _ _ #[true, true, true, true, true, true, true, false, false, false, false, false, true, true, true, true, false, false, false] _
    refine AI.one (i := 7) (by kernel_rfl) rfl rfl ?_
    refine AIO.op rfl (opR_load_pt (i := 0) Tryz.underlying9 rfl rfl rfl rfl) ?_
    show AI _ _ _ _ _ _ #[true, true, true, true, true, true, true, true, false, false, false, false, true, true, true, true, false, false, false] _
    refine AI.take (i := 8) rfl rfl (by kernel_rfl) (by kernel_rfl) (by kernel_rfl) (fun _ _ h => h) (g_cat rfl rfl g57 e59) ?_
    show AI _ _ _ _ _ _ #[true, true, true, true, true, true, true, true, true, false, false, false, true, true, true, true, false, false, false] _
    refine AI.take (i := 9) rfl rfl (by kernel_rfl) (by kernel_rfl) (by kernel_rfl) (fun _ _ h => h) (g_cat rfl rfl g60 e62) ?_
    show AI _ _ _ _ _ _ #[true, true, true, true, true, true, true, true, true, true, false, false, true, true, true, true, false, false, false] _
    refine AI.take (i := 10) rfl rfl (by kernel_rfl) (by kernel_rfl) (by kernel_rfl) (fun _ _ h => h) (g_cat rfl rfl g63 e65) ?_
    show AI _ _ _ _ _ _ #[true, true, true, true, true, true, true, true, true, true, true, false, true, true, true, true, false, false, false] _
    refine AI.one (i := 11) (by kernel_rfl) rfl rfl ?_
    refine AIO.opx rfl (g_append_str (bytes := 1) 1 Tryz.underlying26 Tryz.underlying9 rfl (by kernel_rfl) rfl rfl rfl rfl g67 e69) ?_
    rintro _ _ ⟨t75, rfl, rfl⟩
    show AI _ _ _ _ _ _ #[true, true, true, true, true, true, true, true, true, true, true, true, true, true, true, true, false, false, false] _
    refine AI.take (i := 16) rfl rfl (by kernel_rfl) (by kernel_rfl) (by kernel_rfl) (fun _ _ h => h) (opS_assign (av := slE _ _ _) rfl) ?_
    show AI _ _ _ _ _ _ #[true, true, true, true, true, true, true, true, true, true, true, true, true, true, true, true, true, false, false] _
    refine AI.take (i := 17) rfl rfl (by kernel_rfl) (by kernel_rfl) (by kernel_rfl) (fun _ _ h => h) (asg rfl) ?_
    show AI _ _ _ _ _ _ #[true, true, true, true, true, true, true, true, true, true, true, true, true, true, true, true, true, true, false] _
    refine AI.take (i := 18) rfl rfl (by kernel_rfl) (by kernel_rfl) (by kernel_rfl) (fun _ _ h => h) (asg rfl) ?_
    show AI _ _ _ _ _ _ #[true, true, true, true, true, true, true, true, true, true, true, true, true, true, true, true, true, true, true] _
    refine AI.done rfl ?_
    show AW _ _ _ _ _ _
    refine AW.ret ?_
    obtain ⟨rfl, rfl, rfl⟩ := res3 H
    exact And.intro rfl (Exists.intro _ (Exists.intro _ ⟨ResV.threeW rfl (.tok _ _ _) (.refl _) (.refl _), Sub.at [] rfl, rfl, rfl⟩))
   ·
    refine AIO.op rfl (opR_load_pt (i := 0) Tryz.underlying9 rfl rfl rfl rfl) ?_
    show AI _ _ _ _ _ _ #[true, true, true, false, true, true, true, true, false, false, false, false, true, true, true, true, false, false, false] _
    refine AI.take (i := 8) rfl rfl (by kernel_rfl) (by kernel_rfl) (by kernel_rfl) (fun _ _ h => h) (g_cat rfl rfl g57 e59) ?_
    show AI _ _ _ _ _ _ #[true, true, true, false, true, true, true, true, true, false, false, false, true, true, true, true, false, false, false] _
    refine AI.take (i := 9) rfl rfl (by kernel_rfl) (by kernel_rfl) (by kernel_rfl) (fun _ _ h => h) (g_cat rfl rfl g60 e62) ?_
    show AI _ _ _ _ _ _ #[true, true, true, false, true, true, true, true, true, true, false, false, true, true, true, true, false, false, false] _
    refine AI.take (i := 10) rfl rfl (by kernel_rfl) (by kernel_rfl) (by kernel_rfl) (fun _ _ h => h) (g_cat rfl rfl g63 e65) ?_
    show AI _ _ _ _ _ _ #[true, true, true, false, true, true, true, true, true, true, true, false, true, true, true, true, false, false, false] _
    refine AI.one (i := 3) (by kernel_rfl) rfl rfl ?_
    refine AIO.op rfl (opR_load_pt (i := 0) Tryz.underlying26 rfl rfl rfl rfl) ?_
    show AI _ _ _ _ _ _ #[true, true, true, true, true, true, true, true, true, true, true, false, true, true, true, true, false, false, false] _
    refine AI.one (i := 11) (by kernel_rfl) rfl rfl ?_
    refine AIO.opx rfl (g_append_str (bytes := 1) 1 Tryz.underlying26 Tryz.underlying9 rfl (by kernel_rfl) rfl rfl rfl rfl g67 e69) ?_
    rintro _ _ ⟨t76, rfl, rfl⟩
    show AI _ _ _ _ _ _ #[true, true, true, true, true, true, true, true, true, true, true, true, true, true, true, true, false, false, false] _
    refine AI.take (i := 16) rfl rfl (by kernel_rfl) (by kernel_rfl) (by kernel_rfl) (fun _ _ h => h) (opS_assign (av := slE _ _ _) rfl) ?_
    show AI _ _ _ _ _ _ #[true, true, true, true, true, true, true, true, true, true, true, true, true, true, true, true, true, false, false] _
    refine AI.take (i := 17) rfl rfl (by kernel_rfl) (by kernel_rfl) (by kernel_rfl) (fun _ _ h => h) (asg rfl) ?_
    show AI _ _ _ _ _ _ #[true, true, true, true, true, true, true, true, true, true, true, true, true, true, true, true, true, true, false] _
    refine AI.take (i := 18) rfl rfl (by kernel_rfl) (by kernel_rfl) (by kernel_rfl) (fun _ _ h => h) (asg rfl) ?_
    show AI _ _ _ _ _ _ #[true, true, true, true, true, true, true, true, true, true, true, true, true, true, true, true, true, true, true] _
    refine AI.done rfl ?_
    show AW _ _ _ _ _ _
    refine AW.ret ?_
    obtain ⟨rfl, rfl, rfl⟩ := res3 H
    exact And.intro rfl (Exists.intro _ (Exists.intro _ ⟨ResV.threeW rfl (.tok _ _ _) (.refl _) (.refl _), Sub.at [] rfl, rfl, rfl⟩))
set_option maxRecDepth 100000 in
set_option maxHeartbeats 1000000 in
theorem w_part_one (F : Nat) (a1 : List UInt8) (q2 : Option Nat) (r3 : List UInt8) (r4 : List UInt8) (r5 : Bool) (H : part_one F a1 = some (r3, r4, r5)) : ACalls Tryz.prog 35 [slE Enc.byte a1 q2] [] (Ret (.tup [S r3, slE Enc.byte r4 none, B r5]) []) := by
 unfold part_one at H
 refine ACalls.of_body Tryz.func35 rfl rfl ?_
 show AW _ _ 43 _ _ _
 refine AW.seq ?_
 refine AW.region ?_
 show AR _ _ _ _ _ [0, 1, 2] _
 refine sS rfl rfl rfl (asg rfl) ?_
 refine sS rfl rfl rfl (asg rfl) ?_
 refine sS rfl rfl rfl (asg rfl) ?_
 refine AR.nil ?_
 show AW _ _ _ _ _ _
 refine AW.seq ?_
 obtain ⟨x6, x7, x8, e9, H⟩ := bnd3_s H
 refine AW.region ?_
 show AR _ _ _ _ _ [0, 1, 2, 3, 4, 5, 6, 7, 8] _
 refine sS rfl rfl rfl (opS_move (av := slE _ _ _) rfl) ?_
 refine AR.run rfl rfl (AO.callp rfl en55_parta rfl (w_head_Cut F a1 q2 x6 x7 x8 e9) ?_)
 refine sS rfl rfl rfl (opS_move (av := .tup _) rfl) ?_
 refine sS rfl rfl rfl (opS_extract (av := slE _ _ _) rfl rfl) ?_
 refine sS rfl rfl rfl (opS_extract (av := slE _ _ _) rfl rfl) ?_
 refine sS rfl rfl rfl (opS_extract (av := .v _) rfl rfl) ?_
 refine sS rfl rfl rfl (opS_assign (av := slE _ _ _) rfl) ?_
 refine sS rfl rfl rfl (opS_assign (av := slE _ _ _) rfl) ?_
 refine sS rfl rfl rfl (asg rfl) ?_
 refine AR.nil ?_
 show AW _ _ _ _ _ _
 refine AW.seq ?_
 refine AW.seq ?_
 refine AW.region ?_
 show AR _ _ _ _ _ [0, 1, 2, 3, 4, 5, 6, 7, 8, 9, 10, 11] _
 refine sS rfl rfl rfl (mv rfl) ?_
 refine sS rfl rfl rfl (opS_nei rfl rfl) ?_
 refine sS rfl rfl rfl (mv rfl) ?_
 refine AR.meet (l := [7, 8, 9, 10, 11]) 21 (B ((!decide (x8 = 0)) || (!decide ((x6.length : Int) = 2)))) (fun K => ?_) ?_
 ·rcases Bool.eq_false_or_eq_true (!decide (x8 = 0)) with h10 | h10
  ·
   refine gF h10 rfl rfl rfl rfl rfl ?_
   refine gF h10 rfl rfl rfl rfl rfl ?_
   refine gF h10 rfl rfl rfl rfl rfl ?_
   refine sS rfl rfl rfl (opS_pick_t (av := .v _) rfl h10 rfl) ?_
   exact K _ 3 _ (B_congr (or_t h10)) rfl rfl
  ·
   refine gT h10 rfl rfl rfl rfl rfl rfl (AO.ops rfl rfl (opS_move (av := slE _ _ _) rfl) ?_)
   refine gT h10 rfl rfl rfl rfl rfl rfl (AO.ops rfl rfl (opS_len_sl Tryz.underlying72 rfl) ?_)
   refine gT h10 rfl rfl rfl rfl rfl rfl (AO.ops rfl rfl (opS_nei rfl rfl) ?_)
   refine sS rfl rfl rfl (opS_pick_f (av := .v _) rfl h10 rfl) ?_
   exact K _ 3 _ (B_congr (or_f h10)) rfl rfl
 refine sS rfl rfl rfl (mv rfl) ?_
 refine AR.meet (l := []) 26 (B (((!decide (x8 = 0)) || (!decide ((x6.length : Int) = 2))) || (decide ((x7.length : Int) < 2)))) (fun K => ?_) ?_
 ·rcases Bool.eq_false_or_eq_true ((!decide (x8 = 0)) || (!decide ((x6.length : Int) = 2))) with h11 | h11
  ·
   refine gF h11 rfl rfl rfl rfl rfl ?_
   refine gF h11 rfl rfl rfl rfl rfl ?_
   refine gF h11 rfl rfl rfl rfl rfl ?_
   refine sS rfl rfl rfl (opS_pick_t (av := .v _) rfl h11 rfl) ?_
   exact K _ 3 _ (B_congr (or_t h11)) rfl rfl
  ·
   refine gT h11 rfl rfl rfl rfl rfl rfl (AO.ops rfl rfl (opS_move (av := slE _ _ _) rfl) ?_)
   refine gT h11 rfl rfl rfl rfl rfl rfl (AO.ops rfl rfl (opS_len_sl Tryz.underlying26 rfl) ?_)
   refine gT h11 rfl rfl rfl rfl rfl rfl (AO.ops rfl rfl (opS_lt rfl rfl) ?_)
   refine sS rfl rfl rfl (opS_pick_f (av := .v _) rfl h11 rfl) ?_
   exact K _ 3 _ (B_congr (or_f h11)) rfl rfl
 refine AR.nil ?_
 show AW _ _ _ _ _ _
 refine AW.cond rfl (fun c12 => ?_) (fun c12 => ?_)
 ·replace H := cnd_t c12 H
  refine AW.seq ?_
  refine AW.region ?_
  show AR _ _ _ _ _ [0, 1, 2] _
  refine sS rfl rfl rfl (asg rfl) ?_
  refine sS rfl rfl rfl (asg rfl) ?_
  refine sS rfl rfl rfl (asg rfl) ?_
  refine AR.nil ?_
  show AW _ _ _ _ _ _
  refine AW.ret ?_
  obtain ⟨rfl, rfl, rfl⟩ := res3 H
  exact And.intro rfl (Exists.intro _ (Exists.intro _ ⟨ResV.threeW rfl (.refl _) (.nil _) (.refl _), Sub.at [] rfl, rfl, rfl⟩))
 ·replace H := cnd_f c12 H
  refine AW.skip ?_
  show AW _ _ _ _ _ _
  refine AW.seq ?_
  obtain ⟨g13, H⟩ := grd_s H
  obtain ⟨g14, H⟩ := grd_s H
  obtain ⟨x15, e16, H⟩ := lt_s H
  obtain ⟨x17, x18, e19, H⟩ := bnd2_s H
  refine AW.region ?_
  show AR _ _ _ _ _ [0, 1, 2, 3, 4, 5, 6, 7, 8, 9, 10] _
  refine sS rfl rfl rfl (opS_move (av := slE _ _ _) rfl) ?_
  refine sS rfl rfl rfl (opS_move (av := slE _ _ _) rfl) ?_
  refine sS rfl rfl rfl (opS_len_sl Tryz.underlying26 rfl) ?_
  refine sS rfl rfl rfl (g_sub rfl rfl g13) ?_
  refine sS rfl rfl rfl (g_to_sl (E := Enc.byte) Tryz.underlying26 (by kernel_rfl) rfl rfl g14 e16) ?_
  refine AR.run rfl rfl (AO.callp rfl en56_parta rfl (w_qp_Decode F x15 none x17 x18 e19) ?_)
  refine sS rfl rfl rfl (opS_move (av := .tup _) rfl) ?_
  refine sS rfl rfl rfl (opS_extract (av := slE _ _ _) rfl rfl) ?_
  refine sS rfl rfl rfl (opS_extract (av := .v _) rfl rfl) ?_
  refine sS rfl rfl rfl (opS_assign (av := slE _ _ _) rfl) ?_
  refine sS rfl rfl rfl (asg rfl) ?_
  refine AR.nil ?_
  show AW _ _ _ _ _ _
  refine AW.seq ?_
  obtain ⟨g20, H⟩ := grd_s H
  obtain ⟨x21, e22, H⟩ := lt_s H
  refine AW.region ?_
  show AR _ _ _ _ _ [0, 1, 2, 3, 4, 5, 6, 7, 8, 9] _
  refine sS rfl rfl rfl (opS_move (av := slE _ _ _) rfl) ?_
  refine sS rfl rfl rfl (g_indexAddr (E := (Enc.prod Enc.str Enc.str)) Tryz.underlying72 (by kernel_rfl) rfl rfl g20 e22) ?_
  refine sS rfl rfl rfl (opS_fieldAddr_cp (n := 1) (by kernel_rfl) rfl (Nat.le_of_ble_eq_true rfl)) ?_
  refine sS rfl rfl rfl (opS_load_cp Tryz.underlying9 rfl rfl) ?_
  refine sS rfl rfl rfl (opS_move (av := slE _ _ _) rfl) ?_
  refine sS rfl rfl rfl (mv rfl) ?_
  refine sS rfl rfl rfl (opS_eqi rfl rfl) ?_
  refine sS rfl rfl rfl (asg rfl) ?_
  refine sS rfl rfl rfl (opS_assign (av := slE _ _ _) rfl) ?_
  refine sS rfl rfl rfl (asg rfl) ?_
  refine AR.nil ?_
  show AW _ _ _ _ _ _
  refine AW.ret ?_
  obtain ⟨rfl, rfl, rfl⟩ := res3 H
  exact And.intro rfl (Exists.intro _ (Exists.intro _ ⟨ResV.threeW rfl (.refl _) (.refl _) (.refl _), Sub.at [] rfl, rfl, rfl⟩))
set_option maxRecDepth 100000 in
set_option maxHeartbeats 1000000 in
theorem w_part_Split (F : Nat) (a1 : List UInt8) (q2 : Option Nat) (a3 : List UInt8) (r4 : List (List UInt8)) (r5 : List (List UInt8)) (r6 : Int) (H : part_Split F a1 a3 = some (r4, r5, r6)) : ACalls Tryz.prog 14 [slE Enc.byte a1 q2, S a3] [] (Ret (.tup [slE Enc.str r4 none, slE (Enc.sl Enc.byte) r5 none, i64 r6]) []) := by
 unfold part_Split at H
 refine ACalls.of_body Tryz.func14 rfl rfl ?_
 show AW _ _ 83 _ _ _
 refine AW.seq ?_
 refine AW.region ?_
 show AR _ _ _ _ _ [0, 1, 2] _
 refine sS rfl rfl rfl (asg rfl) ?_
 refine sS rfl rfl rfl (asg rfl) ?_
 refine sS rfl rfl rfl (asg rfl) ?_
 refine AR.nil ?_
 show AW _ _ _ _ _ _
 refine AW.seq ?_
 refine AW.region ?_
 show AR _ _ _ _ _ [0] _
 refine sS rfl rfl rfl (asg rfl) ?_
 refine AR.nil ?_
 show AW _ _ _ _ _ _
 refine AW.nil_grows 7 1 9 rfl fun t7 => ?_
 show AW _ _ _ _ _ ⟨(7, slE Enc.str [] (some t7)) :: _, _, _⟩
 refine AW.seq ?_
 refine AW.region ?_
 show AR _ _ _ _ _ [0] _
 refine sS rfl rfl rfl (asg rfl) ?_
 refine AR.nil ?_
 show AW _ _ _ _ _ _
 refine AW.nil_grows 8 1 26 rfl fun t8 => ?_
 show AW _ _ _ _ _ ⟨(8, slE (Enc.sl Enc.byte) [] (some t8)) :: _, _, _⟩
 refine AW.cut (X := (List (List UInt8)) × Nat × (List (List UInt8)) × Nat) (fun (y63, t64, y65, t66) => ⟨[(0, slE Enc.byte a1 q2), (1, S a3), (7, slE Enc.str y63 (some t64)), (8, slE (Enc.sl Enc.byte) y65 (some t66))], [], [.tok t64 9, .tok t66 26]⟩) (fun (y63, t64, y65, t66) => part_Split_j1 F a1 a3 y63 y65 = some (r4, r5, r6)) ?_ ?_
 ·
  refine AW.seq ?_
  refine AW.region ?_
  show AR _ _ _ _ _ [0, 1] _
  refine sS rfl rfl rfl (opS_move (av := slE _ _ _) rfl) ?_
  refine sS rfl rfl rfl (opS_assign (av := slE _ _ _) rfl) ?_
  refine AR.nil ?_
  show AW _ _ _ _ _ _
  refine AW.block ?_
  refine AW.loop (X := Nat × (List (List UInt8)) × Nat × (List (List UInt8)) × Nat × (List UInt8)) (fun (n15, y9, t10, y11, t12, y13) => ⟨[(0, slE Enc.byte a1 q2), (1, S a3), (7, slE Enc.str y9 (some t10)), (8, slE (Enc.sl Enc.byte) y11 (some t12)), (9, slE Enc.byte y13 none)], [], [.tok t10 9, .tok t12 26]⟩) (fun (n15, y9, t10, y11, t12, y13) => part_Split_L1 F a1 a3 n15 (y9, y11, y13) = some (r4, r5, r6)) (fun (n15, y9, t10, y11, t12, y13) => n15) (F, [], t7, [], t8, a1) H (WK.at [1, 0] (.cons (.refl _) (.cons (.refl _) (.cons (.refl _) (.cons (.refl _) (.cons (.tok _ _ _) (.nil _)))))) rfl) ?_
  rintro ⟨n15, y9, t10, y11, t12, y13⟩ H
  obtain ⟨n15, rfl, H⟩ := loop_s H
  replace H : part_Split_B1 F a1 a3 (part_Split_L1 F a1 a3 n15) y9 y11 y13 = some (r4, r5, r6) := H
  unfold part_Split_B1 at H
  show AW _ _ _ _ _ _
  refine AW.seq ?_
  refine AW.seq ?_
  refine AW.region ?_
  show AR _ _ _ _ _ [0, 1, 2] _
  refine sS rfl rfl rfl (opS_move (av := slE _ _ _) rfl) ?_
  refine sS rfl rfl rfl (opS_len_sl Tryz.underlying23 rfl) ?_
  refine sS rfl rfl rfl (opS_le rfl rfl) ?_
  refine AR.nil ?_
  show AW _ _ _ _ _ _
  refine AW.cond rfl (fun c16 => ?_) (fun c16 => ?_)
  ·replace H := cnd_t c16 H
   refine AW.skip ?_
   show AW _ _ _ _ _ _
   refine AW.block ?_
   refine AW.seq ?_
   obtain ⟨g17, H⟩ := grd_s H
   obtain ⟨x18, e19, H⟩ := lt_s H
   obtain ⟨g20, H⟩ := grd_s H
   obtain ⟨x21, e22, H⟩ := lt_s H
   obtain ⟨g23, H⟩ := grd_s H
   obtain ⟨g25, H⟩ := grd_s H
   obtain ⟨x26, e27, H⟩ := lt_s H
   refine AW.region ?_
   show AR _ _ _ _ _ [0, 1, 2, 3, 4, 5, 6, 7, 8, 9, 10] _
   refine sS rfl rfl rfl (opS_move (av := slE _ _ _) rfl) ?_
   refine sS rfl rfl rfl (mv rfl) ?_
   refine sS rfl rfl rfl (g_cat rfl rfl g17 e19) ?_
   refine sS rfl rfl rfl (g_cat rfl rfl g20 e22) ?_
   refine sX rfl rfl rfl (g_conv_str_bytes (bytes := 1) Tryz.underlying9 Tryz.underlying26 Tryz.underlying5 rfl g23) ?_
   rintro _ _ ⟨t24, rfl, rfl⟩
   refine AR.run rfl rfl (AO.callp rfl en33_parta rfl (show ACalls _ _ _ [] (Ret (.tup [slE Enc.byte x26.1 none, B x26.2]) []) from by subst e27; exact lib_bytesCutPrefix y13 x21 none (some t24) (of_decide_eq_true g25)) ?_)
   refine sS rfl rfl rfl (opS_move (av := .tup _) rfl) ?_
   refine sS rfl rfl rfl (opS_extract (av := slE _ _ _) rfl rfl) ?_
   refine sS rfl rfl rfl (opS_extract (av := .v _) rfl rfl) ?_
   refine sS rfl rfl rfl (opS_assign (av := slE _ _ _) rfl) ?_
   refine sS rfl rfl rfl (asg rfl) ?_
   refine AR.nil ?_
   show AW _ _ _ _ _ _
   refine AW.seq ?_
   refine AW.seq ?_
   refine AW.region ?_
   show AR _ _ _ _ _ [0, 1] _
   refine sS rfl rfl rfl (mv rfl) ?_
   refine sS rfl rfl rfl (opS_not rfl) ?_
   refine AR.nil ?_
   show AW _ _ _ _ _ _
   refine AW.cond rfl (fun c28 => ?_) (fun c28 => ?_)
   ·replace H := cnd_t c28 H
    refine AW.exit ?_
    exact Exists.intro (y9, t10, y11, t12) ⟨H, WK.at [1, 1] (.cons (.refl _) (.cons (.refl _) (.cons (.refl _) (.cons (.refl _) (.nil _))))) rfl⟩
   ·replace H := cnd_f c28 H
    refine AW.skip ?_
    show AW _ _ _ _ _ _
    refine AW.seq ?_
    obtain ⟨g29, H⟩ := grd_s H
    obtain ⟨x30, e31, H⟩ := lt_s H
    obtain ⟨g32, H⟩ := grd_s H
    obtain ⟨g34, H⟩ := grd_s H
    obtain ⟨g35, H⟩ := grd_s H
    obtain ⟨g36, H⟩ := grd_s H
    obtain ⟨x37, e38, H⟩ := lt_s H
    refine AW.region ?_
    show AR _ _ _ _ _ [0, 1, 2, 3, 4, 5] _
    refine sS rfl rfl rfl (opS_move (av := slE _ _ _) rfl) ?_
    refine sS rfl rfl rfl (mv rfl) ?_
    refine sS rfl rfl rfl (g_cat rfl rfl g29 e31) ?_
    refine sX rfl rfl rfl (g_conv_str_bytes (bytes := 1) Tryz.underlying9 Tryz.underlying26 Tryz.underlying5 rfl g32) ?_
    rintro _ _ ⟨t33, rfl, rfl⟩
    refine AR.run rfl rfl (AO.callp rfl en34_parta rfl (show ACalls _ _ _ [] (Ret (i64 x37) []) from by subst e38; exact lib_bytesIndex x26.1 x30 none (some t33) (okS_s g34) (of_decide_eq_true g35) (okS_s g36)) ?_)
    refine sS rfl rfl rfl (asg rfl) ?_
    refine AR.nil ?_
    show AW _ _ _ _ _ _
    refine AW.seq ?_
    refine AW.seq ?_
    refine AW.region ?_
    show AR _ _ _ _ _ [0, 1] _
    refine sS rfl rfl rfl (mv rfl) ?_
    refine sS rfl rfl rfl (opS_lt rfl rfl) ?_
    refine AR.nil ?_
    show AW _ _ _ _ _ _
    refine AW.cond rfl (fun c39 => ?_) (fun c39 => ?_)
    ·replace H := cnd_t c39 H
     refine AW.seq ?_
     refine AW.region ?_
     show AR _ _ _ _ _ [0, 1, 2] _
     refine sS rfl rfl rfl (asg rfl) ?_
     refine sS rfl rfl rfl (asg rfl) ?_
     refine sS rfl rfl rfl (asg rfl) ?_
     refine AR.nil ?_
     show AW _ _ _ _ _ _
     refine AW.ret ?_
     obtain ⟨rfl, rfl, rfl⟩ := res3 H
     exact And.intro rfl (Exists.intro _ (Exists.intro _ ⟨ResV.threeW rfl (.nil _) (.nil _) (.refl _), Sub.at [] rfl, rfl, rfl⟩))
    ·replace H := cnd_f c39 H
     refine AW.skip ?_
     show AW _ _ _ _ _ _
     refine AW.seq ?_
     obtain ⟨g40, H⟩ := grd_s H
     obtain ⟨x41, e42, H⟩ := lt_s H
     obtain ⟨x43, x44, x45, e46, H⟩ := bnd3_s H
     refine AW.region ?_
     show AR _ _ _ _ _ [0, 1, 2, 3, 4, 5, 6, 7, 8, 9, 10] _
     refine sS rfl rfl rfl (opS_move (av := slE _ _ _) rfl) ?_
     refine sS rfl rfl rfl (mv rfl) ?_
     refine sS rfl rfl rfl (g_to_sl (E := Enc.byte) Tryz.underlying26 (by kernel_rfl) rfl rfl g40 e42) ?_
     refine AR.run rfl rfl (AO.callp rfl en35_parta rfl (w_part_one F x41 none x43 x44 x45 e46) ?_)
     refine sS rfl rfl rfl (opS_move (av := .tup _) rfl) ?_
     refine sS rfl rfl rfl (opS_extract (av := .v _) rfl rfl) ?_
     refine sS rfl rfl rfl (opS_extract (av := slE _ _ _) rfl rfl) ?_
     refine sS rfl rfl rfl (opS_extract (av := .v _) rfl rfl) ?_
     refine sS rfl rfl rfl (asg rfl) ?_
     refine sS rfl rfl rfl (opS_assign (av := slE _ _ _) rfl) ?_
     refine sS rfl rfl rfl (asg rfl) ?_
     refine AR.nil ?_
     show AW _ _ _ _ _ _
     refine AW.seq ?_
     refine AW.seq ?_
     refine AW.region ?_
     show AR _ _ _ _ _ [0, 1] _
     refine sS rfl rfl rfl (mv rfl) ?_
     refine sS rfl rfl rfl (opS_not rfl) ?_
     refine AR.nil ?_
     show AW _ _ _ _ _ _
     refine AW.cond rfl (fun c47 => ?_) (fun c47 => ?_)
     ·replace H := cnd_t c47 H
      refine AW.seq ?_
      refine AW.region ?_
      show AR _ _ _ _ _ [0, 1, 2] _
      refine sS rfl rfl rfl (asg rfl) ?_
      refine sS rfl rfl rfl (asg rfl) ?_
      refine sS rfl rfl rfl (asg rfl) ?_
      refine AR.nil ?_
      show AW _ _ _ _ _ _
      refine AW.ret ?_
      obtain ⟨rfl, rfl, rfl⟩ := res3 H
      exact And.intro rfl (Exists.intro _ (Exists.intro _ ⟨ResV.threeW rfl (.nil _) (.nil _) (.refl _), Sub.at [] rfl, rfl, rfl⟩))
     ·replace H := cnd_f c47 H
      refine AW.skip ?_
      show AW _ _ _ _ _ _
      obtain ⟨g48, H⟩ := grd_s H
      obtain ⟨x49, e50, H⟩ := lt_s H
      obtain ⟨g52, H⟩ := grd_s H
      obtain ⟨x53, e54, H⟩ := lt_s H
      obtain ⟨g56, H⟩ := grd_s H
      obtain ⟨x57, e58, H⟩ := lt_s H
      refine AW.region_draw (by kernel_rfl) ?_
      show AI _ _ _ _ _ 14 (Array.replicate 14 false) _
      refine AI.take (i := 0) rfl rfl (by kernel_rfl) (by kernel_rfl) (by kernel_rfl) (fun _ _ h => h) (opS_move (av := slE _ _ _) rfl) ?_
      show AI _ _ _ _ _ _ #[true, false, false, false, false, false, false, false, false, false, false, false, false, false] _
      refine AI.take (i := 1) rfl rfl (by kernel_rfl) (by kernel_rfl) (by kernel_rfl) (fun _ _ h => h) (mv rfl) ?_
      show AI _ _ _ _ _ _ #[true, true, false, false, false, false, false, false, false, false, false, false, false, false] _
      refine AI.take (i := 4) rfl rfl (by kernel_rfl) (by kernel_rfl) (by kernel_rfl) (fun _ _ h => h) (opS_move (av := slE _ _ _) rfl) ?_
      show AI _ _ _ _ _ _ #[true, true, false, false, true, false, false, false, false, false, false, false, false, false] _
      refine AI.take (i := 5) rfl rfl (by kernel_rfl) (by kernel_rfl) (by kernel_rfl) (fun _ _ h => h) (opS_move (av := slE _ _ _) rfl) ?_
      show AI _ _ _ _ _ _ #[true, true, false, false, true, true, false, false, false, false, false, false, false, false] _
      refine AI.take (i := 8) rfl rfl (by kernel_rfl) (by kernel_rfl) (by kernel_rfl) (fun _ _ h => h) (opS_move (av := slE _ _ _) rfl) ?_
      show AI _ _ _ _ _ _ #[true, true, false, false, true, true, false, false, true, false, false, false, false, false] _
      refine AI.take (i := 9) rfl rfl (by kernel_rfl) (by kernel_rfl) (by kernel_rfl) (fun _ _ h => h) (mv rfl) ?_
      show AI _ _ _ _ _ _ #[true, true, false, false, true, true, false, false, true, true, false, false, false, false] _
      refine AI.take (i := 10) rfl rfl (by kernel_rfl) (by kernel_rfl) (by kernel_rfl) (fun _ _ h => h) (g_from_sl (E := Enc.byte) Tryz.underlying26 (by kernel_rfl) rfl rfl g48 e50) ?_
      show AI _ _ _ _ _ _ #[true, true, false, false, true, true, false, false, true, true, true, false, false, false] _
      refine AI.two (i := 2) (j := 6) (by kernel_rfl) rfl rfl rfl rfl ?_ ?_
      ·
       refine AIO.op rfl (opR_buildE (E := Enc.str) (bytes := 16) (xs := [.tmp 51]) (l := ([x43] : List (List UInt8))) Tryz.underlying22 (by kernel_rfl) rfl rfl (by decide) rfl rfl) ?_
       show AI _ _ _ _ _ _ #[true, true, true, false, true, true, false, false, true, true, true, false, false, false] _
       refine AI.two (i := 3) (j := 6) (by kernel_rfl) rfl rfl rfl rfl ?_ ?_
       ·
        refine AIO.opx rfl (g_append (E := Enc.str) (bytes := 16) 2 Tryz.underlying22 Tryz.underlying22 rfl (by kernel_rfl) rfl rfl rfl rfl g52 e54) ?_
        rintro _ _ ⟨t51, rfl, rfl⟩
        show AI _ _ _ _ _ _ #[true, true, true, true, true, true, false, false, true, true, true, false, false, false] _
        refine AI.one (i := 6) (by kernel_rfl) rfl rfl ?_
        refine AIO.op rfl (opR_buildE (E := (Enc.sl Enc.byte)) (bytes := 24) (xs := [.tmp 55]) (l := ([x44] : List (List UInt8))) Tryz.underlying23 (by kernel_rfl) rfl rfl (by decide) rfl rfl) ?_
        show AI _ _ _ _ _ _ #[true, true, true, true, true, true, true, false, true, true, true, false, false, false] _
        refine AI.one (i := 7) (by kernel_rfl) rfl rfl ?_
        refine AIO.opx rfl (g_append (E := (Enc.sl Enc.byte)) (bytes := 24) 3 Tryz.underlying23 Tryz.underlying23 rfl (by kernel_rfl) rfl rfl rfl rfl g56 e58) ?_
        rintro _ _ ⟨t55, rfl, rfl⟩
        show AI _ _ _ _ _ _ #[true, true, true, true, true, true, true, true, true, true, true, false, false, false] _
        refine AI.take (i := 11) rfl rfl (by kernel_rfl) (by kernel_rfl) (by kernel_rfl) (fun _ _ h => h) (opS_assign (av := slE _ _ _) rfl) ?_
        show AI _ _ _ _ _ _ #[true, true, true, true, true, true, true, true, true, true, true, true, false, false] _
        refine AI.take (i := 12) rfl rfl (by kernel_rfl) (by kernel_rfl) (by kernel_rfl) (fun _ _ h => h) (opS_assign (av := slE _ _ _) rfl) ?_
        show AI _ _ _ _ _ _ #[true, true, true, true, true, true, true, true, true, true, true, true, true, false] _
        refine AI.take (i := 13) rfl rfl (by kernel_rfl) (by kernel_rfl) (by kernel_rfl) (fun _ _ h => h) (opS_assign (av := slE _ _ _) rfl) ?_
        show AI _ _ _ _ _ _ #[true, true, true, true, true, true, true, true, true, true, true, true, true, true] _
        refine AI.done rfl ?_
        exact Exists.intro (n15, x53, t51, x57, t55, x49) ⟨H, Nat.lt_succ_self _, WK.at [2, 2] (.cons (.refl _) (.cons (.refl _) (.cons (.refl _) (.cons (.refl _) (.cons (.refl _) (.nil _)))))) rfl⟩
       ·
        refine AIO.op rfl (opR_buildE (E := (Enc.sl Enc.byte)) (bytes := 24) (xs := [.tmp 55]) (l := ([x44] : List (List UInt8))) Tryz.underlying23 (by kernel_rfl) rfl rfl (by decide) rfl rfl) ?_
        show AI _ _ _ _ _ _ #[true, true, true, false, true, true, true, false, true, true, true, false, false, false] _
        refine AI.one (i := 3) (by kernel_rfl) rfl rfl ?_
        refine AIO.opx rfl (g_append (E := Enc.str) (bytes := 16) 2 Tryz.underlying22 Tryz.underlying22 rfl (by kernel_rfl) rfl rfl rfl rfl g52 e54) ?_
        rintro _ _ ⟨t59, rfl, rfl⟩
        show AI _ _ _ _ _ _ #[true, true, true, true, true, true, true, false, true, true, true, false, false, false] _
        refine AI.one (i := 7) (by kernel_rfl) rfl rfl ?_
        refine AIO.opx rfl (g_append (E := (Enc.sl Enc.byte)) (bytes := 24) 3 Tryz.underlying23 Tryz.underlying23 rfl (by kernel_rfl) rfl rfl rfl rfl g56 e58) ?_
        rintro _ _ ⟨t60, rfl, rfl⟩
        show AI _ _ _ _ _ _ #[true, true, true, true, true, true, true, true, true, true, true, false, false, false] _
        refine AI.take (i := 11) rfl rfl (by kernel_rfl) (by kernel_rfl) (by kernel_rfl) (fun _ _ h => h) (opS_assign (av := slE _ _ _) rfl) ?_
        show AI _ _ _ _ _ _ #[true, true, true, true, true, true, true, true, true, true, true, true, false, false] _
        refine AI.take (i := 12) rfl rfl (by kernel_rfl) (by kernel_rfl) (by kernel_rfl) (fun _ _ h => h) (opS_assign (av := slE _ _ _) rfl) ?_
        show AI _ _ _ _ _ _ #[true, true, true, true, true, true, true, true, true, true, true, true, true, false] _
        refine AI.take (i := 13) rfl rfl (by kernel_rfl) (by kernel_rfl) (by kernel_rfl) (fun _ _ h => h) (opS_assign (av := slE _ _ _) rfl) ?_
        show AI _ _ _ _ _ _ #[true, true, true, true, true, true, true, true, true, true, true, true, true, true] _
        refine AI.done rfl ?_
        exact Exists.intro (n15, x53, t59, x57, t60, x49) ⟨H, Nat.lt_succ_self _, WK.at [2, 2] (.cons (.refl _) (.cons (.refl _) (.cons (.refl _) (.cons (.refl _) (.cons (.refl _) (.nil _)))))) rfl⟩
      ·
       refine AIO.op rfl (opR_buildE (E := (Enc.sl Enc.byte)) (bytes := 24) (xs := [.tmp 55]) (l := ([x44] : List (List UInt8))) Tryz.underlying23 (by kernel_rfl) rfl rfl (by decide) rfl rfl) ?_
       show AI _ _ _ _ _ _ #[true, true, false, false, true, true, true, false, true, true, true, false, false, false] _
       refine AI.one (i := 2) (by kernel_rfl) rfl rfl ?_
       refine AIO.op rfl (opR_buildE (E := Enc.str) (bytes := 16) (xs := [.tmp 51]) (l := ([x43] : List (List UInt8))) Tryz.underlying22 (by kernel_rfl) rfl rfl (by decide) rfl rfl) ?_
       show AI _ _ _ _ _ _ #[true, true, true, false, true, true, true, false, true, true, true, false, false, false] _
       refine AI.one (i := 3) (by kernel_rfl) rfl rfl ?_
       refine AIO.opx rfl (g_append (E := Enc.str) (bytes := 16) 2 Tryz.underlying22 Tryz.underlying22 rfl (by kernel_rfl) rfl rfl rfl rfl g52 e54) ?_
       rintro _ _ ⟨t61, rfl, rfl⟩
       show AI _ _ _ _ _ _ #[true, true, true, true, true, true, true, false, true, true, true, false, false, false] _
       refine AI.one (i := 7) (by kernel_rfl) rfl rfl ?_
       refine AIO.opx rfl (g_append (E := (Enc.sl Enc.byte)) (bytes := 24) 3 Tryz.underlying23 Tryz.underlying23 rfl (by kernel_rfl) rfl rfl rfl rfl g56 e58) ?_
       rintro _ _ ⟨t62, rfl, rfl⟩
       show AI _ _ _ _ _ _ #[true, true, true, true, true, true, true, true, true, true, true, false, false, false] _
       refine AI.take (i := 11) rfl rfl (by kernel_rfl) (by kernel_rfl) (by kernel_rfl) (fun _ _ h => h) (opS_assign (av := slE _ _ _) rfl) ?_
       show AI _ _ _ _ _ _ #[true, true, true, true, true, true, true, true, true, true, true, true, false, false] _
       refine AI.take (i := 12) rfl rfl (by kernel_rfl) (by kernel_rfl) (by kernel_rfl) (fun _ _ h => h) (opS_assign (av := slE _ _ _) rfl) ?_
       show AI _ _ _ _ _ _ #[true, true, true, true, true, true, true, true, true, true, true, true, true, false] _
       refine AI.take (i := 13) rfl rfl (by kernel_rfl) (by kernel_rfl) (by kernel_rfl) (fun _ _ h => h) (opS_assign (av := slE _ _ _) rfl) ?_
       show AI _ _ _ _ _ _ #[true, true, true, true, true, true, true, true, true, true, true, true, true, true] _
       refine AI.done rfl ?_
       exact Exists.intro (n15, x53, t61, x57, t62, x49) ⟨H, Nat.lt_succ_self _, WK.at [2, 2] (.cons (.refl _) (.cons (.refl _) (.cons (.refl _) (.cons (.refl _) (.cons (.refl _) (.nil _)))))) rfl⟩
  ·replace H := cnd_f c16 H
   refine AW.exit ?_
   exact Exists.intro (y9, t10, y11, t12) ⟨H, WK.at [0, 0] (.cons (.refl _) (.cons (.refl _) (.cons (.refl _) (.cons (.refl _) (.nil _))))) rfl⟩
 rintro ⟨y63, t64, y65, t66⟩ H
 replace H : part_Split_j1 F a1 a3 y63 y65 = some (r4, r5, r6) := H
 unfold part_Split_j1 at H
 show AW _ _ _ _ _ _
 refine AW.seq ?_
 refine AW.seq ?_
 obtain ⟨x68, x69, x70, e71, H⟩ := bnd3_s H
 refine AW.region ?_
 show AR _ _ _ _ _ [0, 1, 2, 3, 4, 5, 6, 7, 8, 9] _
 refine sS rfl rfl rfl (opS_move (av := slE _ _ _) rfl) ?_
 refine sS rfl rfl rfl (opS_move (av := slE _ _ _) rfl) ?_
 refine AR.run rfl rfl (AO.callp rfl en10_parta rfl (w_part_Join F y63 (some t64) y65 (some t66) x68 x69 x70 e71) ?_)
 refine sS rfl rfl rfl (opS_move (av := .tup _) rfl) ?_
 refine sS rfl rfl rfl (opS_extract (av := slE _ _ _) rfl rfl) ?_
 refine sS rfl rfl rfl (opS_extract (av := .v _) rfl rfl) ?_
 refine sS rfl rfl rfl (opS_extract (av := .v _) rfl rfl) ?_
 refine sS rfl rfl rfl (opS_assign (av := slE _ _ _) rfl) ?_
 refine sS rfl rfl rfl (asg rfl) ?_
 refine sS rfl rfl rfl (asg rfl) ?_
 refine AR.nil ?_
 show AW _ _ _ _ _ _
 refine AW.seq ?_
 obtain ⟨x74, e75, H⟩ := lt_s H
 refine AW.region ?_
 show AR _ _ _ _ _ [0, 1, 2, 3, 4, 5, 6, 7, 8, 9, 10, 11, 12] _
 refine sS rfl rfl rfl (mv rfl) ?_
 refine sS rfl rfl rfl (opS_nei rfl rfl) ?_
 refine sS rfl rfl rfl (mv rfl) ?_
 refine AR.meet (l := [7, 8, 9, 10, 11, 12]) 74 (B ((!decide (x70 = 0)) || (!decide (x69 = a3)))) (fun K => ?_) ?_
 ·rcases Bool.eq_false_or_eq_true (!decide (x70 = 0)) with h72 | h72
  ·
   refine gF h72 rfl rfl rfl rfl rfl ?_
   refine gF h72 rfl rfl rfl rfl rfl ?_
   refine gF h72 rfl rfl rfl rfl rfl ?_
   refine sS rfl rfl rfl (opS_pick_t (av := .v _) rfl h72 rfl) ?_
   exact K _ 3 _ (B_congr (or_t h72)) rfl rfl
  ·
   refine gT h72 rfl rfl rfl rfl rfl rfl (AO.ops rfl rfl (mv rfl) ?_)
   refine gT h72 rfl rfl rfl rfl rfl rfl (AO.ops rfl rfl (mv rfl) ?_)
   refine gT h72 rfl rfl rfl rfl rfl rfl (AO.ops rfl rfl (opS_nes rfl rfl) ?_)
   refine sS rfl rfl rfl (opS_pick_f (av := .v _) rfl h72 rfl) ?_
   exact K _ 3 _ (B_congr (or_f h72)) rfl rfl
 refine sS rfl rfl rfl (mv rfl) ?_
 refine AR.meet (l := []) 80 (B (((!decide (x70 = 0)) || (!decide (x69 = a3))) || (!x74))) (fun K => ?_) ?_
 ·rcases Bool.eq_false_or_eq_true ((!decide (x70 = 0)) || (!decide (x69 = a3))) with h73 | h73
  ·
   refine gF h73 rfl rfl rfl rfl rfl ?_
   refine gF h73 rfl rfl rfl rfl rfl ?_
   refine gF h73 rfl rfl rfl rfl rfl ?_
   refine gF h73 rfl rfl rfl rfl rfl ?_
   refine sS rfl rfl rfl (opS_pick_t (av := .v _) rfl h73 rfl) ?_
   exact K _ 4 _ (B_congr (or_t h73)) rfl rfl
  ·
   refine gT h73 rfl rfl rfl rfl rfl rfl (AO.ops rfl rfl (opS_move (av := slE _ _ _) rfl) ?_)
   refine gT h73 rfl rfl rfl rfl rfl rfl (AO.ops rfl rfl (opS_move (av := slE _ _ _) rfl) ?_)
   refine gT h73 rfl rfl rfl rfl rfl rfl (AO.callp rfl en36_parta rfl (show ACalls _ _ _ [] (Ret (B x74) []) from by subst e75; exact lib_bytesEqual x68 a1 none q2) ?_)
   refine gT h73 rfl rfl rfl rfl rfl rfl (AO.ops rfl rfl (opS_not rfl) ?_)
   refine sS rfl rfl rfl (opS_pick_f (av := .v _) rfl h73 rfl) ?_
   exact K _ 4 _ (B_congr (or_f h73)) rfl rfl
 refine AR.nil ?_
 show AW _ _ _ _ _ _
 refine AW.cond rfl (fun c76 => ?_) (fun c76 => ?_)
 ·replace H := cnd_t c76 H
  refine AW.seq ?_
  refine AW.region ?_
  show AR _ _ _ _ _ [0, 1, 2] _
  refine sS rfl rfl rfl (asg rfl) ?_
  refine sS rfl rfl rfl (asg rfl) ?_
  refine sS rfl rfl rfl (asg rfl) ?_
  refine AR.nil ?_
  show AW _ _ _ _ _ _
  refine AW.ret ?_
  obtain ⟨rfl, rfl, rfl⟩ := res3 H
  exact And.intro rfl (Exists.intro _ (Exists.intro _ ⟨ResV.threeW rfl (.nil _) (.nil _) (.refl _), Sub.at [] rfl, rfl, rfl⟩))
 ·replace H := cnd_f c76 H
  refine AW.skip ?_
  show AW _ _ _ _ _ _
  refine AW.seq ?_
  refine AW.region ?_
  show AR _ _ _ _ _ [0, 1, 2, 3, 4] _
  refine sS rfl rfl rfl (opS_move (av := slE _ _ _) rfl) ?_
  refine sS rfl rfl rfl (opS_move (av := slE _ _ _) rfl) ?_
  refine sS rfl rfl rfl (opS_assign (av := slE _ _ _) rfl) ?_
  refine sS rfl rfl rfl (opS_assign (av := slE _ _ _) rfl) ?_
  refine sS rfl rfl rfl (asg rfl) ?_
  refine AR.nil ?_
  show AW _ _ _ _ _ _
  refine AW.ret ?_
  obtain ⟨rfl, rfl, rfl⟩ := res3 H
  exact And.intro rfl (Exists.intro _ (Exists.intro _ ⟨ResV.threeW rfl (.tok _ _ _) (.tok _ _ _) (.refl _), Sub.at [] rfl, rfl, rfl⟩))
end Go.Proofs.YtdaafnaokdigbaaGreatDoor
namespace Go.Pv
def partl_k1 : List UInt8 := [45, 45, 61, 95, 48, 13, 10, 67, 111, 110, 116, 101, 110, 116, 45, 84, 121, 112, 101, 58, 32, 116, 101, 120, 116, 47, 112, 108, 97, 105, 110, 13, 10, 67, 111, 110, 116, 101, 110, 116, 45, 84, 114, 97, 110, 115, 102, 101, 114, 45, 69, 110, 99, 111, 100, 105, 110, 103, 58, 32, 113, 117, 111, 116, 101, 100, 45, 112, 114, 105, 110, 116, 97, 98, 108, 101, 13, 10, 13, 10, 97, 13, 10, 45, 45, 61, 95, 48, 45, 45, 13, 10]
def law15_awake (F : Nat) : Option Bool :=
bnd3 (part_Join F ([([116, 101, 120, 116, 47, 112, 108, 97, 105, 110] : List UInt8)] : List (List UInt8)) ([([97] : List UInt8)] : List (List UInt8))) fun x3 x4 x5 =>
bnd3 (part_Split F x3 ([61, 95, 48] : List UInt8)) fun x7 x8 x9 =>
grdc ((((((decide (x5 = 0)) && (decide (x9 = 0))) && (decide (x4 = ([61, 95, 48] : List UInt8)))) && (decide (x3 = partl_k1))) && (decide ((x7.length : Int) = 1))) && (decide ((x8.length : Int) = 1))) (okAt 0 x8.length) <|
lt (at_ x8 0) fun x18 =>
bndc (((((((decide (x5 = 0)) && (decide (x9 = 0))) && (decide (x4 = ([61, 95, 48] : List UInt8)))) && (decide (x3 = partl_k1))) && (decide ((x7.length : Int) = 1))) && (decide ((x8.length : Int) = 1))) && (decide (x18 = ([97] : List UInt8)))) (part_Boundary F []) fun x21 =>
some ((((((((decide (x5 = 0)) && (decide (x9 = 0))) && (decide (x4 = ([61, 95, 48] : List UInt8)))) && (decide (x3 = partl_k1))) && (decide ((x7.length : Int) = 1))) && (decide ((x8.length : Int) = 1))) && (decide (x18 = ([97] : List UInt8)))) && (decide (x21 = ([61, 95, 48] : List UInt8))))
def law15_Few_j1 : Option Bool :=
some true
def law15_Few_B1 (a3 : List (List UInt8)) (rec19 : Int → Option Bool) (y18 : Int) : Option Bool :=
bif decide (y18 < (a3.length : Int)) then
  grd (okAt y18 a3.length) <|
  lt (at_ a3 y18) fun x23 =>
  bif decide (300 < (x23.length : Int)) then
    some false
  else
    grd (okI (y18 + 1)) <|
    rec19 (y18 + 1)
else
  law15_Few_j1
def law15_Few_L1 (a3 : List (List UInt8)) (n : Nat) : Int → Option Bool :=
  loop (fun rec x => law15_Few_B1 a3 rec x) n
def law15_Few_j2 (F : Nat) (a3 : List (List UInt8)) : Option Bool :=
law15_Few_L1 a3 F 0
def law15_Few_B2 (F : Nat) (a1 : List (List UInt8)) (a3 : List (List UInt8)) (rec9 : Int → Option Bool) (y8 : Int) : Option Bool :=
bif decide (y8 < (a1.length : Int)) then
  grd (okAt y8 a1.length) <|
  lt (at_ a1 y8) fun x13 =>
  bif decide (100 < (x13.length : Int)) then
    some false
  else
    grd (okI (y8 + 1)) <|
    rec9 (y8 + 1)
else
  law15_Few_j2 F a3
def law15_Few_L2 (F : Nat) (a1 : List (List UInt8)) (a3 : List (List UInt8)) (n : Nat) : Int → Option Bool :=
  loop (fun rec x => law15_Few_B2 F a1 a3 rec x) n
def law15_Few (F : Nat) (a1 : List (List UInt8)) (a3 : List (List UInt8)) : Option Bool :=
bif (decide (10 < (a1.length : Int))) || (decide (10 < (a3.length : Int))) then
  some false
else
  law15_Few_L2 F a1 a3 F 0
end Go.Pv
namespace Go.Proofs.YtdaafnaokdigbaaGreatDoor
open Go.RowKit Go.Av Go.Pv
theorem en10_partl : ∀ (args : Array Value) (w : World), (callFunc 10 args).run Tryz.prog w = .ok (.enter 10 args) w := fun _ _ => by kernel_rfl
theorem en12_partl : ∀ (args : Array Value) (w : World), (callFunc 12 args).run Tryz.prog w = .ok (.enter 12 args) w := fun _ _ => by kernel_rfl
theorem en14_partl : ∀ (args : Array Value) (w : World), (callFunc 14 args).run Tryz.prog w = .ok (.enter 14 args) w := fun _ _ => by kernel_rfl
set_option maxRecDepth 100000 in
set_option maxHeartbeats 1000000 in
theorem w_law15_awake (F : Nat) (r1 : Bool) (H : law15_awake F = some r1) : ACalls Tryz.prog 8 [] [] (Ret (B r1) []) := by
 unfold law15_awake at H
 refine ACalls.of_body Tryz.func8 rfl rfl ?_
 show AW _ _ 58 _ _ _
 refine AW.seq ?_
 refine AW.region ?_
 show AR _ _ _ _ _ [0] _
 refine sS rfl rfl rfl (asg rfl) ?_
 refine AR.nil ?_
 show AW _ _ _ _ _ _
 refine AW.seq ?_
 obtain ⟨x3, x4, x5, e6, H⟩ := bnd3_s H
 refine AW.region ?_
 show AR _ _ _ _ _ [0, 1, 2, 3, 4, 5, 6, 7, 8, 9, 10, 11] _
 refine sR rfl rfl rfl (opR_buildE (E := Enc.str) (bytes := 16) (xs := [.const _]) (l := ([([116, 101, 120, 116, 47, 112, 108, 97, 105, 110] : List UInt8)] : List (List UInt8))) Tryz.underlying22 (by kernel_rfl) rfl rfl (by decide) rfl rfl) ?_
 refine sX rfl rfl rfl (opX_buildE (E := Enc.byte) (bytes := 1) (xs := [.const _]) (l := ([97] : List UInt8)) Tryz.underlying26 (by kernel_rfl) rfl rfl (by decide) rfl rfl) ?_
 rintro _ _ ⟨t2, rfl, rfl⟩
 refine sR rfl rfl rfl (opR_conv_same 0 Tryz.underlying26 Tryz.underlying5 rfl (by simp) rfl) ?_
 refine sR rfl rfl rfl (OpR.weak1 10 (.tok _ _ _) <| opR_buildE (E := (Enc.sl Enc.byte)) (bytes := 24) (xs := [.tmp 10]) (l := ([([97] : List UInt8)] : List (List UInt8))) Tryz.underlying23 (by kernel_rfl) rfl rfl (by decide) rfl rfl) ?_
 refine AR.run rfl rfl (AO.callp rfl en10_partl rfl (w_part_Join F ([([116, 101, 120, 116, 47, 112, 108, 97, 105, 110] : List UInt8)] : List (List UInt8)) none ([([97] : List UInt8)] : List (List UInt8)) none x3 x4 x5 e6) ?_)
 refine sS rfl rfl rfl (opS_move (av := .tup _) rfl) ?_
 refine sS rfl rfl rfl (opS_extract (av := slE _ _ _) rfl rfl) ?_
 refine sS rfl rfl rfl (opS_extract (av := .v _) rfl rfl) ?_
 refine sS rfl rfl rfl (opS_extract (av := .v _) rfl rfl) ?_
 refine sS rfl rfl rfl (opS_assign (av := slE _ _ _) rfl) ?_
 refine sS rfl rfl rfl (asg rfl) ?_
 refine sS rfl rfl rfl (asg rfl) ?_
 refine AR.nil ?_
 show AW _ _ _ _ _ _
 refine AW.seq ?_
 obtain ⟨x7, x8, x9, e10, H⟩ := bnd3_s H
 refine AW.region ?_
 show AR _ _ _ _ _ [0, 1, 2, 3, 4, 5, 6, 7, 8] _
 refine sS rfl rfl rfl (opS_move (av := slE _ _ _) rfl) ?_
 refine AR.run rfl rfl (AO.callp rfl en14_partl rfl (w_part_Split F x3 none ([61, 95, 48] : List UInt8) x7 x8 x9 e10) ?_)
 refine sS rfl rfl rfl (opS_move (av := .tup _) rfl) ?_
 refine sS rfl rfl rfl (opS_extract (av := slE _ _ _) rfl rfl) ?_
 refine sS rfl rfl rfl (opS_extract (av := slE _ _ _) rfl rfl) ?_
 refine sS rfl rfl rfl (opS_extract (av := .v _) rfl rfl) ?_
 refine sS rfl rfl rfl (opS_assign (av := slE _ _ _) rfl) ?_
 refine sS rfl rfl rfl (opS_assign (av := slE _ _ _) rfl) ?_
 refine sS rfl rfl rfl (asg rfl) ?_
 refine AR.nil ?_
 show AW _ _ _ _ _ _
 refine AW.seq ?_
 obtain ⟨g17, H⟩ := grdc_s H
 obtain ⟨x18, e19, H⟩ := lt_s H
 obtain ⟨x21, e22, H⟩ := bndc_s H
 refine AW.region ?_
 show AR _ _ _ _ _ [0, 1, 2, 3, 4, 5, 6, 7, 8, 9, 10, 11, 12, 13, 14, 15, 16, 17, 18, 19, 20, 21, 22, 23, 24, 25, 26, 27, 28, 29, 30, 31, 32, 33, 34, 35, 36] _
 refine sS rfl rfl rfl (mv rfl) ?_
 refine sS rfl rfl rfl (opS_eqi rfl rfl) ?_
 refine sS rfl rfl rfl (mv rfl) ?_
 refine AR.meet (l := [6, 7, 8, 9, 10, 11, 12, 13, 14, 15, 16, 17, 18, 19, 20, 21, 22, 23, 24, 25, 26, 27, 28, 29, 30, 31, 32, 33, 34, 35, 36]) 27 (B ((decide (x5 = 0)) && (decide (x9 = 0)))) (fun K => ?_) ?_
 ·rcases Bool.eq_false_or_eq_true (decide (x5 = 0)) with h11 | h11
  ·
   refine gT h11 rfl rfl rfl rfl rfl rfl (AO.ops rfl rfl (mv rfl) ?_)
   refine gT h11 rfl rfl rfl rfl rfl rfl (AO.ops rfl rfl (opS_eqi rfl rfl) ?_)
   refine sS rfl rfl rfl (opS_pick_t (av := .v _) rfl h11 rfl) ?_
   exact K _ 2 _ (B_congr (and_t h11)) rfl rfl
  ·
   refine gF h11 rfl rfl rfl rfl rfl ?_
   refine gF h11 rfl rfl rfl rfl rfl ?_
   refine sS rfl rfl rfl (opS_pick_f (av := .v _) rfl h11 rfl) ?_
   exact K _ 2 _ (B_congr (and_f h11)) rfl rfl
 refine sS rfl rfl rfl (mv rfl) ?_
 refine AR.meet (l := [10, 11, 12, 13, 14, 15, 16, 17, 18, 19, 20, 21, 22, 23, 24, 25, 26, 27, 28, 29, 30, 31, 32, 33, 34, 35, 36]) 31 (B (((decide (x5 = 0)) && (decide (x9 = 0))) && (decide (x4 = ([61, 95, 48] : List UInt8))))) (fun K => ?_) ?_
 ·rcases Bool.eq_false_or_eq_true ((decide (x5 = 0)) && (decide (x9 = 0))) with h12 | h12
  ·
   refine gT h12 rfl rfl rfl rfl rfl rfl (AO.ops rfl rfl (mv rfl) ?_)
   refine gT h12 rfl rfl rfl rfl rfl rfl (AO.ops rfl rfl (opS_eqs rfl rfl) ?_)
   refine sS rfl rfl rfl (opS_pick_t (av := .v _) rfl h12 rfl) ?_
   exact K _ 2 _ (B_congr (and_t h12)) rfl rfl
  ·
   refine gF h12 rfl rfl rfl rfl rfl ?_
   refine gF h12 rfl rfl rfl rfl rfl ?_
   refine sS rfl rfl rfl (opS_pick_f (av := .v _) rfl h12 rfl) ?_
   exact K _ 2 _ (B_congr (and_f h12)) rfl rfl
 refine sS rfl rfl rfl (mv rfl) ?_
 refine AR.meet (l := [15, 16, 17, 18, 19, 20, 21, 22, 23, 24, 25, 26, 27, 28, 29, 30, 31, 32, 33, 34, 35, 36]) 36 (B ((((decide (x5 = 0)) && (decide (x9 = 0))) && (decide (x4 = ([61, 95, 48] : List UInt8)))) && (decide (x3 = partl_k1)))) (fun K => ?_) ?_
 ·rcases Bool.eq_false_or_eq_true (((decide (x5 = 0)) && (decide (x9 = 0))) && (decide (x4 = ([61, 95, 48] : List UInt8)))) with h13 | h13
  ·
   refine gT h13 rfl rfl rfl rfl rfl rfl (AO.ops rfl rfl (opS_move (av := slE _ _ _) rfl) ?_)
   refine gT h13 rfl rfl rfl rfl rfl rfl (AO.ops rfl rfl (opS_conv_bytes_str Tryz.underlying26 Tryz.underlying5 Tryz.underlying9 rfl) ?_)
   refine gT h13 rfl rfl rfl rfl rfl rfl (AO.ops rfl rfl (opS_eqs rfl rfl) ?_)
   refine sS rfl rfl rfl (opS_pick_t (av := .v _) rfl h13 rfl) ?_
   exact K _ 3 _ (B_congr (and_t h13)) rfl rfl
  ·
   refine gF h13 rfl rfl rfl rfl rfl ?_
   refine gF h13 rfl rfl rfl rfl rfl ?_
   refine gF h13 rfl rfl rfl rfl rfl ?_
   refine sS rfl rfl rfl (opS_pick_f (av := .v _) rfl h13 rfl) ?_
   exact K _ 3 _ (B_congr (and_f h13)) rfl rfl
 refine sS rfl rfl rfl (mv rfl) ?_
 refine AR.meet (l := [20, 21, 22, 23, 24, 25, 26, 27, 28, 29, 30, 31, 32, 33, 34, 35, 36]) 41 (B (((((decide (x5 = 0)) && (decide (x9 = 0))) && (decide (x4 = ([61, 95, 48] : List UInt8)))) && (decide (x3 = partl_k1))) && (decide ((x7.length : Int) = 1)))) (fun K => ?_) ?_
 ·rcases Bool.eq_false_or_eq_true ((((decide (x5 = 0)) && (decide (x9 = 0))) && (decide (x4 = ([61, 95, 48] : List UInt8)))) && (decide (x3 = partl_k1))) with h14 | h14
  ·
   refine gT h14 rfl rfl rfl rfl rfl rfl (AO.ops rfl rfl (opS_move (av := slE _ _ _) rfl) ?_)
   refine gT h14 rfl rfl rfl rfl rfl rfl (AO.ops rfl rfl (opS_len_sl Tryz.underlying22 rfl) ?_)
   refine gT h14 rfl rfl rfl rfl rfl rfl (AO.ops rfl rfl (opS_eqi rfl rfl) ?_)
   refine sS rfl rfl rfl (opS_pick_t (av := .v _) rfl h14 rfl) ?_
   exact K _ 3 _ (B_congr (and_t h14)) rfl rfl
  ·
   refine gF h14 rfl rfl rfl rfl rfl ?_
   refine gF h14 rfl rfl rfl rfl rfl ?_
   refine gF h14 rfl rfl rfl rfl rfl ?_
   refine sS rfl rfl rfl (opS_pick_f (av := .v _) rfl h14 rfl) ?_
   exact K _ 3 _ (B_congr (and_f h14)) rfl rfl
 refine sS rfl rfl rfl (mv rfl) ?_
 refine AR.meet (l := [25, 26, 27, 28, 29, 30, 31, 32, 33, 34, 35, 36]) 46 (B ((((((decide (x5 = 0)) && (decide (x9 = 0))) && (decide (x4 = ([61, 95, 48] : List UInt8)))) && (decide (x3 = partl_k1))) && (decide ((x7.length : Int) = 1))) && (decide ((x8.length : Int) = 1)))) (fun K => ?_) ?_
 ·rcases Bool.eq_false_or_eq_true (((((decide (x5 = 0)) && (decide (x9 = 0))) && (decide (x4 = ([61, 95, 48] : List UInt8)))) && (decide (x3 = partl_k1))) && (decide ((x7.length : Int) = 1))) with h15 | h15
  ·
   refine gT h15 rfl rfl rfl rfl rfl rfl (AO.ops rfl rfl (opS_move (av := slE _ _ _) rfl) ?_)
   refine gT h15 rfl rfl rfl rfl rfl rfl (AO.ops rfl rfl (opS_len_sl Tryz.underlying23 rfl) ?_)
   refine gT h15 rfl rfl rfl rfl rfl rfl (AO.ops rfl rfl (opS_eqi rfl rfl) ?_)
   refine sS rfl rfl rfl (opS_pick_t (av := .v _) rfl h15 rfl) ?_
   exact K _ 3 _ (B_congr (and_t h15)) rfl rfl
  ·
   refine gF h15 rfl rfl rfl rfl rfl ?_
   refine gF h15 rfl rfl rfl rfl rfl ?_
   refine gF h15 rfl rfl rfl rfl rfl ?_
   refine sS rfl rfl rfl (opS_pick_f (av := .v _) rfl h15 rfl) ?_
   exact K _ 3 _ (B_congr (and_f h15)) rfl rfl
 refine sS rfl rfl rfl (mv rfl) ?_
 refine AR.meet (l := [32, 33, 34, 35, 36]) 53 (B (((((((decide (x5 = 0)) && (decide (x9 = 0))) && (decide (x4 = ([61, 95, 48] : List UInt8)))) && (decide (x3 = partl_k1))) && (decide ((x7.length : Int) = 1))) && (decide ((x8.length : Int) = 1))) && (decide (x18 = ([97] : List UInt8))))) (fun K => ?_) ?_
 ·rcases Bool.eq_false_or_eq_true ((((((decide (x5 = 0)) && (decide (x9 = 0))) && (decide (x4 = ([61, 95, 48] : List UInt8)))) && (decide (x3 = partl_k1))) && (decide ((x7.length : Int) = 1))) && (decide ((x8.length : Int) = 1))) with h16 | h16
  ·
   refine gT h16 rfl rfl rfl rfl rfl rfl (AO.ops rfl rfl (opS_move (av := slE _ _ _) rfl) ?_)
   refine gT h16 rfl rfl rfl rfl rfl rfl (AO.ops rfl rfl (g_indexAddr (E := (Enc.sl Enc.byte)) Tryz.underlying23 (by kernel_rfl) rfl rfl (g17 h16) e19) ?_)
   refine gT h16 rfl rfl rfl rfl rfl rfl (AO.ops rfl rfl (opS_load_cp Tryz.underlying26 rfl rfl) ?_)
   refine gT h16 rfl rfl rfl rfl rfl rfl (AO.ops rfl rfl (opS_conv_bytes_str Tryz.underlying26 Tryz.underlying5 Tryz.underlying9 rfl) ?_)
   refine gT h16 rfl rfl rfl rfl rfl rfl (AO.ops rfl rfl (opS_eqs rfl rfl) ?_)
   refine sS rfl rfl rfl (opS_pick_t (av := .v _) rfl h16 rfl) ?_
   exact K _ 5 _ (B_congr (and_t h16)) rfl rfl
  ·
   refine gF h16 rfl rfl rfl rfl rfl ?_
   refine gF h16 rfl rfl rfl rfl rfl ?_
   refine gF h16 rfl rfl rfl rfl rfl ?_
   refine gF h16 rfl rfl rfl rfl rfl ?_
   refine gF h16 rfl rfl rfl rfl rfl ?_
   refine sS rfl rfl rfl (opS_pick_f (av := .v _) rfl h16 rfl) ?_
   exact K _ 5 _ (B_congr (and_f h16)) rfl rfl
 refine sS rfl rfl rfl (mv rfl) ?_
 refine AR.meet (l := [36]) 57 (B ((((((((decide (x5 = 0)) && (decide (x9 = 0))) && (decide (x4 = ([61, 95, 48] : List UInt8)))) && (decide (x3 = partl_k1))) && (decide ((x7.length : Int) = 1))) && (decide ((x8.length : Int) = 1))) && (decide (x18 = ([97] : List UInt8)))) && (decide (x21 = ([61, 95, 48] : List UInt8))))) (fun K => ?_) ?_
 ·rcases Bool.eq_false_or_eq_true (((((((decide (x5 = 0)) && (decide (x9 = 0))) && (decide (x4 = ([61, 95, 48] : List UInt8)))) && (decide (x3 = partl_k1))) && (decide ((x7.length : Int) = 1))) && (decide ((x8.length : Int) = 1))) && (decide (x18 = ([97] : List UInt8)))) with h20 | h20
  ·
   refine gT h20 rfl rfl rfl rfl rfl rfl (AO.callp rfl en12_partl rfl (ACalls.weakA (.cons (.nil _) (.nil)) (w_part_Boundary F [] none x21 (e22 h20))) ?_)
   refine gT h20 rfl rfl rfl rfl rfl rfl (AO.ops rfl rfl (opS_eqs rfl rfl) ?_)
   refine sS rfl rfl rfl (opS_pick_t (av := .v _) rfl h20 rfl) ?_
   exact K _ 2 _ (B_congr (and_t h20)) rfl rfl
  ·
   refine gF h20 rfl rfl rfl rfl rfl ?_
   refine gF h20 rfl rfl rfl rfl rfl ?_
   refine sS rfl rfl rfl (opS_pick_f (av := .v _) rfl h20 rfl) ?_
   exact K _ 2 _ (B_congr (and_f h20)) rfl rfl
 refine sS rfl rfl rfl (asg rfl) ?_
 refine AR.nil ?_
 show AW _ _ _ _ _ _
 refine AW.ret ?_
 obtain rfl := Option.some.inj H
 exact And.intro rfl (Exists.intro _ (Exists.intro _ ⟨ResV.oneW rfl (.refl _), Sub.at [] rfl, rfl, rfl⟩))
set_option maxRecDepth 100000 in
set_option maxHeartbeats 1000000 in
theorem w_law15_Few (F : Nat) (a1 : List (List UInt8)) (q2 : Option Nat) (a3 : List (List UInt8)) (q4 : Option Nat) (r5 : Bool) (H : law15_Few F a1 a3 = some r5) : ACalls Tryz.prog 9 [slE Enc.str a1 q2, slE (Enc.sl Enc.byte) a3 q4] [] (Ret (B r5) []) := by
 unfold law15_Few at H
 refine ACalls.of_body Tryz.func9 rfl rfl ?_
 show AW _ _ 39 _ _ _
 refine AW.seq ?_
 refine AW.region ?_
 show AR _ _ _ _ _ [0] _
 refine sS rfl rfl rfl (asg rfl) ?_
 refine AR.nil ?_
 show AW _ _ _ _ _ _
 refine AW.seq ?_
 refine AW.seq ?_
 refine AW.region ?_
 show AR _ _ _ _ _ [0, 1, 2, 3, 4, 5, 6, 7] _
 refine sS rfl rfl rfl (opS_move (av := slE _ _ _) rfl) ?_
 refine sS rfl rfl rfl (opS_len_sl Tryz.underlying22 rfl) ?_
 refine sS rfl rfl rfl (opS_gt rfl rfl) ?_
 refine sS rfl rfl rfl (mv rfl) ?_
 refine AR.meet (l := []) 14 (B ((decide (10 < (a1.length : Int))) || (decide (10 < (a3.length : Int))))) (fun K => ?_) ?_
 ·rcases Bool.eq_false_or_eq_true (decide (10 < (a1.length : Int))) with h6 | h6
  ·
   refine gF h6 rfl rfl rfl rfl rfl ?_
   refine gF h6 rfl rfl rfl rfl rfl ?_
   refine gF h6 rfl rfl rfl rfl rfl ?_
   refine sS rfl rfl rfl (opS_pick_t (av := .v _) rfl h6 rfl) ?_
   exact K _ 3 _ (B_congr (or_t h6)) rfl rfl
  ·
   refine gT h6 rfl rfl rfl rfl rfl rfl (AO.ops rfl rfl (opS_move (av := slE _ _ _) rfl) ?_)
   refine gT h6 rfl rfl rfl rfl rfl rfl (AO.ops rfl rfl (opS_len_sl Tryz.underlying23 rfl) ?_)
   refine gT h6 rfl rfl rfl rfl rfl rfl (AO.ops rfl rfl (opS_gt rfl rfl) ?_)
   refine sS rfl rfl rfl (opS_pick_f (av := .v _) rfl h6 rfl) ?_
   exact K _ 3 _ (B_congr (or_f h6)) rfl rfl
 refine AR.nil ?_
 show AW _ _ _ _ _ _
 refine AW.cond rfl (fun c7 => ?_) (fun c7 => ?_)
 ·replace H := cnd_t c7 H
  refine AW.seq ?_
  refine AW.region ?_
  show AR _ _ _ _ _ [0] _
  refine sS rfl rfl rfl (asg rfl) ?_
  refine AR.nil ?_
  show AW _ _ _ _ _ _
  refine AW.ret ?_
  obtain rfl := Option.some.inj H
  exact And.intro rfl (Exists.intro _ (Exists.intro _ ⟨ResV.oneW rfl (.refl _), Sub.at [] rfl, rfl, rfl⟩))
 ·replace H := cnd_f c7 H
  refine AW.skip ?_
  show AW _ _ _ _ _ _
  refine AW.cut (X := Unit) (fun _ => ⟨[(1, slE (Enc.sl Enc.byte) a3 q4)], [], []⟩) (fun _ => law15_Few_j2 F a3 = some r5) ?_ ?_
  ·
   refine AW.seq ?_
   refine AW.region ?_
   show AR _ _ _ _ _ [0] _
   refine sS rfl rfl rfl (asg rfl) ?_
   refine AR.nil ?_
   show AW _ _ _ _ _ _
   refine AW.block ?_
   refine AW.loop (X := Nat × Int) (fun (n10, y8) => ⟨[(0, slE Enc.str a1 q2), (1, slE (Enc.sl Enc.byte) a3 q4), (5, i64 y8)], [], []⟩) (fun (n10, y8) => law15_Few_L2 F a1 a3 n10 y8 = some r5) (fun (n10, y8) => n10) (F, 0) H (WK.at [] (.cons (.refl _) (.cons (.refl _) (.cons (.refl _) (.nil _)))) rfl) ?_
   rintro ⟨n10, y8⟩ H
   obtain ⟨n10, rfl, H⟩ := loop_s H
   replace H : law15_Few_B2 F a1 a3 (law15_Few_L2 F a1 a3 n10) y8 = some r5 := H
   unfold law15_Few_B2 at H
   show AW _ _ _ _ _ _
   refine AW.seq ?_
   refine AW.seq ?_
   refine AW.region ?_
   show AR _ _ _ _ _ [0, 1, 2, 3] _
   refine sS rfl rfl rfl (mv rfl) ?_
   refine sS rfl rfl rfl (opS_move (av := slE _ _ _) rfl) ?_
   refine sS rfl rfl rfl (opS_len_sl Tryz.underlying22 rfl) ?_
   refine sS rfl rfl rfl (opS_lt rfl rfl) ?_
   refine AR.nil ?_
   show AW _ _ _ _ _ _
   refine AW.cond rfl (fun c11 => ?_) (fun c11 => ?_)
   ·replace H := cnd_t c11 H
    refine AW.skip ?_
    show AW _ _ _ _ _ _
    refine AW.seq ?_
    refine AW.block ?_
    refine AW.seq ?_
    obtain ⟨g12, H⟩ := grd_s H
    obtain ⟨x13, e14, H⟩ := lt_s H
    refine AW.region ?_
    show AR _ _ _ _ _ [0, 1, 2, 3, 4, 5] _
    refine sS rfl rfl rfl (opS_move (av := slE _ _ _) rfl) ?_
    refine sS rfl rfl rfl (mv rfl) ?_
    refine sS rfl rfl rfl (g_indexAddr (E := Enc.str) Tryz.underlying22 (by kernel_rfl) rfl rfl g12 e14) ?_
    refine sS rfl rfl rfl (opS_load_cp Tryz.underlying9 rfl rfl) ?_
    refine sS rfl rfl rfl (opS_len_str Tryz.underlying9 rfl) ?_
    refine sS rfl rfl rfl (opS_gt rfl rfl) ?_
    refine AR.nil ?_
    show AW _ _ _ _ _ _
    refine AW.cond rfl (fun c15 => ?_) (fun c15 => ?_)
    ·replace H := cnd_t c15 H
     refine AW.seq ?_
     refine AW.region ?_
     show AR _ _ _ _ _ [0] _
     refine sS rfl rfl rfl (asg rfl) ?_
     refine AR.nil ?_
     show AW _ _ _ _ _ _
     refine AW.ret ?_
     obtain rfl := Option.some.inj H
     exact And.intro rfl (Exists.intro _ (Exists.intro _ ⟨ResV.oneW rfl (.refl _), Sub.at [] rfl, rfl, rfl⟩))
    ·replace H := cnd_f c15 H
     refine AW.skip ?_
     show AW _ _ _ _ _ _
     obtain ⟨g16, H⟩ := grd_s H
     refine AW.region ?_
     show AR _ _ _ _ _ [0, 1, 2] _
     refine sS rfl rfl rfl (mv rfl) ?_
     refine sS rfl rfl rfl (g_add rfl rfl g16) ?_
     refine sS rfl rfl rfl (asg rfl) ?_
     refine AR.nil ?_
     exact Exists.intro (n10, y8 + 1) ⟨H, Nat.lt_succ_self _, WK.at [] (.cons (.refl _) (.cons (.refl _) (.cons (.refl _) (.nil _)))) rfl⟩
   ·replace H := cnd_f c11 H
    refine AW.exit ?_
    exact Exists.intro () ⟨H, WK.at [] (.cons (.refl _) (.nil _)) rfl⟩
  rintro _ H
  replace H : law15_Few_j2 F a3 = some r5 := H
  unfold law15_Few_j2 at H
  show AW _ _ _ _ _ _
  refine AW.cut (X := Unit) (fun _ => ⟨[], [], []⟩) (fun _ => law15_Few_j1 = some r5) ?_ ?_
  ·
   refine AW.seq ?_
   refine AW.region ?_
   show AR _ _ _ _ _ [0] _
   refine sS rfl rfl rfl (asg rfl) ?_
   refine AR.nil ?_
   show AW _ _ _ _ _ _
   refine AW.block ?_
   refine AW.loop (X := Nat × Int) (fun (n20, y18) => ⟨[(1, slE (Enc.sl Enc.byte) a3 q4), (6, i64 y18)], [], []⟩) (fun (n20, y18) => law15_Few_L1 a3 n20 y18 = some r5) (fun (n20, y18) => n20) (F, 0) H (WK.at [] (.cons (.refl _) (.cons (.refl _) (.nil _))) rfl) ?_
   rintro ⟨n20, y18⟩ H
   obtain ⟨n20, rfl, H⟩ := loop_s H
   replace H : law15_Few_B1 a3 (law15_Few_L1 a3 n20) y18 = some r5 := H
   unfold law15_Few_B1 at H
   show AW _ _ _ _ _ _
   refine AW.seq ?_
   refine AW.seq ?_
   refine AW.region ?_
   show AR _ _ _ _ _ [0, 1, 2, 3] _
   refine sS rfl rfl rfl (mv rfl) ?_
   refine sS rfl rfl rfl (opS_move (av := slE _ _ _) rfl) ?_
   refine sS rfl rfl rfl (opS_len_sl Tryz.underlying23 rfl) ?_
   refine sS rfl rfl rfl (opS_lt rfl rfl) ?_
   refine AR.nil ?_
   show AW _ _ _ _ _ _
   refine AW.cond rfl (fun c21 => ?_) (fun c21 => ?_)
   ·replace H := cnd_t c21 H
    refine AW.skip ?_
    show AW _ _ _ _ _ _
    refine AW.seq ?_
    refine AW.block ?_
    refine AW.seq ?_
    obtain ⟨g22, H⟩ := grd_s H
    obtain ⟨x23, e24, H⟩ := lt_s H
    refine AW.region ?_
    show AR _ _ _ _ _ [0, 1, 2, 3, 4, 5] _
    refine sS rfl rfl rfl (opS_move (av := slE _ _ _) rfl) ?_
    refine sS rfl rfl rfl (mv rfl) ?_
    refine sS rfl rfl rfl (g_indexAddr (E := (Enc.sl Enc.byte)) Tryz.underlying23 (by kernel_rfl) rfl rfl g22 e24) ?_
    refine sS rfl rfl rfl (opS_load_cp Tryz.underlying26 rfl rfl) ?_
    refine sS rfl rfl rfl (opS_len_sl Tryz.underlying26 rfl) ?_
    refine sS rfl rfl rfl (opS_gt rfl rfl) ?_
    refine AR.nil ?_
    show AW _ _ _ _ _ _
    refine AW.cond rfl (fun c25 => ?_) (fun c25 => ?_)
    ·replace H := cnd_t c25 H
     refine AW.seq ?_
     refine AW.region ?_
     show AR _ _ _ _ _ [0] _
     refine sS rfl rfl rfl (asg rfl) ?_
     refine AR.nil ?_
     show AW _ _ _ _ _ _
     refine AW.ret ?_
     obtain rfl := Option.some.inj H
     exact And.intro rfl (Exists.intro _ (Exists.intro _ ⟨ResV.oneW rfl (.refl _), Sub.at [] rfl, rfl, rfl⟩))
    ·replace H := cnd_f c25 H
     refine AW.skip ?_
     show AW _ _ _ _ _ _
     obtain ⟨g26, H⟩ := grd_s H
     refine AW.region ?_
     show AR _ _ _ _ _ [0, 1, 2] _
     refine sS rfl rfl rfl (mv rfl) ?_
     refine sS rfl rfl rfl (g_add rfl rfl g26) ?_
     refine sS rfl rfl rfl (asg rfl) ?_
     refine AR.nil ?_
     exact Exists.intro (n20, y18 + 1) ⟨H, Nat.lt_succ_self _, WK.at [] (.cons (.refl _) (.cons (.refl _) (.nil _))) rfl⟩
   ·replace H := cnd_f c21 H
    refine AW.exit ?_
    exact Exists.intro () ⟨H, WK.at [] (.nil _) rfl⟩
  rintro _ H
  replace H : law15_Few_j1 = some r5 := H
  unfold law15_Few_j1 at H
  show AW _ _ _ _ _ _
  refine AW.seq ?_
  refine AW.region ?_
  show AR _ _ _ _ _ [0] _
  refine sS rfl rfl rfl (asg rfl) ?_
  refine AR.nil ?_
  show AW _ _ _ _ _ _
  refine AW.ret ?_
  obtain rfl := Option.some.inj H
  exact And.intro rfl (Exists.intro _ (Exists.intro _ ⟨ResV.oneW rfl (.refl _), Sub.at [] rfl, rfl, rfl⟩))
end Go.Proofs.YtdaafnaokdigbaaGreatDoor
namespace Go.Pv
def headr_k1 : List UInt8 := [65, 66, 67, 68, 69, 70, 71, 72, 73, 74, 75, 76, 77, 78, 79, 80, 81, 82, 83, 84, 85, 86, 87, 88, 89, 90, 97, 98, 99, 100, 101, 102, 103, 104, 105, 106, 107, 108, 109, 110, 111, 112, 113, 114, 115, 116, 117, 118, 119, 120, 121, 122, 48, 49, 50, 51, 52, 53, 54, 55, 56, 57, 43, 47]
def ref05_Split_j1 (y30 : List (List UInt8)) : Option ((List (List UInt8))) :=
some y30
def ref05_Split_j2 (y8 : Int) (rec9 : ((List (List UInt8)) × Int × Int) → Option ((List (List UInt8)))) (y25 : List (List UInt8)) (y27 : Int) : Option ((List (List UInt8))) :=
grd (okI (y8 + 1)) <|
rec9 (y25, y27, y8 + 1)
def ref05_Split_B1 (a1 : List UInt8) (a2 : UInt8) (rec9 : ((List (List UInt8)) × Int × Int) → Option ((List (List UInt8)))) (y5 : List (List UInt8)) (y7 : Int) (y8 : Int) : Option ((List (List UInt8))) :=
bif decide (y8 ≤ (a1.length : Int)) then
  grdc (!(decide (y8 = (a1.length : Int)))) (okAt y8 a1.length) <|
  lt (at_ a1 y8) fun x14 =>
  bif (decide (y8 = (a1.length : Int))) || (decide (x14 = a2)) then
    grd (okSub y7 y8 a1.length) <|
    lt (sub a1 y7 y8) fun x18 =>
    grd (okCat (y5.length + ([x18] : List (List UInt8)).length)) <|
    lt (y5 ++ ([x18] : List (List UInt8))) fun x22 =>
    grd (okI (y8 + 1)) <|
    ref05_Split_j2 y8 rec9 x22 (y8 + 1)
  else
    ref05_Split_j2 y8 rec9 y5 y7
else
  ref05_Split_j1 y5
def ref05_Split_L1 (a1 : List UInt8) (a2 : UInt8) (n : Nat) : ((List (List UInt8)) × Int × Int) → Option ((List (List UInt8))) :=
  loop (fun rec x => ref05_Split_B1 a1 a2 rec x.1 x.2.1 x.2.2) n
def ref05_Split (F : Nat) (a1 : List UInt8) (a2 : UInt8) : Option ((List (List UInt8))) :=
ref05_Split_L1 a1 a2 F ([], 0, 0)
def ref13_Raw_j1 (y77 : List UInt8) : Option ((List UInt8)) :=
some y77
def ref13_Raw_j2 (y7 : Int) (rec8 : ((List UInt8) × Int) → Option ((List UInt8))) (y73 : List UInt8) : Option ((List UInt8)) :=
grd (okI (y7 + 3)) <|
rec8 (y73, y7 + 3)
def ref13_Raw_j3 (a1 : List UInt8) (y7 : Int) (y26 : Int) (rec8 : ((List UInt8) × Int) → Option ((List UInt8))) (y56 : List UInt8) : Option ((List UInt8)) :=
grd (okI (y7 + 2)) <|
bif decide (y7 + 2 < (a1.length : Int)) then
  grd (okDiv y26 64) <|
  grd (okAt (y26 % 64) headr_k1.length) <|
  lt (at_ headr_k1 (y26 % 64)) fun x63 =>
  grd (okCat (y56.length + ([x63] : List UInt8).length)) <|
  lt (y56 ++ ([x63] : List UInt8)) fun x67 =>
  ref13_Raw_j2 y7 rec8 x67
else
  grd (okCat (y56.length + ([61] : List UInt8).length)) <|
  lt (y56 ++ ([61] : List UInt8)) fun x71 =>
  ref13_Raw_j2 y7 rec8 x71
def ref13_Raw_j4 (a1 : List UInt8) (y5 : List UInt8) (y7 : Int) (rec8 : ((List UInt8) × Int) → Option ((List UInt8))) (y26 : Int) : Option ((List UInt8)) :=
grd (okDiv y26 262144) <|
grd (okAt (y26 / 262144) headr_k1.length) <|
lt (at_ headr_k1 (y26 / 262144)) fun x30 =>
grd (okDiv y26 4096) <|
grd (okDiv (y26 / 4096) 64) <|
grd (okAt ((y26 / 4096) % 64) headr_k1.length) <|
lt (at_ headr_k1 ((y26 / 4096) % 64)) fun x35 =>
grd (okCat (y5.length + ([x30, x35] : List UInt8).length)) <|
lt (y5 ++ ([x30, x35] : List UInt8)) fun x39 =>
grd (okI (y7 + 1)) <|
bif decide (y7 + 1 < (a1.length : Int)) then
  grd (okDiv y26 64) <|
  grd (okDiv (y26 / 64) 64) <|
  grd (okAt ((y26 / 64) % 64) headr_k1.length) <|
  lt (at_ headr_k1 ((y26 / 64) % 64)) fun x46 =>
  grd (okCat (x39.length + ([x46] : List UInt8).length)) <|
  lt (x39 ++ ([x46] : List UInt8)) fun x50 =>
  ref13_Raw_j3 a1 y7 y26 rec8 x50
else
  grd (okCat (x39.length + ([61] : List UInt8).length)) <|
  lt (x39 ++ ([61] : List UInt8)) fun x54 =>
  ref13_Raw_j3 a1 y7 y26 rec8 x54
def ref13_Raw_j5 (y12 : Int) (rec13 : (Int × Int) → Option ((List UInt8))) (y23 : Int) : Option ((List UInt8)) :=
grd (okI (y12 + 1)) <|
rec13 (y23, y12 + 1)
def ref13_Raw_B1 (a1 : List UInt8) (y5 : List UInt8) (y7 : Int) (rec8 : ((List UInt8) × Int) → Option ((List UInt8))) (rec13 : (Int × Int) → Option ((List UInt8))) (y11 : Int) (y12 : Int) : Option ((List UInt8)) :=
grd (okI (y7 + 3)) <|
bif decide (y12 < y7 + 3) then
  grd (okI (256 * y11)) <|
  bif decide (y12 < (a1.length : Int)) then
    grd (okAt y12 a1.length) <|
    lt (at_ a1 y12) fun x20 =>
    grd (okI ((256 * y11) + (x20.toNat : Int))) <|
    ref13_Raw_j5 y12 rec13 ((256 * y11) + (x20.toNat : Int))
  else
    ref13_Raw_j5 y12 rec13 (256 * y11)
else
  ref13_Raw_j4 a1 y5 y7 rec8 y11
def ref13_Raw_L1 (a1 : List UInt8) (y5 : List UInt8) (y7 : Int) (rec8 : ((List UInt8) × Int) → Option ((List UInt8))) (n : Nat) : (Int × Int) → Option ((List UInt8)) :=
  loop (fun rec x => ref13_Raw_B1 a1 y5 y7 rec8 rec x.1 x.2) n
def ref13_Raw_B2 (F : Nat) (a1 : List UInt8) (rec8 : ((List UInt8) × Int) → Option ((List UInt8))) (y5 : List UInt8) (y7 : Int) : Option ((List UInt8)) :=
bif decide (y7 < (a1.length : Int)) then
  ref13_Raw_L1 a1 y5 y7 rec8 F (0, y7)
else
  ref13_Raw_j1 y5
def ref13_Raw_L2 (F : Nat) (a1 : List UInt8) (n : Nat) : ((List UInt8) × Int) → Option ((List UInt8)) :=
  loop (fun rec x => ref13_Raw_B2 F a1 rec x.1 x.2) n
def ref13_Raw (F : Nat) (a1 : List UInt8) : Option ((List UInt8)) :=
ref13_Raw_L2 F a1 F ([], 0)
def ref14_Name_j1 (a1 : List UInt8) : Option Bool :=
some ((decide (1 ≤ (a1.length : Int))) && (decide ((a1.length : Int) ≤ 40)))
def ref14_Name_B1 (a1 : List UInt8) (rec4 : Int → Option Bool) (y3 : Int) : Option Bool :=
bif decide (y3 < (a1.length : Int)) then
  grd (okAt y3 a1.length) <|
  lt (at_ a1 y3) fun x8 =>
  bif !(((((decide (97 ≤ (x8.toNat : Int))) && (decide ((x8.toNat : Int) ≤ 122))) || ((decide (65 ≤ (x8.toNat : Int))) && (decide ((x8.toNat : Int) ≤ 90)))) || ((decide (48 ≤ (x8.toNat : Int))) && (decide ((x8.toNat : Int) ≤ 57)))) || (decide (x8 = 45))) then
    some false
  else
    grd (okI (y3 + 1)) <|
    rec4 (y3 + 1)
else
  ref14_Name_j1 a1
def ref14_Name_L1 (a1 : List UInt8) (n : Nat) : Int → Option Bool :=
  loop (fun rec x => ref14_Name_B1 a1 rec x) n
def ref14_Name (F : Nat) (a1 : List UInt8) : Option Bool :=
ref14_Name_L1 a1 F 0
def ref14_Plain_j1 (a1 : List UInt8) : Option Bool :=
grdc (decide (0 < (a1.length : Int))) (okAt 0 a1.length) <|
lt (at_ a1 0) fun x38 =>
grdc ((decide (0 < (a1.length : Int))) && (!decide (x38 = 32))) (okI ((a1.length : Int) - 1)) <|
grdc ((decide (0 < (a1.length : Int))) && (!decide (x38 = 32))) (okAt ((a1.length : Int) - 1) a1.length) <|
lt (at_ a1 ((a1.length : Int) - 1)) fun x43 =>
some (((decide (0 < (a1.length : Int))) && (!decide (x38 = 32))) && (!decide (x43 = 32)))
def ref14_Plain_B1 (a1 : List UInt8) (rec4 : Int → Option Bool) (y3 : Int) : Option Bool :=
bif decide (y3 < (a1.length : Int)) then
  grd (okAt y3 a1.length) <|
  lt (at_ a1 y3) fun x8 =>
  grdc (!(decide ((x8.toNat : Int) < 32))) (okAt y3 a1.length) <|
  lt (at_ a1 y3) fun x12 =>
  bif (decide ((x8.toNat : Int) < 32)) || (decide (126 < (x12.toNat : Int))) then
    some false
  else
    grdc (decide (0 < y3)) (okAt y3 a1.length) <|
    lt (at_ a1 y3) fun x17 =>
    grdc ((decide (0 < y3)) && (decide (x17 = 32))) (okI (y3 - 1)) <|
    grdc ((decide (0 < y3)) && (decide (x17 = 32))) (okAt (y3 - 1) a1.length) <|
    lt (at_ a1 (y3 - 1)) fun x22 =>
    grdc ((decide (0 < y3)) && (!((decide (x17 = 32)) && (decide (x22 = 32))))) (okAt y3 a1.length) <|
    lt (at_ a1 y3) fun x26 =>
    grdc (((decide (0 < y3)) && (!((decide (x17 = 32)) && (decide (x22 = 32))))) && (decide (x26 = 63))) (okI (y3 - 1)) <|
    grdc (((decide (0 < y3)) && (!((decide (x17 = 32)) && (decide (x22 = 32))))) && (decide (x26 = 63))) (okAt (y3 - 1) a1.length) <|
    lt (at_ a1 (y3 - 1)) fun x31 =>
    bif (decide (0 < y3)) && (((decide (x17 = 32)) && (decide (x22 = 32))) || ((decide (x26 = 63)) && (decide (x31 = 61)))) then
      some false
    else
      grd (okI (y3 + 1)) <|
      rec4 (y3 + 1)
else
  ref14_Plain_j1 a1
def ref14_Plain_L1 (a1 : List UInt8) (n : Nat) : Int → Option Bool :=
  loop (fun rec x => ref14_Plain_B1 a1 rec x) n
def ref14_Plain (F : Nat) (a1 : List UInt8) : Option Bool :=
ref14_Plain_L1 a1 F 0
def ref14_part_j1 : Option Int :=
some 45
def ref14_part_B1 (a1 : List UInt8) (rec5 : Int → Option Int) (y4 : Int) : Option Int :=
bif decide (42 ≤ y4) then
  grd (okAt y4 a1.length) <|
  lt (at_ a1 y4) fun x9 =>
  grdc (!(decide ((x9.toNat : Int) < 128))) (okAt y4 a1.length) <|
  lt (at_ a1 y4) fun x13 =>
  bif (decide ((x9.toNat : Int) < 128)) || (decide (191 < (x13.toNat : Int))) then
    some y4
  else
    grd (okI (y4 - 1)) <|
    rec5 (y4 - 1)
else
  ref14_part_j1
def ref14_part_L1 (a1 : List UInt8) (n : Nat) : Int → Option Int :=
  loop (fun rec x => ref14_part_B1 a1 rec x) n
def ref14_part (F : Nat) (a1 : List UInt8) : Option Int :=
bif decide ((a1.length : Int) ≤ 45) then
  some (a1.length : Int)
else
  ref14_part_L1 a1 F 45
def ref14_Words_j1 (y37 : List (List UInt8)) : Option ((List (List UInt8))) :=
some y37
def ref14_Words_B1 (F : Nat) (rec12 : ((List UInt8) × (List (List UInt8))) → Option ((List (List UInt8)))) (y9 : List UInt8) (y10 : List (List UInt8)) : Option ((List (List UInt8))) :=
bif decide (0 < (y9.length : Int)) then
  bnd (ref14_part F y9) fun x15 =>
  grd (okTo x15 y9.length) <|
  lt (to_ y9 x15) fun x18 =>
  grd (okCat x18.length) <|
  bnd (ref13_Raw F x18) fun x22 =>
  grd (okCat (([61, 63, 117, 116, 102, 45, 56, 63, 66, 63] : List UInt8).length + x22.length)) <|
  lt (([61, 63, 117, 116, 102, 45, 56, 63, 66, 63] : List UInt8) ++ x22) fun x25 =>
  grd (okCat (x25.length + ([63, 61] : List UInt8).length)) <|
  lt (x25 ++ ([63, 61] : List UInt8)) fun x28 =>
  grd (okCat (y10.length + ([x28] : List (List UInt8)).length)) <|
  lt (y10 ++ ([x28] : List (List UInt8))) fun x32 =>
  grd (okTo x15 y9.length) <|
  lt (from_ y9 x15) fun x35 =>
  rec12 (x35, x32)
else
  ref14_Words_j1 y10
def ref14_Words_L1 (F : Nat) (n : Nat) : ((List UInt8) × (List (List UInt8))) → Option ((List (List UInt8))) :=
  loop (fun rec x => ref14_Words_B1 F rec x.1 x.2) n
def ref14_Words (F : Nat) (a1 : List UInt8) : Option ((List (List UInt8))) :=
bnd (ref14_Plain F a1) fun x3 =>
bif x3 then
  bnd (ref05_Split F a1 32) fun x6 =>
  some x6
else
  ref14_Words_L1 F F (a1, [])
def ref14_Line_j1 (y53 : List UInt8) : Option ((List UInt8) × Int) :=
grd (okCat (y53.length + ([13, 10] : List UInt8).length)) <|
lt (y53 ++ ([13, 10] : List UInt8)) fun x58 =>
some (x58, 0)
def ref14_Line_j2 (x14 : List (List UInt8)) (y19 : Int) (rec20 : ((List UInt8) × Int × Int) → Option ((List UInt8) × Int)) (y33 : List UInt8) (y35 : Int) : Option ((List UInt8) × Int) :=
grd (okAt y19 x14.length) <|
lt (at_ x14 y19) fun x38 =>
grd (okCat (([32] : List UInt8).length + x38.length)) <|
lt (([32] : List UInt8) ++ x38) fun x41 =>
grd (okCat (y33.length + x41.length)) <|
lt (y33 ++ x41) fun x45 =>
grd (okI (y35 + 1)) <|
grd (okAt y19 x14.length) <|
lt (at_ x14 y19) fun x49 =>
grd (okI ((y35 + 1) + (x49.length : Int))) <|
grd (okI (y19 + 1)) <|
rec20 (x45, (y35 + 1) + (x49.length : Int), y19 + 1)
def ref14_Line_B1 (x14 : List (List UInt8)) (rec20 : ((List UInt8) × Int × Int) → Option ((List UInt8) × Int)) (y16 : List UInt8) (y18 : Int) (y19 : Int) : Option ((List UInt8) × Int) :=
bif decide (y19 < (x14.length : Int)) then
  grd (okI (y18 + 1)) <|
  grd (okAt y19 x14.length) <|
  lt (at_ x14 y19) fun x25 =>
  grd (okI ((y18 + 1) + (x25.length : Int))) <|
  bif decide (76 < (y18 + 1) + (x25.length : Int)) then
    grd (okCat (y16.length + ([13, 10] : List UInt8).length)) <|
    lt (y16 ++ ([13, 10] : List UInt8)) fun x31 =>
    ref14_Line_j2 x14 y19 rec20 x31 0
  else
    ref14_Line_j2 x14 y19 rec20 y16 y18
else
  ref14_Line_j1 y16
def ref14_Line_L1 (x14 : List (List UInt8)) (n : Nat) : ((List UInt8) × Int × Int) → Option ((List UInt8) × Int) :=
  loop (fun rec x => ref14_Line_B1 x14 rec x.1 x.2.1 x.2.2) n
def ref14_Line (F : Nat) (a1 : List UInt8) (a2 : List UInt8) : Option ((List UInt8) × Int) :=
bnd (ref14_Name F a1) fun x5 =>
bif (!x5) || (decide (4000 < (a2.length : Int))) then
  some ([], 1)
else
  grd (okCat (a1.length + ([58] : List UInt8).length)) <|
  lt (a1 ++ ([58] : List UInt8)) fun x10 =>
  grd (okCat x10.length) <|
  bnd (ref14_Words F a2) fun x14 =>
  ref14_Line_L1 x14 F (x10, (x10.length : Int), 0)
def ref14_All_j1 (y25 : List UInt8) : Option ((List UInt8) × Int) :=
grd (okCat (y25.length + ([13, 10] : List UInt8).length)) <|
lt (y25 ++ ([13, 10] : List UInt8)) fun x30 =>
some (x30, 0)
def ref14_All_B1 (F : Nat) (a1 : List ((List UInt8) × List UInt8)) (rec10 : ((List UInt8) × Int) → Option ((List UInt8) × Int)) (y7 : List UInt8) (y9 : Int) : Option ((List UInt8) × Int) :=
bif decide (y9 < (a1.length : Int)) then
  grd (okAt y9 a1.length) <|
  lt (at_ a1 y9) fun x14 =>
  bnd2 (ref14_Line F x14.1 x14.2) fun x16 x17 =>
  bif !decide (x17 = 0) then
    some ([], x17)
  else
    grd (okCat (y7.length + x16.length)) <|
    lt (y7 ++ x16) fun x22 =>
    grd (okI (y9 + 1)) <|
    rec10 (x22, y9 + 1)
else
  ref14_All_j1 y7
def ref14_All_L1 (F : Nat) (a1 : List ((List UInt8) × List UInt8)) (n : Nat) : ((List UInt8) × Int) → Option ((List UInt8) × Int) :=
  loop (fun rec x => ref14_All_B1 F a1 rec x.1 x.2) n
def ref14_All (F : Nat) (a1 : List ((List UInt8) × List UInt8)) : Option ((List UInt8) × Int) :=
bif decide (50 < (a1.length : Int)) then
  some ([], 4)
else
  ref14_All_L1 F a1 F ([], 0)
end Go.Pv
namespace Go.Proofs.YtdaafnaokdigbaaGreatDoor
open Go.RowKit Go.Av Go.Pv
theorem en71_headr : ∀ (args : Array Value) (w : World), (callFunc 71 args).run Tryz.prog w = .ok (.enter 71 args) w := fun _ _ => by kernel_rfl
theorem en92_headr : ∀ (args : Array Value) (w : World), (callFunc 92 args).run Tryz.prog w = .ok (.enter 92 args) w := fun _ _ => by kernel_rfl
theorem en93_headr : ∀ (args : Array Value) (w : World), (callFunc 93 args).run Tryz.prog w = .ok (.enter 93 args) w := fun _ _ => by kernel_rfl
theorem en115_headr : ∀ (args : Array Value) (w : World), (callFunc 115 args).run Tryz.prog w = .ok (.enter 115 args) w := fun _ _ => by kernel_rfl
theorem en116_headr : ∀ (args : Array Value) (w : World), (callFunc 116 args).run Tryz.prog w = .ok (.enter 116 args) w := fun _ _ => by kernel_rfl
theorem en117_headr : ∀ (args : Array Value) (w : World), (callFunc 117 args).run Tryz.prog w = .ok (.enter 117 args) w := fun _ _ => by kernel_rfl
theorem en118_headr : ∀ (args : Array Value) (w : World), (callFunc 118 args).run Tryz.prog w = .ok (.enter 118 args) w := fun _ _ => by kernel_rfl
set_option maxRecDepth 100000 in
set_option maxHeartbeats 1000000 in
theorem w_ref05_Split (F : Nat) (a1 : List UInt8) (a2 : UInt8) (r3 : List (List UInt8)) (H : ref05_Split F a1 a2 = some r3) : ACalls Tryz.prog 116 [S a1, u8 a2] [] (Ret (slE Enc.str r3 none) []) := by
 unfold ref05_Split at H
 refine ACalls.of_body Tryz.func116 rfl rfl ?_
 show AW _ _ 35 _ _ _
 refine AW.seq ?_
 refine AW.region ?_
 show AR _ _ _ _ _ [0] _
 refine sS rfl rfl rfl (asg rfl) ?_
 refine AR.nil ?_
 show AW _ _ _ _ _ _
 refine AW.seq ?_
 refine AW.region ?_
 show AR _ _ _ _ _ [0] _
 refine sS rfl rfl rfl (asg rfl) ?_
 refine AR.nil ?_
 show AW _ _ _ _ _ _
 refine AW.nil_grows 5 1 9 rfl fun t4 => ?_
 show AW _ _ _ _ _ ⟨(5, slE Enc.str [] (some t4)) :: _, _, _⟩
 refine AW.seq ?_
 refine AW.region ?_
 show AR _ _ _ _ _ [0] _
 refine sS rfl rfl rfl (asg rfl) ?_
 refine AR.nil ?_
 show AW _ _ _ _ _ _
 refine AW.cut (X := (List (List UInt8)) × Nat) (fun (y30, t31) => ⟨[(5, slE Enc.str y30 (some t31))], [], [.tok t31 9]⟩) (fun (y30, t31) => ref05_Split_j1 y30 = some r3) ?_ ?_
 ·
  refine AW.seq ?_
  refine AW.region ?_
  show AR _ _ _ _ _ [0] _
  refine sS rfl rfl rfl (asg rfl) ?_
  refine AR.nil ?_
  show AW _ _ _ _ _ _
  refine AW.block ?_
  refine AW.loop (X := Nat × (List (List UInt8)) × Nat × Int × Int) (fun (n10, y5, t6, y7, y8) => ⟨[(0, S a1), (1, u8 a2), (5, slE Enc.str y5 (some t6)), (6, i64 y7), (7, i64 y8)], [], [.tok t6 9]⟩) (fun (n10, y5, t6, y7, y8) => ref05_Split_L1 a1 a2 n10 (y5, y7, y8) = some r3) (fun (n10, y5, t6, y7, y8) => n10) (F, [], t4, 0, 0) H (WK.at [0] (.cons (.refl _) (.cons (.refl _) (.cons (.refl _) (.cons (.refl _) (.cons (.refl _) (.nil _)))))) rfl) ?_
  rintro ⟨n10, y5, t6, y7, y8⟩ H
  obtain ⟨n10, rfl, H⟩ := loop_s H
  replace H : ref05_Split_B1 a1 a2 (ref05_Split_L1 a1 a2 n10) y5 y7 y8 = some r3 := H
  unfold ref05_Split_B1 at H
  show AW _ _ _ _ _ _
  refine AW.seq ?_
  refine AW.seq ?_
  refine AW.region ?_
  show AR _ _ _ _ _ [0, 1, 2, 3] _
  refine sS rfl rfl rfl (mv rfl) ?_
  refine sS rfl rfl rfl (mv rfl) ?_
  refine sS rfl rfl rfl (opS_len_str Tryz.underlying9 rfl) ?_
  refine sS rfl rfl rfl (opS_le rfl rfl) ?_
  refine AR.nil ?_
  show AW _ _ _ _ _ _
  refine AW.cond rfl (fun c11 => ?_) (fun c11 => ?_)
  ·replace H := cnd_t c11 H
   refine AW.skip ?_
   show AW _ _ _ _ _ _
   refine AW.cut (X := (List (List UInt8)) × Nat × Int) (fun (y25, t26, y27) => ⟨[(0, S a1), (1, u8 a2), (5, slE Enc.str y25 (some t26)), (6, i64 y27), (7, i64 y8)], [], [.tok t26 9]⟩) (fun (y25, t26, y27) => ref05_Split_j2 y8 (ref05_Split_L1 a1 a2 n10) y25 y27 = some r3) ?_ ?_
   ·
    refine AW.block ?_
    refine AW.seq ?_
    obtain ⟨g13, H⟩ := grdc_s H
    obtain ⟨x14, e15, H⟩ := lt_s H
    refine AW.region ?_
    show AR _ _ _ _ _ [0, 1, 2, 3, 4, 5, 6, 7, 8, 9, 10] _
    refine sS rfl rfl rfl (mv rfl) ?_
    refine sS rfl rfl rfl (mv rfl) ?_
    refine sS rfl rfl rfl (opS_len_str Tryz.underlying9 rfl) ?_
    refine sS rfl rfl rfl (opS_eqi rfl rfl) ?_
    refine sS rfl rfl rfl (mv rfl) ?_
    refine AR.meet (l := []) 24 (B ((decide (y8 = (a1.length : Int))) || (decide (x14 = a2)))) (fun K => ?_) ?_
    ·rcases Bool.eq_false_or_eq_true (decide (y8 = (a1.length : Int))) with h12 | h12
     ·
      refine gF h12 rfl rfl rfl rfl rfl ?_
      refine gF h12 rfl rfl rfl rfl rfl ?_
      refine gF h12 rfl rfl rfl rfl rfl ?_
      refine gF h12 rfl rfl rfl rfl rfl ?_
      refine gF h12 rfl rfl rfl rfl rfl ?_
      refine sS rfl rfl rfl (opS_pick_t (av := .v _) rfl h12 rfl) ?_
      exact K _ 5 _ (B_congr (or_t h12)) rfl rfl
     ·
      refine gT h12 rfl rfl rfl rfl rfl rfl (AO.ops rfl rfl (mv rfl) ?_)
      refine gT h12 rfl rfl rfl rfl rfl rfl (AO.ops rfl rfl (mv rfl) ?_)
      refine gT h12 rfl rfl rfl rfl rfl rfl (AO.ops rfl rfl (g_index_str Tryz.underlying9 rfl rfl (g13 (nf h12)) e15) ?_)
      refine gT h12 rfl rfl rfl rfl rfl rfl (AO.ops rfl rfl (mv rfl) ?_)
      refine gT h12 rfl rfl rfl rfl rfl rfl (AO.ops rfl rfl (g_eq8 (a := x14) (b := a2) rfl rfl) ?_)
      refine sS rfl rfl rfl (opS_pick_f (av := .v _) rfl h12 rfl) ?_
      exact K _ 5 _ (B_congr (or_f h12)) rfl rfl
    refine AR.nil ?_
    show AW _ _ _ _ _ _
    refine AW.cond rfl (fun c16 => ?_) (fun c16 => ?_)
    ·replace H := cnd_t c16 H
     refine AW.seq ?_
     obtain ⟨g17, H⟩ := grd_s H
     obtain ⟨x18, e19, H⟩ := lt_s H
     obtain ⟨g21, H⟩ := grd_s H
     obtain ⟨x22, e23, H⟩ := lt_s H
     refine AW.region ?_
     show AR _ _ _ _ _ [0, 1, 2, 3, 4, 5, 6, 7] _
     refine sS rfl rfl rfl (opS_move (av := slE _ _ _) rfl) ?_
     refine sS rfl rfl rfl (mv rfl) ?_
     refine sS rfl rfl rfl (mv rfl) ?_
     refine sS rfl rfl rfl (mv rfl) ?_
     refine sS rfl rfl rfl (g_slice_str Tryz.underlying9 rfl rfl rfl g17 e19) ?_
     refine sR rfl rfl rfl (opR_buildE (E := Enc.str) (bytes := 16) (xs := [.tmp 29]) (l := ([x18] : List (List UInt8))) Tryz.underlying22 (by kernel_rfl) rfl rfl (by decide) rfl rfl) ?_
     refine sX rfl rfl rfl (g_append (E := Enc.str) (bytes := 16) 0 Tryz.underlying22 Tryz.underlying22 rfl (by kernel_rfl) rfl rfl rfl rfl g21 e23) ?_
     rintro _ _ ⟨t20, rfl, rfl⟩
     refine sS rfl rfl rfl (opS_assign (av := slE _ _ _) rfl) ?_
     refine AR.nil ?_
     show AW _ _ _ _ _ _
     obtain ⟨g24, H⟩ := grd_s H
     refine AW.region ?_
     show AR _ _ _ _ _ [0, 1, 2] _
     refine sS rfl rfl rfl (mv rfl) ?_
     refine sS rfl rfl rfl (g_add rfl rfl g24) ?_
     refine sS rfl rfl rfl (asg rfl) ?_
     refine AR.nil ?_
     exact Exists.intro (x22, t20, y8 + 1) ⟨H, WK.at [0] (.cons (.refl _) (.cons (.refl _) (.cons (.refl _) (.cons (.refl _) (.cons (.refl _) (.nil _)))))) rfl⟩
    ·replace H := cnd_f c16 H
     refine AW.skip ?_
     exact Exists.intro (y5, t6, y7) ⟨H, WK.at [0] (.cons (.refl _) (.cons (.refl _) (.cons (.refl _) (.cons (.refl _) (.cons (.refl _) (.nil _)))))) rfl⟩
   rintro ⟨y25, t26, y27⟩ H
   replace H : ref05_Split_j2 y8 (ref05_Split_L1 a1 a2 n10) y25 y27 = some r3 := H
   unfold ref05_Split_j2 at H
   show AW _ _ _ _ _ _
   obtain ⟨g29, H⟩ := grd_s H
   refine AW.region ?_
   show AR _ _ _ _ _ [0, 1, 2] _
   refine sS rfl rfl rfl (mv rfl) ?_
   refine sS rfl rfl rfl (g_add rfl rfl g29) ?_
   refine sS rfl rfl rfl (asg rfl) ?_
   refine AR.nil ?_
   exact Exists.intro (n10, y25, t26, y27, y8 + 1) ⟨H, Nat.lt_succ_self _, WK.at [0] (.cons (.refl _) (.cons (.refl _) (.cons (.refl _) (.cons (.refl _) (.cons (.refl _) (.nil _)))))) rfl⟩
  ·replace H := cnd_f c11 H
   refine AW.exit ?_
   exact Exists.intro (y5, t6) ⟨H, WK.at [0] (.cons (.refl _) (.nil _)) rfl⟩
 rintro ⟨y30, t31⟩ H
 replace H : ref05_Split_j1 y30 = some r3 := H
 unfold ref05_Split_j1 at H
 show AW _ _ _ _ _ _
 refine AW.seq ?_
 refine AW.region ?_
 show AR _ _ _ _ _ [0, 1] _
 refine sS rfl rfl rfl (opS_move (av := slE _ _ _) rfl) ?_
 refine sS rfl rfl rfl (opS_assign (av := slE _ _ _) rfl) ?_
 refine AR.nil ?_
 show AW _ _ _ _ _ _
 refine AW.ret ?_
 obtain rfl := Option.some.inj H
 exact And.intro rfl (Exists.intro _ (Exists.intro _ ⟨ResV.oneW rfl (.tok _ _ _), Sub.at [] rfl, rfl, rfl⟩))
set_option maxRecDepth 100000 in
set_option maxHeartbeats 1000000 in
theorem w_ref13_Raw (F : Nat) (a1 : List UInt8) (q2 : Option Nat) (r3 : List UInt8) (H : ref13_Raw F a1 = some r3) : ACalls Tryz.prog 118 [slE Enc.byte a1 q2] [] (Ret (S r3) []) := by
 unfold ref13_Raw at H
 refine ACalls.of_body Tryz.func118 rfl rfl ?_
 show AW _ _ 74 _ _ _
 refine AW.seq ?_
 refine AW.region ?_
 show AR _ _ _ _ _ [0] _
 refine sS rfl rfl rfl (asg rfl) ?_
 refine AR.nil ?_
 show AW _ _ _ _ _ _
 refine AW.seq ?_
 refine AW.region ?_
 show AR _ _ _ _ _ [0] _
 refine sS rfl rfl rfl (asg rfl) ?_
 refine AR.nil ?_
 show AW _ _ _ _ _ _
 refine AW.nil_grows 3 1 5 rfl fun t4 => ?_
 show AW _ _ _ _ _ ⟨(3, slE Enc.byte [] (some t4)) :: _, _, _⟩
 refine AW.cut (X := (List UInt8) × Nat) (fun (y77, t78) => ⟨[(3, slE Enc.byte y77 (some t78))], [], [.tok t78 5]⟩) (fun (y77, t78) => ref13_Raw_j1 y77 = some r3) ?_ ?_
 ·
  refine AW.seq ?_
  refine AW.region ?_
  show AR _ _ _ _ _ [0] _
  refine sS rfl rfl rfl (asg rfl) ?_
  refine AR.nil ?_
  show AW _ _ _ _ _ _
  refine AW.block ?_
  refine AW.loop (X := Nat × (List UInt8) × Nat × Int) (fun (n9, y5, t6, y7) => ⟨[(0, slE Enc.byte a1 q2), (3, slE Enc.byte y5 (some t6)), (4, i64 y7)], [], [.tok t6 5]⟩) (fun (n9, y5, t6, y7) => ref13_Raw_L2 F a1 n9 (y5, y7) = some r3) (fun (n9, y5, t6, y7) => n9) (F, [], t4, 0) H (WK.at [0] (.cons (.refl _) (.cons (.refl _) (.cons (.refl _) (.nil _)))) rfl) ?_
  rintro ⟨n9, y5, t6, y7⟩ H
  obtain ⟨n9, rfl, H⟩ := loop_s H
  replace H : ref13_Raw_B2 F a1 (ref13_Raw_L2 F a1 n9) y5 y7 = some r3 := H
  unfold ref13_Raw_B2 at H
  show AW _ _ _ _ _ _
  refine AW.seq ?_
  refine AW.seq ?_
  refine AW.region ?_
  show AR _ _ _ _ _ [0, 1, 2, 3] _
  refine sS rfl rfl rfl (mv rfl) ?_
  refine sS rfl rfl rfl (opS_move (av := slE _ _ _) rfl) ?_
  refine sS rfl rfl rfl (opS_len_sl Tryz.underlying26 rfl) ?_
  refine sS rfl rfl rfl (opS_lt rfl rfl) ?_
  refine AR.nil ?_
  show AW _ _ _ _ _ _
  refine AW.cond rfl (fun c10 => ?_) (fun c10 => ?_)
  ·replace H := cnd_t c10 H
   refine AW.skip ?_
   show AW _ _ _ _ _ _
   refine AW.cut (X := (List UInt8) × Nat) (fun (y73, t74) => ⟨[(0, slE Enc.byte a1 q2), (3, slE Enc.byte y73 (some t74)), (4, i64 y7)], [], [.tok t74 5]⟩) (fun (y73, t74) => ref13_Raw_j2 y7 (ref13_Raw_L2 F a1 n9) y73 = some r3) ?_ ?_
   ·
    refine AW.block ?_
    refine AW.seq ?_
    refine AW.region ?_
    show AR _ _ _ _ _ [0] _
    refine sS rfl rfl rfl (asg rfl) ?_
    refine AR.nil ?_
    show AW _ _ _ _ _ _
    refine AW.cut (X := Int) (fun y26 => ⟨[(0, slE Enc.byte a1 q2), (3, slE Enc.byte y5 (some t6)), (4, i64 y7), (5, i64 y26)], [], [.tok t6 5]⟩) (fun y26 => ref13_Raw_j4 a1 y5 y7 (ref13_Raw_L2 F a1 n9) y26 = some r3) ?_ ?_
    ·
     refine AW.seq ?_
     refine AW.region ?_
     show AR _ _ _ _ _ [0, 1] _
     refine sS rfl rfl rfl (mv rfl) ?_
     refine sS rfl rfl rfl (asg rfl) ?_
     refine AR.nil ?_
     show AW _ _ _ _ _ _
     refine AW.block ?_
     refine AW.loop (X := Nat × Int × Int) (fun (n14, y11, y12) => ⟨[(0, slE Enc.byte a1 q2), (3, slE Enc.byte y5 (some t6)), (4, i64 y7), (5, i64 y11), (6, i64 y12)], [], [.tok t6 5]⟩) (fun (n14, y11, y12) => ref13_Raw_L1 a1 y5 y7 (ref13_Raw_L2 F a1 n9) n14 (y11, y12) = some r3) (fun (n14, y11, y12) => n14) (F, 0, y7) H (WK.at [0] (.cons (.refl _) (.cons (.refl _) (.cons (.refl _) (.cons (.refl _) (.cons (.refl _) (.nil _)))))) rfl) ?_
     rintro ⟨n14, y11, y12⟩ H
     obtain ⟨n14, rfl, H⟩ := loop_s H
     replace H : ref13_Raw_B1 a1 y5 y7 (ref13_Raw_L2 F a1 n9) (ref13_Raw_L1 a1 y5 y7 (ref13_Raw_L2 F a1 n9) n14) y11 y12 = some r3 := H
     unfold ref13_Raw_B1 at H
     show AW _ _ _ _ _ _
     refine AW.seq ?_
     refine AW.seq ?_
     obtain ⟨g15, H⟩ := grd_s H
     refine AW.region ?_
     show AR _ _ _ _ _ [0, 1, 2, 3] _
     refine sS rfl rfl rfl (mv rfl) ?_
     refine sS rfl rfl rfl (mv rfl) ?_
     refine sS rfl rfl rfl (g_add rfl rfl g15) ?_
     refine sS rfl rfl rfl (opS_lt rfl rfl) ?_
     refine AR.nil ?_
     show AW _ _ _ _ _ _
     refine AW.cond rfl (fun c16 => ?_) (fun c16 => ?_)
     ·replace H := cnd_t c16 H
      refine AW.skip ?_
      show AW _ _ _ _ _ _
      refine AW.cut (X := Int) (fun y23 => ⟨[(0, slE Enc.byte a1 q2), (3, slE Enc.byte y5 (some t6)), (4, i64 y7), (5, i64 y23), (6, i64 y12)], [], [.tok t6 5]⟩) (fun y23 => ref13_Raw_j5 y12 (ref13_Raw_L1 a1 y5 y7 (ref13_Raw_L2 F a1 n9) n14) y23 = some r3) ?_ ?_
      ·
       refine AW.block ?_
       refine AW.seq ?_
       obtain ⟨g17, H⟩ := grd_s H
       refine AW.region ?_
       show AR _ _ _ _ _ [0, 1, 2] _
       refine sS rfl rfl rfl (mv rfl) ?_
       refine sS rfl rfl rfl (g_mul rfl rfl g17) ?_
       refine sS rfl rfl rfl (asg rfl) ?_
       refine AR.nil ?_
       show AW _ _ _ _ _ _
       refine AW.seq ?_
       refine AW.region ?_
       show AR _ _ _ _ _ [0, 1, 2, 3] _
       refine sS rfl rfl rfl (mv rfl) ?_
       refine sS rfl rfl rfl (opS_move (av := slE _ _ _) rfl) ?_
       refine sS rfl rfl rfl (opS_len_sl Tryz.underlying26 rfl) ?_
       refine sS rfl rfl rfl (opS_lt rfl rfl) ?_
       refine AR.nil ?_
       show AW _ _ _ _ _ _
       refine AW.cond rfl (fun c18 => ?_) (fun c18 => ?_)
       ·replace H := cnd_t c18 H
        obtain ⟨g19, H⟩ := grd_s H
        obtain ⟨x20, e21, H⟩ := lt_s H
        obtain ⟨g22, H⟩ := grd_s H
        refine AW.region ?_
        show AR _ _ _ _ _ [0, 1, 2, 3, 4, 5, 6, 7] _
        refine sS rfl rfl rfl (mv rfl) ?_
        refine sS rfl rfl rfl (opS_move (av := slE _ _ _) rfl) ?_
        refine sS rfl rfl rfl (mv rfl) ?_
        refine sS rfl rfl rfl (g_indexAddr (E := Enc.byte) Tryz.underlying26 (by kernel_rfl) rfl rfl g19 e21) ?_
        refine sS rfl rfl rfl (opS_load_cp Tryz.underlying5 rfl rfl) ?_
        refine sS rfl rfl rfl (opS_conv_u8 (c := x20) (by kernel_rfl) Tryz.underlying3 rfl) ?_
        refine sS rfl rfl rfl (g_add rfl rfl g22) ?_
        refine sS rfl rfl rfl (asg rfl) ?_
        refine AR.nil ?_
        exact Exists.intro ((256 * y11) + (x20.toNat : Int)) ⟨H, WK.at [0] (.cons (.refl _) (.cons (.refl _) (.cons (.refl _) (.cons (.refl _) (.cons (.refl _) (.nil _)))))) rfl⟩
       ·replace H := cnd_f c18 H
        refine AW.skip ?_
        exact Exists.intro (256 * y11) ⟨H, WK.at [0] (.cons (.refl _) (.cons (.refl _) (.cons (.refl _) (.cons (.refl _) (.cons (.refl _) (.nil _)))))) rfl⟩
      rintro y23 H
      replace H : ref13_Raw_j5 y12 (ref13_Raw_L1 a1 y5 y7 (ref13_Raw_L2 F a1 n9) n14) y23 = some r3 := H
      unfold ref13_Raw_j5 at H
      show AW _ _ _ _ _ _
      obtain ⟨g25, H⟩ := grd_s H
      refine AW.region ?_
      show AR _ _ _ _ _ [0, 1, 2] _
      refine sS rfl rfl rfl (mv rfl) ?_
      refine sS rfl rfl rfl (g_add rfl rfl g25) ?_
      refine sS rfl rfl rfl (asg rfl) ?_
      refine AR.nil ?_
      exact Exists.intro (n14, y23, y12 + 1) ⟨H, Nat.lt_succ_self _, WK.at [0] (.cons (.refl _) (.cons (.refl _) (.cons (.refl _) (.cons (.refl _) (.cons (.refl _) (.nil _)))))) rfl⟩
     ·replace H := cnd_f c16 H
      refine AW.exit ?_
      exact Exists.intro y11 ⟨H, WK.at [0] (.cons (.refl _) (.cons (.refl _) (.cons (.refl _) (.cons (.refl _) (.nil _))))) rfl⟩
    rintro y26 H
    replace H : ref13_Raw_j4 a1 y5 y7 (ref13_Raw_L2 F a1 n9) y26 = some r3 := H
    unfold ref13_Raw_j4 at H
    show AW _ _ _ _ _ _
    refine AW.seq ?_
    obtain ⟨g28, H⟩ := grd_s H
    obtain ⟨g29, H⟩ := grd_s H
    obtain ⟨x30, e31, H⟩ := lt_s H
    obtain ⟨g32, H⟩ := grd_s H
    obtain ⟨g33, H⟩ := grd_s H
    obtain ⟨g34, H⟩ := grd_s H
    obtain ⟨x35, e36, H⟩ := lt_s H
    obtain ⟨g38, H⟩ := grd_s H
    obtain ⟨x39, e40, H⟩ := lt_s H
    refine AW.region_draw (by kernel_rfl) ?_
    show AI _ _ _ _ _ 11 (Array.replicate 11 false) _
    refine AI.take (i := 0) rfl rfl (by kernel_rfl) (by kernel_rfl) (by kernel_rfl) (fun _ _ h => h) (opS_move (av := slE _ _ _) rfl) ?_
    show AI _ _ _ _ _ _ #[true, false, false, false, false, false, false, false, false, false, false] _
    refine AI.take (i := 1) rfl rfl (by kernel_rfl) (by kernel_rfl) (by kernel_rfl) (fun _ _ h => h) (mv rfl) ?_
    show AI _ _ _ _ _ _ #[true, true, false, false, false, false, false, false, false, false, false] _
    refine AI.take (i := 2) rfl rfl (by kernel_rfl) (by kernel_rfl) (by kernel_rfl) (fun _ _ h => h) (g_quo rfl rfl g28) ?_
    show AI _ _ _ _ _ _ #[true, true, true, false, false, false, false, false, false, false, false] _
    refine AI.take (i := 3) rfl rfl (by kernel_rfl) (by kernel_rfl) (by kernel_rfl) (fun _ _ h => h) (g_index_str Tryz.underlying9 rfl rfl g29 e31) ?_
    show AI _ _ _ _ _ _ #[true, true, true, true, false, false, false, false, false, false, false] _
    refine AI.take (i := 4) rfl rfl (by kernel_rfl) (by kernel_rfl) (by kernel_rfl) (fun _ _ h => h) (mv rfl) ?_
    show AI _ _ _ _ _ _ #[true, true, true, true, true, false, false, false, false, false, false] _
    refine AI.take (i := 5) rfl rfl (by kernel_rfl) (by kernel_rfl) (by kernel_rfl) (fun _ _ h => h) (g_quo rfl rfl g32) ?_
    show AI _ _ _ _ _ _ #[true, true, true, true, true, true, false, false, false, false, false] _
    refine AI.take (i := 6) rfl rfl (by kernel_rfl) (by kernel_rfl) (by kernel_rfl) (fun _ _ h => h) (g_rem rfl rfl g33) ?_
    show AI _ _ _ _ _ _ #[true, true, true, true, true, true, true, false, false, false, false] _
    refine AI.take (i := 7) rfl rfl (by kernel_rfl) (by kernel_rfl) (by kernel_rfl) (fun _ _ h => h) (g_index_str Tryz.underlying9 rfl rfl g34 e36) ?_
    show AI _ _ _ _ _ _ #[true, true, true, true, true, true, true, true, false, false, false] _
    refine AI.one (i := 8) (by kernel_rfl) rfl rfl ?_
    refine AIO.op rfl (opR_buildE (E := Enc.byte) (bytes := 1) (xs := [.tmp 36, .tmp 40]) (l := ([x30, x35] : List UInt8)) Tryz.underlying26 (by kernel_rfl) rfl rfl (by decide) rfl rfl) ?_
    show AI _ _ _ _ _ _ #[true, true, true, true, true, true, true, true, true, false, false] _
    refine AI.one (i := 9) (by kernel_rfl) rfl rfl ?_
    refine AIO.opx rfl (g_append (E := Enc.byte) (bytes := 1) 0 Tryz.underlying26 Tryz.underlying26 rfl (by kernel_rfl) rfl rfl rfl rfl g38 e40) ?_
    rintro _ _ ⟨t37, rfl, rfl⟩
    show AI _ _ _ _ _ _ #[true, true, true, true, true, true, true, true, true, true, false] _
    refine AI.take (i := 10) rfl rfl (by kernel_rfl) (by kernel_rfl) (by kernel_rfl) (fun _ _ h => h) (opS_assign (av := slE _ _ _) rfl) ?_
    show AI _ _ _ _ _ _ #[true, true, true, true, true, true, true, true, true, true, true] _
    refine AI.done rfl ?_
    show AW _ _ _ _ _ _
    refine AW.cut (X := (List UInt8) × Nat) (fun (y56, t57) => ⟨[(0, slE Enc.byte a1 q2), (3, slE Enc.byte y56 (some t57)), (4, i64 y7), (5, i64 y26)], [], [.tok t57 5]⟩) (fun (y56, t57) => ref13_Raw_j3 a1 y7 y26 (ref13_Raw_L2 F a1 n9) y56 = some r3) ?_ ?_
    ·
     refine AW.seq ?_
     obtain ⟨g41, H⟩ := grd_s H
     refine AW.region ?_
     show AR _ _ _ _ _ [0, 1, 2, 3, 4] _
     refine sS rfl rfl rfl (mv rfl) ?_
     refine sS rfl rfl rfl (g_add rfl rfl g41) ?_
     refine sS rfl rfl rfl (opS_move (av := slE _ _ _) rfl) ?_
     refine sS rfl rfl rfl (opS_len_sl Tryz.underlying26 rfl) ?_
     refine sS rfl rfl rfl (opS_lt rfl rfl) ?_
     refine AR.nil ?_
     show AW _ _ _ _ _ _
     refine AW.cond rfl (fun c42 => ?_) (fun c42 => ?_)
     ·replace H := cnd_t c42 H
      obtain ⟨g43, H⟩ := grd_s H
      obtain ⟨g44, H⟩ := grd_s H
      obtain ⟨g45, H⟩ := grd_s H
      obtain ⟨x46, e47, H⟩ := lt_s H
      obtain ⟨g49, H⟩ := grd_s H
      obtain ⟨x50, e51, H⟩ := lt_s H
      refine AW.region ?_
      show AR _ _ _ _ _ [0, 1, 2, 3, 4, 5, 6, 7] _
      refine sS rfl rfl rfl (opS_move (av := slE _ _ _) rfl) ?_
      refine sS rfl rfl rfl (mv rfl) ?_
      refine sS rfl rfl rfl (g_quo rfl rfl g43) ?_
      refine sS rfl rfl rfl (g_rem rfl rfl g44) ?_
      refine sS rfl rfl rfl (g_index_str Tryz.underlying9 rfl rfl g45 e47) ?_
      refine sR rfl rfl rfl (opR_buildE (E := Enc.byte) (bytes := 1) (xs := [.tmp 52]) (l := ([x46] : List UInt8)) Tryz.underlying26 (by kernel_rfl) rfl rfl (by decide) rfl rfl) ?_
      refine sX rfl rfl rfl (g_append (E := Enc.byte) (bytes := 1) 0 Tryz.underlying26 Tryz.underlying26 rfl (by kernel_rfl) rfl rfl rfl rfl g49 e51) ?_
      rintro _ _ ⟨t48, rfl, rfl⟩
      refine sS rfl rfl rfl (opS_assign (av := slE _ _ _) rfl) ?_
      refine AR.nil ?_
      exact Exists.intro (x50, t48) ⟨H, WK.at [0] (.cons (.refl _) (.cons (.refl _) (.cons (.refl _) (.cons (.refl _) (.nil _))))) rfl⟩
     ·replace H := cnd_f c42 H
      obtain ⟨g53, H⟩ := grd_s H
      obtain ⟨x54, e55, H⟩ := lt_s H
      refine AW.region ?_
      show AR _ _ _ _ _ [0, 1, 2, 3] _
      refine sS rfl rfl rfl (opS_move (av := slE _ _ _) rfl) ?_
      refine sR rfl rfl rfl (opR_buildE (E := Enc.byte) (bytes := 1) (xs := [.const _]) (l := ([61] : List UInt8)) Tryz.underlying26 (by kernel_rfl) rfl rfl (by decide) rfl rfl) ?_
      refine sX rfl rfl rfl (g_append (E := Enc.byte) (bytes := 1) 0 Tryz.underlying26 Tryz.underlying26 rfl (by kernel_rfl) rfl rfl rfl rfl g53 e55) ?_
      rintro _ _ ⟨t52, rfl, rfl⟩
      refine sS rfl rfl rfl (opS_assign (av := slE _ _ _) rfl) ?_
      refine AR.nil ?_
      exact Exists.intro (x54, t52) ⟨H, WK.at [0] (.cons (.refl _) (.cons (.refl _) (.cons (.refl _) (.cons (.refl _) (.nil _))))) rfl⟩
    rintro ⟨y56, t57⟩ H
    replace H : ref13_Raw_j3 a1 y7 y26 (ref13_Raw_L2 F a1 n9) y56 = some r3 := H
    unfold ref13_Raw_j3 at H
    show AW _ _ _ _ _ _
    refine AW.seq ?_
    obtain ⟨g59, H⟩ := grd_s H
    refine AW.region ?_
    show AR _ _ _ _ _ [0, 1, 2, 3, 4] _
    refine sS rfl rfl rfl (mv rfl) ?_
    refine sS rfl rfl rfl (g_add rfl rfl g59) ?_
    refine sS rfl rfl rfl (opS_move (av := slE _ _ _) rfl) ?_
    refine sS rfl rfl rfl (opS_len_sl Tryz.underlying26 rfl) ?_
    refine sS rfl rfl rfl (opS_lt rfl rfl) ?_
    refine AR.nil ?_
    show AW _ _ _ _ _ _
    refine AW.cond rfl (fun c60 => ?_) (fun c60 => ?_)
    ·replace H := cnd_t c60 H
     obtain ⟨g61, H⟩ := grd_s H
     obtain ⟨g62, H⟩ := grd_s H
     obtain ⟨x63, e64, H⟩ := lt_s H
     obtain ⟨g66, H⟩ := grd_s H
     obtain ⟨x67, e68, H⟩ := lt_s H
     refine AW.region ?_
     show AR _ _ _ _ _ [0, 1, 2, 3, 4, 5, 6] _
     refine sS rfl rfl rfl (opS_move (av := slE _ _ _) rfl) ?_
     refine sS rfl rfl rfl (mv rfl) ?_
     refine sS rfl rfl rfl (g_rem rfl rfl g61) ?_
     refine sS rfl rfl rfl (g_index_str Tryz.underlying9 rfl rfl g62 e64) ?_
     refine sR rfl rfl rfl (opR_buildE (E := Enc.byte) (bytes := 1) (xs := [.tmp 66]) (l := ([x63] : List UInt8)) Tryz.underlying26 (by kernel_rfl) rfl rfl (by decide) rfl rfl) ?_
     refine sX rfl rfl rfl (g_append (E := Enc.byte) (bytes := 1) 0 Tryz.underlying26 Tryz.underlying26 rfl (by kernel_rfl) rfl rfl rfl rfl g66 e68) ?_
     rintro _ _ ⟨t65, rfl, rfl⟩
     refine sS rfl rfl rfl (opS_assign (av := slE _ _ _) rfl) ?_
     refine AR.nil ?_
     exact Exists.intro (x67, t65) ⟨H, WK.at [0] (.cons (.refl _) (.cons (.refl _) (.cons (.refl _) (.nil _)))) rfl⟩
    ·replace H := cnd_f c60 H
     obtain ⟨g70, H⟩ := grd_s H
     obtain ⟨x71, e72, H⟩ := lt_s H
     refine AW.region ?_
     show AR _ _ _ _ _ [0, 1, 2, 3] _
     refine sS rfl rfl rfl (opS_move (av := slE _ _ _) rfl) ?_
     refine sR rfl rfl rfl (opR_buildE (E := Enc.byte) (bytes := 1) (xs := [.const _]) (l := ([61] : List UInt8)) Tryz.underlying26 (by kernel_rfl) rfl rfl (by decide) rfl rfl) ?_
     refine sX rfl rfl rfl (g_append (E := Enc.byte) (bytes := 1) 0 Tryz.underlying26 Tryz.underlying26 rfl (by kernel_rfl) rfl rfl rfl rfl g70 e72) ?_
     rintro _ _ ⟨t69, rfl, rfl⟩
     refine sS rfl rfl rfl (opS_assign (av := slE _ _ _) rfl) ?_
     refine AR.nil ?_
     exact Exists.intro (x71, t69) ⟨H, WK.at [0] (.cons (.refl _) (.cons (.refl _) (.cons (.refl _) (.nil _)))) rfl⟩
   rintro ⟨y73, t74⟩ H
   replace H : ref13_Raw_j2 y7 (ref13_Raw_L2 F a1 n9) y73 = some r3 := H
   unfold ref13_Raw_j2 at H
   show AW _ _ _ _ _ _
   obtain ⟨g76, H⟩ := grd_s H
   refine AW.region ?_
   show AR _ _ _ _ _ [0, 1, 2] _
   refine sS rfl rfl rfl (mv rfl) ?_
   refine sS rfl rfl rfl (g_add rfl rfl g76) ?_
   refine sS rfl rfl rfl (asg rfl) ?_
   refine AR.nil ?_
   exact Exists.intro (n9, y73, t74, y7 + 3) ⟨H, Nat.lt_succ_self _, WK.at [0] (.cons (.refl _) (.cons (.refl _) (.cons (.refl _) (.nil _)))) rfl⟩
  ·replace H := cnd_f c10 H
   refine AW.exit ?_
   exact Exists.intro (y5, t6) ⟨H, WK.at [0] (.cons (.refl _) (.nil _)) rfl⟩
 rintro ⟨y77, t78⟩ H
 replace H : ref13_Raw_j1 y77 = some r3 := H
 unfold ref13_Raw_j1 at H
 show AW _ _ _ _ _ _
 refine AW.seq ?_
 refine AW.region ?_
 show AR _ _ _ _ _ [0, 1, 2] _
 refine sS rfl rfl rfl (opS_move (av := slE _ _ _) rfl) ?_
 refine sS rfl rfl rfl (opS_conv_bytes_str Tryz.underlying26 Tryz.underlying5 Tryz.underlying9 rfl) ?_
 refine sS rfl rfl rfl (asg rfl) ?_
 refine AR.nil ?_
 show AW _ _ _ _ _ _
 refine AW.ret ?_
 obtain rfl := Option.some.inj H
 exact And.intro rfl (Exists.intro _ (Exists.intro _ ⟨ResV.oneW rfl (.refl _), Sub.at [] rfl, rfl, rfl⟩))
set_option maxRecDepth 100000 in
set_option maxHeartbeats 1000000 in
theorem w_ref14_Name (F : Nat) (a1 : List UInt8) (r2 : Bool) (H : ref14_Name F a1 = some r2) : ACalls Tryz.prog 92 [S a1] [] (Ret (B r2) []) := by
 unfold ref14_Name at H
 refine ACalls.of_body Tryz.func92 rfl rfl ?_
 show AW _ _ 49 _ _ _
 refine AW.seq ?_
 refine AW.region ?_
 show AR _ _ _ _ _ [0] _
 refine sS rfl rfl rfl (asg rfl) ?_
 refine AR.nil ?_
 show AW _ _ _ _ _ _
 refine AW.cut (X := Unit) (fun _ => ⟨[(0, S a1)], [], []⟩) (fun _ => ref14_Name_j1 a1 = some r2) ?_ ?_
 ·
  refine AW.seq ?_
  refine AW.region ?_
  show AR _ _ _ _ _ [0] _
  refine sS rfl rfl rfl (asg rfl) ?_
  refine AR.nil ?_
  show AW _ _ _ _ _ _
  refine AW.block ?_
  refine AW.loop (X := Nat × Int) (fun (n5, y3) => ⟨[(0, S a1), (3, i64 y3)], [], []⟩) (fun (n5, y3) => ref14_Name_L1 a1 n5 y3 = some r2) (fun (n5, y3) => n5) (F, 0) H (WK.at [] (.cons (.refl _) (.cons (.refl _) (.nil _))) rfl) ?_
  rintro ⟨n5, y3⟩ H
  obtain ⟨n5, rfl, H⟩ := loop_s H
  replace H : ref14_Name_B1 a1 (ref14_Name_L1 a1 n5) y3 = some r2 := H
  unfold ref14_Name_B1 at H
  show AW _ _ _ _ _ _
  refine AW.seq ?_
  refine AW.seq ?_
  refine AW.region ?_
  show AR _ _ _ _ _ [0, 1, 2, 3] _
  refine sS rfl rfl rfl (mv rfl) ?_
  refine sS rfl rfl rfl (mv rfl) ?_
  refine sS rfl rfl rfl (opS_len_str Tryz.underlying9 rfl) ?_
  refine sS rfl rfl rfl (opS_lt rfl rfl) ?_
  refine AR.nil ?_
  show AW _ _ _ _ _ _
  refine AW.cond rfl (fun c6 => ?_) (fun c6 => ?_)
  ·replace H := cnd_t c6 H
   refine AW.skip ?_
   show AW _ _ _ _ _ _
   refine AW.seq ?_
   refine AW.block ?_
   refine AW.seq ?_
   obtain ⟨g7, H⟩ := grd_s H
   obtain ⟨x8, e9, H⟩ := lt_s H
   refine AW.region ?_
   show AR _ _ _ _ _ [0, 1, 2, 3] _
   refine sS rfl rfl rfl (mv rfl) ?_
   refine sS rfl rfl rfl (mv rfl) ?_
   refine sS rfl rfl rfl (g_index_str Tryz.underlying9 rfl rfl g7 e9) ?_
   refine sS rfl rfl rfl (asg rfl) ?_
   refine AR.nil ?_
   show AW _ _ _ _ _ _
   refine AW.seq ?_
   refine AW.region ?_
   show AR _ _ _ _ _ [0, 1, 2, 3, 4, 5, 6, 7, 8, 9, 10, 11, 12, 13, 14, 15, 16, 17, 18, 19, 20, 21, 22, 23, 24, 25, 26] _
   refine sS rfl rfl rfl (mv rfl) ?_
   refine sS rfl rfl rfl (opS_ge rfl rfl) ?_
   refine sS rfl rfl rfl (mv rfl) ?_
   refine AR.meet (l := [6, 7, 8, 9, 10, 11, 12, 13, 14, 15, 16, 17, 18, 19, 20, 21, 22, 23, 24, 25, 26]) 19 (B ((decide (97 ≤ (x8.toNat : Int))) && (decide ((x8.toNat : Int) ≤ 122)))) (fun K => ?_) ?_
   ·rcases Bool.eq_false_or_eq_true (decide (97 ≤ (x8.toNat : Int))) with h10 | h10
    ·
     refine gT h10 rfl rfl rfl rfl rfl rfl (AO.ops rfl rfl (mv rfl) ?_)
     refine gT h10 rfl rfl rfl rfl rfl rfl (AO.ops rfl rfl (opS_le rfl rfl) ?_)
     refine sS rfl rfl rfl (opS_pick_t (av := .v _) rfl h10 rfl) ?_
     exact K _ 2 _ (B_congr (and_t h10)) rfl rfl
    ·
     refine gF h10 rfl rfl rfl rfl rfl ?_
     refine gF h10 rfl rfl rfl rfl rfl ?_
     refine sS rfl rfl rfl (opS_pick_f (av := .v _) rfl h10 rfl) ?_
     exact K _ 2 _ (B_congr (and_f h10)) rfl rfl
   refine sS rfl rfl rfl (mv rfl) ?_
   refine AR.meet (l := [14, 15, 16, 17, 18, 19, 20, 21, 22, 23, 24, 25, 26]) 27 (B (((decide (97 ≤ (x8.toNat : Int))) && (decide ((x8.toNat : Int) ≤ 122))) || ((decide (65 ≤ (x8.toNat : Int))) && (decide ((x8.toNat : Int) ≤ 90))))) (fun K => ?_) ?_
   ·rcases Bool.eq_false_or_eq_true ((decide (97 ≤ (x8.toNat : Int))) && (decide ((x8.toNat : Int) ≤ 122))) with h11 | h11
    ·
     refine gF h11 rfl rfl rfl rfl rfl ?_
     refine gF h11 rfl rfl rfl rfl rfl ?_
     refine gF h11 rfl rfl rfl rfl rfl ?_
     refine gU rfl rfl rfl rfl rfl ?_
     refine gU rfl rfl rfl rfl rfl ?_
     refine gF h11 rfl rfl rfl rfl rfl ?_
     refine sS rfl rfl rfl (opS_pick_t (av := .v _) rfl h11 rfl) ?_
     exact K _ 6 _ (B_congr (or_t h11)) rfl rfl
    ·
     refine gT h11 rfl rfl rfl rfl rfl rfl (AO.ops rfl rfl (mv rfl) ?_)
     refine gT h11 rfl rfl rfl rfl rfl rfl (AO.ops rfl rfl (opS_ge rfl rfl) ?_)
     refine gT h11 rfl rfl rfl rfl rfl rfl (AO.ops rfl rfl (mv rfl) ?_)
     refine AR.meet (l := [13, 14, 15, 16, 17, 18, 19, 20, 21, 22, 23, 24, 25, 26]) 26 (B ((decide (65 ≤ (x8.toNat : Int))) && (decide ((x8.toNat : Int) ≤ 90)))) (fun K => ?_) ?_
     ·rcases Bool.eq_false_or_eq_true (decide (65 ≤ (x8.toNat : Int))) with h12 | h12
      ·
       refine gT h12 rfl rfl rfl rfl rfl rfl (AO.ops rfl rfl (mv rfl) ?_)
       refine gT h12 rfl rfl rfl rfl rfl rfl (AO.ops rfl rfl (opS_le rfl rfl) ?_)
       refine gT h11 rfl rfl rfl rfl rfl rfl (AO.ops rfl rfl (opS_pick_t (av := .v _) rfl h12 rfl) ?_)
       exact K _ 2 _ (B_congr (and_t h12)) rfl rfl
      ·
       refine gF h12 rfl rfl rfl rfl rfl ?_
       refine gF h12 rfl rfl rfl rfl rfl ?_
       refine gT h11 rfl rfl rfl rfl rfl rfl (AO.ops rfl rfl (opS_pick_f (av := .v _) rfl h12 rfl) ?_)
       exact K _ 2 _ (B_congr (and_f h12)) rfl rfl
     refine sS rfl rfl rfl (opS_pick_f (av := .v _) rfl h11 rfl) ?_
     exact K _ 4 _ (B_congr (or_f h11)) rfl rfl
   refine sS rfl rfl rfl (mv rfl) ?_
   refine AR.meet (l := [22, 23, 24, 25, 26]) 35 (B ((((decide (97 ≤ (x8.toNat : Int))) && (decide ((x8.toNat : Int) ≤ 122))) || ((decide (65 ≤ (x8.toNat : Int))) && (decide ((x8.toNat : Int) ≤ 90)))) || ((decide (48 ≤ (x8.toNat : Int))) && (decide ((x8.toNat : Int) ≤ 57))))) (fun K => ?_) ?_
   ·rcases Bool.eq_false_or_eq_true (((decide (97 ≤ (x8.toNat : Int))) && (decide ((x8.toNat : Int) ≤ 122))) || ((decide (65 ≤ (x8.toNat : Int))) && (decide ((x8.toNat : Int) ≤ 90)))) with h13 | h13
    ·
     refine gF h13 rfl rfl rfl rfl rfl ?_
     refine gF h13 rfl rfl rfl rfl rfl ?_
     refine gF h13 rfl rfl rfl rfl rfl ?_
     refine gU rfl rfl rfl rfl rfl ?_
     refine gU rfl rfl rfl rfl rfl ?_
     refine gF h13 rfl rfl rfl rfl rfl ?_
     refine sS rfl rfl rfl (opS_pick_t (av := .v _) rfl h13 rfl) ?_
     exact K _ 6 _ (B_congr (or_t h13)) rfl rfl
    ·
     refine gT h13 rfl rfl rfl rfl rfl rfl (AO.ops rfl rfl (mv rfl) ?_)
     refine gT h13 rfl rfl rfl rfl rfl rfl (AO.ops rfl rfl (opS_ge rfl rfl) ?_)
     refine gT h13 rfl rfl rfl rfl rfl rfl (AO.ops rfl rfl (mv rfl) ?_)
     refine AR.meet (l := [21, 22, 23, 24, 25, 26]) 34 (B ((decide (48 ≤ (x8.toNat : Int))) && (decide ((x8.toNat : Int) ≤ 57)))) (fun K => ?_) ?_
     ·rcases Bool.eq_false_or_eq_true (decide (48 ≤ (x8.toNat : Int))) with h14 | h14
      ·
       refine gT h14 rfl rfl rfl rfl rfl rfl (AO.ops rfl rfl (mv rfl) ?_)
       refine gT h14 rfl rfl rfl rfl rfl rfl (AO.ops rfl rfl (opS_le rfl rfl) ?_)
       refine gT h13 rfl rfl rfl rfl rfl rfl (AO.ops rfl rfl (opS_pick_t (av := .v _) rfl h14 rfl) ?_)
       exact K _ 2 _ (B_congr (and_t h14)) rfl rfl
      ·
       refine gF h14 rfl rfl rfl rfl rfl ?_
       refine gF h14 rfl rfl rfl rfl rfl ?_
       refine gT h13 rfl rfl rfl rfl rfl rfl (AO.ops rfl rfl (opS_pick_f (av := .v _) rfl h14 rfl) ?_)
       exact K _ 2 _ (B_congr (and_f h14)) rfl rfl
     refine sS rfl rfl rfl (opS_pick_f (av := .v _) rfl h13 rfl) ?_
     exact K _ 4 _ (B_congr (or_f h13)) rfl rfl
   refine sS rfl rfl rfl (mv rfl) ?_
   refine AR.meet (l := [26]) 39 (B (((((decide (97 ≤ (x8.toNat : Int))) && (decide ((x8.toNat : Int) ≤ 122))) || ((decide (65 ≤ (x8.toNat : Int))) && (decide ((x8.toNat : Int) ≤ 90)))) || ((decide (48 ≤ (x8.toNat : Int))) && (decide ((x8.toNat : Int) ≤ 57)))) || (decide (x8 = 45)))) (fun K => ?_) ?_
   ·rcases Bool.eq_false_or_eq_true ((((decide (97 ≤ (x8.toNat : Int))) && (decide ((x8.toNat : Int) ≤ 122))) || ((decide (65 ≤ (x8.toNat : Int))) && (decide ((x8.toNat : Int) ≤ 90)))) || ((decide (48 ≤ (x8.toNat : Int))) && (decide ((x8.toNat : Int) ≤ 57)))) with h15 | h15
    ·
     refine gF h15 rfl rfl rfl rfl rfl ?_
     refine gF h15 rfl rfl rfl rfl rfl ?_
     refine sS rfl rfl rfl (opS_pick_t (av := .v _) rfl h15 rfl) ?_
     exact K _ 2 _ (B_congr (or_t h15)) rfl rfl
    ·
     refine gT h15 rfl rfl rfl rfl rfl rfl (AO.ops rfl rfl (mv rfl) ?_)
     refine gT h15 rfl rfl rfl rfl rfl rfl (AO.ops rfl rfl (g_eq8 (a := x8) (b := 45) rfl rfl) ?_)
     refine sS rfl rfl rfl (opS_pick_f (av := .v _) rfl h15 rfl) ?_
     exact K _ 2 _ (B_congr (or_f h15)) rfl rfl
   refine sS rfl rfl rfl (opS_not rfl) ?_
   refine AR.nil ?_
   show AW _ _ _ _ _ _
   refine AW.cond rfl (fun c16 => ?_) (fun c16 => ?_)
   ·replace H := cnd_t c16 H
    refine AW.seq ?_
    refine AW.region ?_
    show AR _ _ _ _ _ [0] _
    refine sS rfl rfl rfl (asg rfl) ?_
    refine AR.nil ?_
    show AW _ _ _ _ _ _
    refine AW.ret ?_
    obtain rfl := Option.some.inj H
    exact And.intro rfl (Exists.intro _ (Exists.intro _ ⟨ResV.oneW rfl (.refl _), Sub.at [] rfl, rfl, rfl⟩))
   ·replace H := cnd_f c16 H
    refine AW.skip ?_
    show AW _ _ _ _ _ _
    obtain ⟨g17, H⟩ := grd_s H
    refine AW.region ?_
    show AR _ _ _ _ _ [0, 1, 2] _
    refine sS rfl rfl rfl (mv rfl) ?_
    refine sS rfl rfl rfl (g_add rfl rfl g17) ?_
    refine sS rfl rfl rfl (asg rfl) ?_
    refine AR.nil ?_
    exact Exists.intro (n5, y3 + 1) ⟨H, Nat.lt_succ_self _, WK.at [] (.cons (.refl _) (.cons (.refl _) (.nil _))) rfl⟩
  ·replace H := cnd_f c6 H
   refine AW.exit ?_
   exact Exists.intro () ⟨H, WK.at [] (.cons (.refl _) (.nil _)) rfl⟩
 rintro _ H
 replace H : ref14_Name_j1 a1 = some r2 := H
 unfold ref14_Name_j1 at H
 show AW _ _ _ _ _ _
 refine AW.seq ?_
 refine AW.region ?_
 show AR _ _ _ _ _ [0, 1, 2, 3, 4, 5, 6, 7, 8] _
 refine sS rfl rfl rfl (mv rfl) ?_
 refine sS rfl rfl rfl (opS_len_str Tryz.underlying9 rfl) ?_
 refine sS rfl rfl rfl (opS_ge rfl rfl) ?_
 refine sS rfl rfl rfl (mv rfl) ?_
 refine AR.meet (l := [8]) 48 (B ((decide (1 ≤ (a1.length : Int))) && (decide ((a1.length : Int) ≤ 40)))) (fun K => ?_) ?_
 ·rcases Bool.eq_false_or_eq_true (decide (1 ≤ (a1.length : Int))) with h19 | h19
  ·
   refine gT h19 rfl rfl rfl rfl rfl rfl (AO.ops rfl rfl (mv rfl) ?_)
   refine gT h19 rfl rfl rfl rfl rfl rfl (AO.ops rfl rfl (opS_len_str Tryz.underlying9 rfl) ?_)
   refine gT h19 rfl rfl rfl rfl rfl rfl (AO.ops rfl rfl (opS_le rfl rfl) ?_)
   refine sS rfl rfl rfl (opS_pick_t (av := .v _) rfl h19 rfl) ?_
   exact K _ 3 _ (B_congr (and_t h19)) rfl rfl
  ·
   refine gF h19 rfl rfl rfl rfl rfl ?_
   refine gF h19 rfl rfl rfl rfl rfl ?_
   refine gF h19 rfl rfl rfl rfl rfl ?_
   refine sS rfl rfl rfl (opS_pick_f (av := .v _) rfl h19 rfl) ?_
   exact K _ 3 _ (B_congr (and_f h19)) rfl rfl
 refine sS rfl rfl rfl (asg rfl) ?_
 refine AR.nil ?_
 show AW _ _ _ _ _ _
 refine AW.ret ?_
 obtain rfl := Option.some.inj H
 exact And.intro rfl (Exists.intro _ (Exists.intro _ ⟨ResV.oneW rfl (.refl _), Sub.at [] rfl, rfl, rfl⟩))
set_option maxRecDepth 100000 in
set_option maxHeartbeats 1000000 in
theorem w_ref14_Plain (F : Nat) (a1 : List UInt8) (r2 : Bool) (H : ref14_Plain F a1 = some r2) : ACalls Tryz.prog 115 [S a1] [] (Ret (B r2) []) := by
 unfold ref14_Plain at H
 refine ACalls.of_body Tryz.func115 rfl rfl ?_
 show AW _ _ 64 _ _ _
 refine AW.seq ?_
 refine AW.region ?_
 show AR _ _ _ _ _ [0] _
 refine sS rfl rfl rfl (asg rfl) ?_
 refine AR.nil ?_
 show AW _ _ _ _ _ _
 refine AW.cut (X := Unit) (fun _ => ⟨[(0, S a1)], [], []⟩) (fun _ => ref14_Plain_j1 a1 = some r2) ?_ ?_
 ·
  refine AW.seq ?_
  refine AW.region ?_
  show AR _ _ _ _ _ [0] _
  refine sS rfl rfl rfl (asg rfl) ?_
  refine AR.nil ?_
  show AW _ _ _ _ _ _
  refine AW.block ?_
  refine AW.loop (X := Nat × Int) (fun (n5, y3) => ⟨[(0, S a1), (3, i64 y3)], [], []⟩) (fun (n5, y3) => ref14_Plain_L1 a1 n5 y3 = some r2) (fun (n5, y3) => n5) (F, 0) H (WK.at [] (.cons (.refl _) (.cons (.refl _) (.nil _))) rfl) ?_
  rintro ⟨n5, y3⟩ H
  obtain ⟨n5, rfl, H⟩ := loop_s H
  replace H : ref14_Plain_B1 a1 (ref14_Plain_L1 a1 n5) y3 = some r2 := H
  unfold ref14_Plain_B1 at H
  show AW _ _ _ _ _ _
  refine AW.seq ?_
  refine AW.seq ?_
  refine AW.region ?_
  show AR _ _ _ _ _ [0, 1, 2, 3] _
  refine sS rfl rfl rfl (mv rfl) ?_
  refine sS rfl rfl rfl (mv rfl) ?_
  refine sS rfl rfl rfl (opS_len_str Tryz.underlying9 rfl) ?_
  refine sS rfl rfl rfl (opS_lt rfl rfl) ?_
  refine AR.nil ?_
  show AW _ _ _ _ _ _
  refine AW.cond rfl (fun c6 => ?_) (fun c6 => ?_)
  ·replace H := cnd_t c6 H
   refine AW.skip ?_
   show AW _ _ _ _ _ _
   refine AW.seq ?_
   refine AW.block ?_
   refine AW.seq ?_
   refine AW.seq ?_
   obtain ⟨g7, H⟩ := grd_s H
   obtain ⟨x8, e9, H⟩ := lt_s H
   obtain ⟨g11, H⟩ := grdc_s H
   obtain ⟨x12, e13, H⟩ := lt_s H
   refine AW.region ?_
   show AR _ _ _ _ _ [0, 1, 2, 3, 4, 5, 6, 7, 8, 9] _
   refine sS rfl rfl rfl (mv rfl) ?_
   refine sS rfl rfl rfl (mv rfl) ?_
   refine sS rfl rfl rfl (g_index_str Tryz.underlying9 rfl rfl g7 e9) ?_
   refine sS rfl rfl rfl (opS_lt rfl rfl) ?_
   refine sS rfl rfl rfl (mv rfl) ?_
   refine AR.meet (l := []) 19 (B ((decide ((x8.toNat : Int) < 32)) || (decide (126 < (x12.toNat : Int))))) (fun K => ?_) ?_
   ·rcases Bool.eq_false_or_eq_true (decide ((x8.toNat : Int) < 32)) with h10 | h10
    ·
     refine gF h10 rfl rfl rfl rfl rfl ?_
     refine gF h10 rfl rfl rfl rfl rfl ?_
     refine gF h10 rfl rfl rfl rfl rfl ?_
     refine gF h10 rfl rfl rfl rfl rfl ?_
     refine sS rfl rfl rfl (opS_pick_t (av := .v _) rfl h10 rfl) ?_
     exact K _ 4 _ (B_congr (or_t h10)) rfl rfl
    ·
     refine gT h10 rfl rfl rfl rfl rfl rfl (AO.ops rfl rfl (mv rfl) ?_)
     refine gT h10 rfl rfl rfl rfl rfl rfl (AO.ops rfl rfl (mv rfl) ?_)
     refine gT h10 rfl rfl rfl rfl rfl rfl (AO.ops rfl rfl (g_index_str Tryz.underlying9 rfl rfl (g11 (nf h10)) e13) ?_)
     refine gT h10 rfl rfl rfl rfl rfl rfl (AO.ops rfl rfl (opS_gt rfl rfl) ?_)
     refine sS rfl rfl rfl (opS_pick_f (av := .v _) rfl h10 rfl) ?_
     exact K _ 4 _ (B_congr (or_f h10)) rfl rfl
   refine AR.nil ?_
   show AW _ _ _ _ _ _
   refine AW.cond rfl (fun c14 => ?_) (fun c14 => ?_)
   ·replace H := cnd_t c14 H
    refine AW.seq ?_
    refine AW.region ?_
    show AR _ _ _ _ _ [0] _
    refine sS rfl rfl rfl (asg rfl) ?_
    refine AR.nil ?_
    show AW _ _ _ _ _ _
    refine AW.ret ?_
    obtain rfl := Option.some.inj H
    exact And.intro rfl (Exists.intro _ (Exists.intro _ ⟨ResV.oneW rfl (.refl _), Sub.at [] rfl, rfl, rfl⟩))
   ·replace H := cnd_f c14 H
    refine AW.skip ?_
    show AW _ _ _ _ _ _
    refine AW.seq ?_
    obtain ⟨g16, H⟩ := grdc_s H
    obtain ⟨x17, e18, H⟩ := lt_s H
    obtain ⟨g20, H⟩ := grdc_s H
    obtain ⟨g21, H⟩ := grdc_s H
    obtain ⟨x22, e23, H⟩ := lt_s H
    obtain ⟨g25, H⟩ := grdc_s H
    obtain ⟨x26, e27, H⟩ := lt_s H
    obtain ⟨g29, H⟩ := grdc_s H
    obtain ⟨g30, H⟩ := grdc_s H
    obtain ⟨x31, e32, H⟩ := lt_s H
    refine AW.region ?_
    show AR _ _ _ _ _ [0, 1, 2, 3, 4, 5, 6, 7, 8, 9, 10, 11, 12, 13, 14, 15, 16, 17, 18, 19, 20, 21, 22, 23, 24, 25, 26, 27] _
    refine sS rfl rfl rfl (mv rfl) ?_
    refine sS rfl rfl rfl (opS_gt rfl rfl) ?_
    refine sS rfl rfl rfl (mv rfl) ?_
    refine AR.meet (l := []) 47 (B ((decide (0 < y3)) && (((decide (x17 = 32)) && (decide (x22 = 32))) || ((decide (x26 = 63)) && (decide (x31 = 61)))))) (fun K => ?_) ?_
    ·rcases Bool.eq_false_or_eq_true (decide (0 < y3)) with h15 | h15
     ·
      refine gT h15 rfl rfl rfl rfl rfl rfl (AO.ops rfl rfl (mv rfl) ?_)
      refine gT h15 rfl rfl rfl rfl rfl rfl (AO.ops rfl rfl (mv rfl) ?_)
      refine gT h15 rfl rfl rfl rfl rfl rfl (AO.ops rfl rfl (g_index_str Tryz.underlying9 rfl rfl (g16 h15) e18) ?_)
      refine gT h15 rfl rfl rfl rfl rfl rfl (AO.ops rfl rfl (g_eq8 (a := x17) (b := 32) rfl rfl) ?_)
      refine gT h15 rfl rfl rfl rfl rfl rfl (AO.ops rfl rfl (mv rfl) ?_)
      refine AR.meet (l := [14, 15, 16, 17, 18, 19, 20, 21, 22, 23, 24, 25, 26, 27]) 33 (B ((decide (x17 = 32)) && (decide (x22 = 32)))) (fun K => ?_) ?_
      ·rcases Bool.eq_false_or_eq_true (decide (x17 = 32)) with h19 | h19
       ·
        refine gT h19 rfl rfl rfl rfl rfl rfl (AO.ops rfl rfl (mv rfl) ?_)
        refine gT h19 rfl rfl rfl rfl rfl rfl (AO.ops rfl rfl (mv rfl) ?_)
        refine gT h19 rfl rfl rfl rfl rfl rfl (AO.ops rfl rfl (g_sub rfl rfl (g20 (and_tt h15 h19))) ?_)
        refine gT h19 rfl rfl rfl rfl rfl rfl (AO.ops rfl rfl (g_index_str Tryz.underlying9 rfl rfl (g21 (and_tt h15 h19)) e23) ?_)
        refine gT h19 rfl rfl rfl rfl rfl rfl (AO.ops rfl rfl (g_eq8 (a := x22) (b := 32) rfl rfl) ?_)
        refine gT h15 rfl rfl rfl rfl rfl rfl (AO.ops rfl rfl (opS_pick_t (av := .v _) rfl h19 rfl) ?_)
        exact K _ 5 _ (B_congr (and_t h19)) rfl rfl
       ·
        refine gF h19 rfl rfl rfl rfl rfl ?_
        refine gF h19 rfl rfl rfl rfl rfl ?_
        refine gF h19 rfl rfl rfl rfl rfl ?_
        refine gF h19 rfl rfl rfl rfl rfl ?_
        refine gF h19 rfl rfl rfl rfl rfl ?_
        refine gT h15 rfl rfl rfl rfl rfl rfl (AO.ops rfl rfl (opS_pick_f (av := .v _) rfl h19 rfl) ?_)
        exact K _ 5 _ (B_congr (and_f h19)) rfl rfl
      refine gT h15 rfl rfl rfl rfl rfl rfl (AO.ops rfl rfl (mv rfl) ?_)
      refine AR.meet (l := [27]) 46 (B (((decide (x17 = 32)) && (decide (x22 = 32))) || ((decide (x26 = 63)) && (decide (x31 = 61))))) (fun K => ?_) ?_
      ·rcases Bool.eq_false_or_eq_true ((decide (x17 = 32)) && (decide (x22 = 32))) with h24 | h24
       ·
        refine gF h24 rfl rfl rfl rfl rfl ?_
        refine gF h24 rfl rfl rfl rfl rfl ?_
        refine gF h24 rfl rfl rfl rfl rfl ?_
        refine gF h24 rfl rfl rfl rfl rfl ?_
        refine gF h24 rfl rfl rfl rfl rfl ?_
        refine gU rfl rfl rfl rfl rfl ?_
        refine gU rfl rfl rfl rfl rfl ?_
        refine gU rfl rfl rfl rfl rfl ?_
        refine gU rfl rfl rfl rfl rfl ?_
        refine gU rfl rfl rfl rfl rfl ?_
        refine gF h24 rfl rfl rfl rfl rfl ?_
        refine gT h15 rfl rfl rfl rfl rfl rfl (AO.ops rfl rfl (opS_pick_t (av := .v _) rfl h24 rfl) ?_)
        exact K _ 11 _ (B_congr (or_t h24)) rfl rfl
       ·
        refine gT h24 rfl rfl rfl rfl rfl rfl (AO.ops rfl rfl (mv rfl) ?_)
        refine gT h24 rfl rfl rfl rfl rfl rfl (AO.ops rfl rfl (mv rfl) ?_)
        refine gT h24 rfl rfl rfl rfl rfl rfl (AO.ops rfl rfl (g_index_str Tryz.underlying9 rfl rfl (g25 (and_tt h15 (nf h24))) e27) ?_)
        refine gT h24 rfl rfl rfl rfl rfl rfl (AO.ops rfl rfl (g_eq8 (a := x26) (b := 63) rfl rfl) ?_)
        refine gT h24 rfl rfl rfl rfl rfl rfl (AO.ops rfl rfl (mv rfl) ?_)
        refine AR.meet (l := [26, 27]) 45 (B ((decide (x26 = 63)) && (decide (x31 = 61)))) (fun K => ?_) ?_
        ·rcases Bool.eq_false_or_eq_true (decide (x26 = 63)) with h28 | h28
         ·
          refine gT h28 rfl rfl rfl rfl rfl rfl (AO.ops rfl rfl (mv rfl) ?_)
          refine gT h28 rfl rfl rfl rfl rfl rfl (AO.ops rfl rfl (mv rfl) ?_)
          refine gT h28 rfl rfl rfl rfl rfl rfl (AO.ops rfl rfl (g_sub rfl rfl (g29 (and_tt (and_tt h15 (nf h24)) h28))) ?_)
          refine gT h28 rfl rfl rfl rfl rfl rfl (AO.ops rfl rfl (g_index_str Tryz.underlying9 rfl rfl (g30 (and_tt (and_tt h15 (nf h24)) h28)) e32) ?_)
          refine gT h28 rfl rfl rfl rfl rfl rfl (AO.ops rfl rfl (g_eq8 (a := x31) (b := 61) rfl rfl) ?_)
          refine gT h24 rfl rfl rfl rfl rfl rfl (AO.ops rfl rfl (opS_pick_t (av := .v _) rfl h28 rfl) ?_)
          exact K _ 5 _ (B_congr (and_t h28)) rfl rfl
         ·
          refine gF h28 rfl rfl rfl rfl rfl ?_
          refine gF h28 rfl rfl rfl rfl rfl ?_
          refine gF h28 rfl rfl rfl rfl rfl ?_
          refine gF h28 rfl rfl rfl rfl rfl ?_
          refine gF h28 rfl rfl rfl rfl rfl ?_
          refine gT h24 rfl rfl rfl rfl rfl rfl (AO.ops rfl rfl (opS_pick_f (av := .v _) rfl h28 rfl) ?_)
          exact K _ 5 _ (B_congr (and_f h28)) rfl rfl
        refine gT h15 rfl rfl rfl rfl rfl rfl (AO.ops rfl rfl (opS_pick_f (av := .v _) rfl h24 rfl) ?_)
        exact K _ 6 _ (B_congr (or_f h24)) rfl rfl
      refine sS rfl rfl rfl (opS_pick_t (av := .v _) rfl h15 rfl) ?_
      exact K _ 8 _ (B_congr (and_t h15)) rfl rfl
     ·
      refine gF h15 rfl rfl rfl rfl rfl ?_
      refine gF h15 rfl rfl rfl rfl rfl ?_
      refine gF h15 rfl rfl rfl rfl rfl ?_
      refine gF h15 rfl rfl rfl rfl rfl ?_
      refine gF h15 rfl rfl rfl rfl rfl ?_
      refine gU rfl rfl rfl rfl rfl ?_
      refine gU rfl rfl rfl rfl rfl ?_
      refine gU rfl rfl rfl rfl rfl ?_
      refine gU rfl rfl rfl rfl rfl ?_
      refine gU rfl rfl rfl rfl rfl ?_
      refine gF h15 rfl rfl rfl rfl rfl ?_
      refine gF h15 rfl rfl rfl rfl rfl ?_
      refine gU rfl rfl rfl rfl rfl ?_
      refine gU rfl rfl rfl rfl rfl ?_
      refine gU rfl rfl rfl rfl rfl ?_
      refine gU rfl rfl rfl rfl rfl ?_
      refine gU rfl rfl rfl rfl rfl ?_
      refine gU rfl rfl rfl rfl rfl ?_
      refine gU rfl rfl rfl rfl rfl ?_
      refine gU rfl rfl rfl rfl rfl ?_
      refine gU rfl rfl rfl rfl rfl ?_
      refine gU rfl rfl rfl rfl rfl ?_
      refine gU rfl rfl rfl rfl rfl ?_
      refine gF h15 rfl rfl rfl rfl rfl ?_
      refine sS rfl rfl rfl (opS_pick_f (av := .v _) rfl h15 rfl) ?_
      exact K _ 24 _ (B_congr (and_f h15)) rfl rfl
    refine AR.nil ?_
    show AW _ _ _ _ _ _
    refine AW.cond rfl (fun c33 => ?_) (fun c33 => ?_)
    ·replace H := cnd_t c33 H
     refine AW.seq ?_
     refine AW.region ?_
     show AR _ _ _ _ _ [0] _
     refine sS rfl rfl rfl (asg rfl) ?_
     refine AR.nil ?_
     show AW _ _ _ _ _ _
     refine AW.ret ?_
     obtain rfl := Option.some.inj H
     exact And.intro rfl (Exists.intro _ (Exists.intro _ ⟨ResV.oneW rfl (.refl _), Sub.at [] rfl, rfl, rfl⟩))
    ·replace H := cnd_f c33 H
     refine AW.skip ?_
     show AW _ _ _ _ _ _
     obtain ⟨g34, H⟩ := grd_s H
     refine AW.region ?_
     show AR _ _ _ _ _ [0, 1, 2] _
     refine sS rfl rfl rfl (mv rfl) ?_
     refine sS rfl rfl rfl (g_add rfl rfl g34) ?_
     refine sS rfl rfl rfl (asg rfl) ?_
     refine AR.nil ?_
     exact Exists.intro (n5, y3 + 1) ⟨H, Nat.lt_succ_self _, WK.at [] (.cons (.refl _) (.cons (.refl _) (.nil _))) rfl⟩
  ·replace H := cnd_f c6 H
   refine AW.exit ?_
   exact Exists.intro () ⟨H, WK.at [] (.cons (.refl _) (.nil _)) rfl⟩
 rintro _ H
 replace H : ref14_Plain_j1 a1 = some r2 := H
 unfold ref14_Plain_j1 at H
 show AW _ _ _ _ _ _
 refine AW.seq ?_
 obtain ⟨g37, H⟩ := grdc_s H
 obtain ⟨x38, e39, H⟩ := lt_s H
 obtain ⟨g41, H⟩ := grdc_s H
 obtain ⟨g42, H⟩ := grdc_s H
 obtain ⟨x43, e44, H⟩ := lt_s H
 refine AW.region ?_
 show AR _ _ _ _ _ [0, 1, 2, 3, 4, 5, 6, 7, 8, 9, 10, 11, 12, 13, 14, 15, 16] _
 refine sS rfl rfl rfl (mv rfl) ?_
 refine sS rfl rfl rfl (opS_len_str Tryz.underlying9 rfl) ?_
 refine sS rfl rfl rfl (opS_gt rfl rfl) ?_
 refine sS rfl rfl rfl (mv rfl) ?_
 refine AR.meet (l := [8, 9, 10, 11, 12, 13, 14, 15, 16]) 55 (B ((decide (0 < (a1.length : Int))) && (!decide (x38 = 32)))) (fun K => ?_) ?_
 ·rcases Bool.eq_false_or_eq_true (decide (0 < (a1.length : Int))) with h36 | h36
  ·
   refine gT h36 rfl rfl rfl rfl rfl rfl (AO.ops rfl rfl (mv rfl) ?_)
   refine gT h36 rfl rfl rfl rfl rfl rfl (AO.ops rfl rfl (g_index_str Tryz.underlying9 rfl rfl (g37 h36) e39) ?_)
   refine gT h36 rfl rfl rfl rfl rfl rfl (AO.ops rfl rfl (g_ne8 (a := x38) (b := 32) rfl rfl) ?_)
   refine sS rfl rfl rfl (opS_pick_t (av := .v _) rfl h36 rfl) ?_
   exact K _ 3 _ (B_congr (and_t h36)) rfl rfl
  ·
   refine gF h36 rfl rfl rfl rfl rfl ?_
   refine gF h36 rfl rfl rfl rfl rfl ?_
   refine gF h36 rfl rfl rfl rfl rfl ?_
   refine sS rfl rfl rfl (opS_pick_f (av := .v _) rfl h36 rfl) ?_
   exact K _ 3 _ (B_congr (and_f h36)) rfl rfl
 refine sS rfl rfl rfl (mv rfl) ?_
 refine AR.meet (l := [16]) 63 (B (((decide (0 < (a1.length : Int))) && (!decide (x38 = 32))) && (!decide (x43 = 32)))) (fun K => ?_) ?_
 ·rcases Bool.eq_false_or_eq_true ((decide (0 < (a1.length : Int))) && (!decide (x38 = 32))) with h40 | h40
  ·
   refine gT h40 rfl rfl rfl rfl rfl rfl (AO.ops rfl rfl (mv rfl) ?_)
   refine gT h40 rfl rfl rfl rfl rfl rfl (AO.ops rfl rfl (mv rfl) ?_)
   refine gT h40 rfl rfl rfl rfl rfl rfl (AO.ops rfl rfl (opS_len_str Tryz.underlying9 rfl) ?_)
   refine gT h40 rfl rfl rfl rfl rfl rfl (AO.ops rfl rfl (g_sub rfl rfl (g41 h40)) ?_)
   refine gT h40 rfl rfl rfl rfl rfl rfl (AO.ops rfl rfl (g_index_str Tryz.underlying9 rfl rfl (g42 h40) e44) ?_)
   refine gT h40 rfl rfl rfl rfl rfl rfl (AO.ops rfl rfl (g_ne8 (a := x43) (b := 32) rfl rfl) ?_)
   refine sS rfl rfl rfl (opS_pick_t (av := .v _) rfl h40 rfl) ?_
   exact K _ 6 _ (B_congr (and_t h40)) rfl rfl
  ·
   refine gF h40 rfl rfl rfl rfl rfl ?_
   refine gF h40 rfl rfl rfl rfl rfl ?_
   refine gF h40 rfl rfl rfl rfl rfl ?_
   refine gF h40 rfl rfl rfl rfl rfl ?_
   refine gF h40 rfl rfl rfl rfl rfl ?_
   refine gF h40 rfl rfl rfl rfl rfl ?_
   refine sS rfl rfl rfl (opS_pick_f (av := .v _) rfl h40 rfl) ?_
   exact K _ 6 _ (B_congr (and_f h40)) rfl rfl
 refine sS rfl rfl rfl (asg rfl) ?_
 refine AR.nil ?_
 show AW _ _ _ _ _ _
 refine AW.ret ?_
 obtain rfl := Option.some.inj H
 exact And.intro rfl (Exists.intro _ (Exists.intro _ ⟨ResV.oneW rfl (.refl _), Sub.at [] rfl, rfl, rfl⟩))
set_option maxRecDepth 100000 in
set_option maxHeartbeats 1000000 in
theorem w_ref14_part (F : Nat) (a1 : List UInt8) (r2 : Int) (H : ref14_part F a1 = some r2) : ACalls Tryz.prog 117 [S a1] [] (Ret (i64 r2) []) := by
 unfold ref14_part at H
 refine ACalls.of_body Tryz.func117 rfl rfl ?_
 show AW _ _ 24 _ _ _
 refine AW.seq ?_
 refine AW.region ?_
 show AR _ _ _ _ _ [0] _
 refine sS rfl rfl rfl (asg rfl) ?_
 refine AR.nil ?_
 show AW _ _ _ _ _ _
 refine AW.seq ?_
 refine AW.seq ?_
 refine AW.region ?_
 show AR _ _ _ _ _ [0, 1, 2] _
 refine sS rfl rfl rfl (mv rfl) ?_
 refine sS rfl rfl rfl (opS_len_str Tryz.underlying9 rfl) ?_
 refine sS rfl rfl rfl (opS_le rfl rfl) ?_
 refine AR.nil ?_
 show AW _ _ _ _ _ _
 refine AW.cond rfl (fun c3 => ?_) (fun c3 => ?_)
 ·replace H := cnd_t c3 H
  refine AW.seq ?_
  refine AW.region ?_
  show AR _ _ _ _ _ [0, 1, 2] _
  refine sS rfl rfl rfl (mv rfl) ?_
  refine sS rfl rfl rfl (opS_len_str Tryz.underlying9 rfl) ?_
  refine sS rfl rfl rfl (asg rfl) ?_
  refine AR.nil ?_
  show AW _ _ _ _ _ _
  refine AW.ret ?_
  obtain rfl := Option.some.inj H
  exact And.intro rfl (Exists.intro _ (Exists.intro _ ⟨ResV.oneW rfl (.refl _), Sub.at [] rfl, rfl, rfl⟩))
 ·replace H := cnd_f c3 H
  refine AW.skip ?_
  show AW _ _ _ _ _ _
  refine AW.cut (X := Unit) (fun _ => ⟨[], [], []⟩) (fun _ => ref14_part_j1 = some r2) ?_ ?_
  ·
   refine AW.seq ?_
   refine AW.region ?_
   show AR _ _ _ _ _ [0] _
   refine sS rfl rfl rfl (asg rfl) ?_
   refine AR.nil ?_
   show AW _ _ _ _ _ _
   refine AW.block ?_
   refine AW.loop (X := Nat × Int) (fun (n6, y4) => ⟨[(0, S a1), (3, i64 y4)], [], []⟩) (fun (n6, y4) => ref14_part_L1 a1 n6 y4 = some r2) (fun (n6, y4) => n6) (F, 45) H (WK.at [] (.cons (.refl _) (.cons (.refl _) (.nil _))) rfl) ?_
   rintro ⟨n6, y4⟩ H
   obtain ⟨n6, rfl, H⟩ := loop_s H
   replace H : ref14_part_B1 a1 (ref14_part_L1 a1 n6) y4 = some r2 := H
   unfold ref14_part_B1 at H
   show AW _ _ _ _ _ _
   refine AW.seq ?_
   refine AW.seq ?_
   refine AW.region ?_
   show AR _ _ _ _ _ [0, 1] _
   refine sS rfl rfl rfl (mv rfl) ?_
   refine sS rfl rfl rfl (opS_ge rfl rfl) ?_
   refine AR.nil ?_
   show AW _ _ _ _ _ _
   refine AW.cond rfl (fun c7 => ?_) (fun c7 => ?_)
   ·replace H := cnd_t c7 H
    refine AW.skip ?_
    show AW _ _ _ _ _ _
    refine AW.seq ?_
    refine AW.block ?_
    refine AW.seq ?_
    obtain ⟨g8, H⟩ := grd_s H
    obtain ⟨x9, e10, H⟩ := lt_s H
    obtain ⟨g12, H⟩ := grdc_s H
    obtain ⟨x13, e14, H⟩ := lt_s H
    refine AW.region ?_
    show AR _ _ _ _ _ [0, 1, 2, 3, 4, 5, 6, 7, 8, 9] _
    refine sS rfl rfl rfl (mv rfl) ?_
    refine sS rfl rfl rfl (mv rfl) ?_
    refine sS rfl rfl rfl (g_index_str Tryz.underlying9 rfl rfl g8 e10) ?_
    refine sS rfl rfl rfl (opS_lt rfl rfl) ?_
    refine sS rfl rfl rfl (mv rfl) ?_
    refine AR.meet (l := []) 22 (B ((decide ((x9.toNat : Int) < 128)) || (decide (191 < (x13.toNat : Int))))) (fun K => ?_) ?_
    ·rcases Bool.eq_false_or_eq_true (decide ((x9.toNat : Int) < 128)) with h11 | h11
     ·
      refine gF h11 rfl rfl rfl rfl rfl ?_
      refine gF h11 rfl rfl rfl rfl rfl ?_
      refine gF h11 rfl rfl rfl rfl rfl ?_
      refine gF h11 rfl rfl rfl rfl rfl ?_
      refine sS rfl rfl rfl (opS_pick_t (av := .v _) rfl h11 rfl) ?_
      exact K _ 4 _ (B_congr (or_t h11)) rfl rfl
     ·
      refine gT h11 rfl rfl rfl rfl rfl rfl (AO.ops rfl rfl (mv rfl) ?_)
      refine gT h11 rfl rfl rfl rfl rfl rfl (AO.ops rfl rfl (mv rfl) ?_)
      refine gT h11 rfl rfl rfl rfl rfl rfl (AO.ops rfl rfl (g_index_str Tryz.underlying9 rfl rfl (g12 (nf h11)) e14) ?_)
      refine gT h11 rfl rfl rfl rfl rfl rfl (AO.ops rfl rfl (opS_gt rfl rfl) ?_)
      refine sS rfl rfl rfl (opS_pick_f (av := .v _) rfl h11 rfl) ?_
      exact K _ 4 _ (B_congr (or_f h11)) rfl rfl
    refine AR.nil ?_
    show AW _ _ _ _ _ _
    refine AW.cond rfl (fun c15 => ?_) (fun c15 => ?_)
    ·replace H := cnd_t c15 H
     refine AW.seq ?_
     refine AW.region ?_
     show AR _ _ _ _ _ [0, 1] _
     refine sS rfl rfl rfl (mv rfl) ?_
     refine sS rfl rfl rfl (asg rfl) ?_
     refine AR.nil ?_
     show AW _ _ _ _ _ _
     refine AW.ret ?_
     obtain rfl := Option.some.inj H
     exact And.intro rfl (Exists.intro _ (Exists.intro _ ⟨ResV.oneW rfl (.refl _), Sub.at [] rfl, rfl, rfl⟩))
    ·replace H := cnd_f c15 H
     refine AW.skip ?_
     show AW _ _ _ _ _ _
     obtain ⟨g16, H⟩ := grd_s H
     refine AW.region ?_
     show AR _ _ _ _ _ [0, 1, 2] _
     refine sS rfl rfl rfl (mv rfl) ?_
     refine sS rfl rfl rfl (g_sub rfl rfl g16) ?_
     refine sS rfl rfl rfl (asg rfl) ?_
     refine AR.nil ?_
     exact Exists.intro (n6, y4 - 1) ⟨H, Nat.lt_succ_self _, WK.at [] (.cons (.refl _) (.cons (.refl _) (.nil _))) rfl⟩
   ·replace H := cnd_f c7 H
    refine AW.exit ?_
    exact Exists.intro () ⟨H, WK.at [] (.nil _) rfl⟩
  rintro _ H
  replace H : ref14_part_j1 = some r2 := H
  unfold ref14_part_j1 at H
  show AW _ _ _ _ _ _
  refine AW.seq ?_
  refine AW.region ?_
  show AR _ _ _ _ _ [0] _
  refine sS rfl rfl rfl (asg rfl) ?_
  refine AR.nil ?_
  show AW _ _ _ _ _ _
  refine AW.ret ?_
  obtain rfl := Option.some.inj H
  exact And.intro rfl (Exists.intro _ (Exists.intro _ ⟨ResV.oneW rfl (.refl _), Sub.at [] rfl, rfl, rfl⟩))
set_option maxRecDepth 100000 in
set_option maxHeartbeats 1000000 in
theorem w_ref14_Words (F : Nat) (a1 : List UInt8) (r2 : List (List UInt8)) (H : ref14_Words F a1 = some r2) : ACalls Tryz.prog 93 [S a1] [] (Ret (slE Enc.str r2 none) []) := by
 unfold ref14_Words at H
 refine ACalls.of_body Tryz.func93 rfl rfl ?_
 show AW _ _ 30 _ _ _
 refine AW.seq ?_
 refine AW.region ?_
 show AR _ _ _ _ _ [0] _
 refine sS rfl rfl rfl (asg rfl) ?_
 refine AR.nil ?_
 show AW _ _ _ _ _ _
 refine AW.seq ?_
 obtain ⟨x3, e4, H⟩ := bnd_s H
 refine AW.region ?_
 show AR _ _ _ _ _ [0, 1, 2] _
 refine sS rfl rfl rfl (mv rfl) ?_
 refine AR.run rfl rfl (AO.callp rfl en115_headr rfl (w_ref14_Plain F a1 x3 e4) ?_)
 refine sS rfl rfl rfl (asg rfl) ?_
 refine AR.nil ?_
 show AW _ _ _ _ _ _
 refine AW.seq ?_
 refine AW.seq ?_
 refine AW.region ?_
 show AR _ _ _ _ _ [0] _
 refine sS rfl rfl rfl (mv rfl) ?_
 refine AR.nil ?_
 show AW _ _ _ _ _ _
 refine AW.cond rfl (fun c5 => ?_) (fun c5 => ?_)
 ·replace H := cnd_t c5 H
  refine AW.seq ?_
  obtain ⟨x6, e7, H⟩ := bnd_s H
  refine AW.region ?_
  show AR _ _ _ _ _ [0, 1, 2] _
  refine sS rfl rfl rfl (mv rfl) ?_
  refine AR.run rfl rfl (AO.callp rfl en116_headr rfl (w_ref05_Split F a1 32 x6 e7) ?_)
  refine sS rfl rfl rfl (opS_assign (av := slE _ _ _) rfl) ?_
  refine AR.nil ?_
  show AW _ _ _ _ _ _
  refine AW.ret ?_
  obtain rfl := Option.some.inj H
  exact And.intro rfl (Exists.intro _ (Exists.intro _ ⟨ResV.oneW rfl (.refl _), Sub.at [] rfl, rfl, rfl⟩))
 ·replace H := cnd_f c5 H
  refine AW.skip ?_
  show AW _ _ _ _ _ _
  refine AW.seq ?_
  refine AW.region ?_
  show AR _ _ _ _ _ [0] _
  refine sS rfl rfl rfl (asg rfl) ?_
  refine AR.nil ?_
  show AW _ _ _ _ _ _
  refine AW.nil_grows 4 1 9 rfl fun t8 => ?_
  show AW _ _ _ _ _ ⟨(4, slE Enc.str [] (some t8)) :: _, _, _⟩
  refine AW.cut (X := (List (List UInt8)) × Nat) (fun (y37, t38) => ⟨[(4, slE Enc.str y37 (some t38))], [], [.tok t38 9]⟩) (fun (y37, t38) => ref14_Words_j1 y37 = some r2) ?_ ?_
  ·
   refine AW.block ?_
   refine AW.loop (X := Nat × (List UInt8) × (List (List UInt8)) × Nat) (fun (n13, y9, y10, t11) => ⟨[(0, S y9), (4, slE Enc.str y10 (some t11))], [], [.tok t11 9]⟩) (fun (n13, y9, y10, t11) => ref14_Words_L1 F n13 (y9, y10) = some r2) (fun (n13, y9, y10, t11) => n13) (F, a1, [], t8) H (WK.at [0] (.cons (.refl _) (.cons (.refl _) (.nil _))) rfl) ?_
   rintro ⟨n13, y9, y10, t11⟩ H
   obtain ⟨n13, rfl, H⟩ := loop_s H
   replace H : ref14_Words_B1 F (ref14_Words_L1 F n13) y9 y10 = some r2 := H
   unfold ref14_Words_B1 at H
   show AW _ _ _ _ _ _
   refine AW.seq ?_
   refine AW.seq ?_
   refine AW.region ?_
   show AR _ _ _ _ _ [0, 1, 2] _
   refine sS rfl rfl rfl (mv rfl) ?_
   refine sS rfl rfl rfl (opS_len_str Tryz.underlying9 rfl) ?_
   refine sS rfl rfl rfl (opS_gt rfl rfl) ?_
   refine AR.nil ?_
   show AW _ _ _ _ _ _
   refine AW.cond rfl (fun c14 => ?_) (fun c14 => ?_)
   ·replace H := cnd_t c14 H
    refine AW.skip ?_
    show AW _ _ _ _ _ _
    refine AW.block ?_
    refine AW.seq ?_
    obtain ⟨x15, e16, H⟩ := bnd_s H
    refine AW.region ?_
    show AR _ _ _ _ _ [0, 1, 2] _
    refine sS rfl rfl rfl (mv rfl) ?_
    refine AR.run rfl rfl (AO.callp rfl en117_headr rfl (w_ref14_part F y9 x15 e16) ?_)
    refine sS rfl rfl rfl (asg rfl) ?_
    refine AR.nil ?_
    show AW _ _ _ _ _ _
    refine AW.seq ?_
    obtain ⟨g17, H⟩ := grd_s H
    obtain ⟨x18, e19, H⟩ := lt_s H
    obtain ⟨g20, H⟩ := grd_s H
    obtain ⟨x22, e23, H⟩ := bnd_s H
    obtain ⟨g24, H⟩ := grd_s H
    obtain ⟨x25, e26, H⟩ := lt_s H
    obtain ⟨g27, H⟩ := grd_s H
    obtain ⟨x28, e29, H⟩ := lt_s H
    obtain ⟨g31, H⟩ := grd_s H
    obtain ⟨x32, e33, H⟩ := lt_s H
    refine AW.region ?_
    show AR _ _ _ _ _ [0, 1, 2, 3, 4, 5, 6, 7, 8, 9, 10] _
    refine sS rfl rfl rfl (opS_move (av := slE _ _ _) rfl) ?_
    refine sS rfl rfl rfl (mv rfl) ?_
    refine sS rfl rfl rfl (mv rfl) ?_
    refine sS rfl rfl rfl (g_to_str Tryz.underlying9 rfl rfl g17 e19) ?_
    refine sX rfl rfl rfl (g_conv_str_bytes (bytes := 1) Tryz.underlying9 Tryz.underlying26 Tryz.underlying5 rfl g20) ?_
    rintro _ _ ⟨t21, rfl, rfl⟩
    refine AR.run rfl rfl (AO.callp rfl en118_headr rfl (w_ref13_Raw F x18 (some t21) x22 e23) ?_)
    refine sS rfl rfl rfl (g_cat rfl rfl g24 e26) ?_
    refine sS rfl rfl rfl (g_cat rfl rfl g27 e29) ?_
    refine sR rfl rfl rfl (opR_buildE (E := Enc.str) (bytes := 16) (xs := [.tmp 23]) (l := ([x28] : List (List UInt8))) Tryz.underlying22 (by kernel_rfl) rfl rfl (by decide) rfl rfl) ?_
    refine sX rfl rfl rfl (g_append (E := Enc.str) (bytes := 16) 1 Tryz.underlying22 Tryz.underlying22 rfl (by kernel_rfl) rfl rfl rfl rfl g31 e33) ?_
    rintro _ _ ⟨t30, rfl, rfl⟩
    refine sS rfl rfl rfl (opS_assign (av := slE _ _ _) rfl) ?_
    refine AR.nil ?_
    show AW _ _ _ _ _ _
    obtain ⟨g34, H⟩ := grd_s H
    obtain ⟨x35, e36, H⟩ := lt_s H
    refine AW.region ?_
    show AR _ _ _ _ _ [0, 1, 2, 3] _
    refine sS rfl rfl rfl (mv rfl) ?_
    refine sS rfl rfl rfl (mv rfl) ?_
    refine sS rfl rfl rfl (g_from_str Tryz.underlying9 rfl rfl g34 e36) ?_
    refine sS rfl rfl rfl (asg rfl) ?_
    refine AR.nil ?_
    exact Exists.intro (n13, x35, x32, t30) ⟨H, Nat.lt_succ_self _, WK.at [1] (.cons (.refl _) (.cons (.refl _) (.nil _))) rfl⟩
   ·replace H := cnd_f c14 H
    refine AW.exit ?_
    exact Exists.intro (y10, t11) ⟨H, WK.at [0] (.cons (.refl _) (.nil _)) rfl⟩
  rintro ⟨y37, t38⟩ H
  replace H : ref14_Words_j1 y37 = some r2 := H
  unfold ref14_Words_j1 at H
  show AW _ _ _ _ _ _
  refine AW.seq ?_
  refine AW.region ?_
  show AR _ _ _ _ _ [0, 1] _
  refine sS rfl rfl rfl (opS_move (av := slE _ _ _) rfl) ?_
  refine sS rfl rfl rfl (opS_assign (av := slE _ _ _) rfl) ?_
  refine AR.nil ?_
  show AW _ _ _ _ _ _
  refine AW.ret ?_
  obtain rfl := Option.some.inj H
  exact And.intro rfl (Exists.intro _ (Exists.intro _ ⟨ResV.oneW rfl (.tok _ _ _), Sub.at [] rfl, rfl, rfl⟩))
set_option maxRecDepth 100000 in
set_option maxHeartbeats 1000000 in
theorem w_ref14_Line (F : Nat) (a1 : List UInt8) (a2 : List UInt8) (r3 : List UInt8) (r4 : Int) (H : ref14_Line F a1 a2 = some (r3, r4)) : ACalls Tryz.prog 71 [.agg [S a1, S a2]] [] (Ret (.tup [slE Enc.byte r3 none, i64 r4]) []) := by
 unfold ref14_Line at H
 refine ACalls.of_body Tryz.func71 rfl rfl ?_
 show AW _ _ 65 _ _ _
 refine AW.seq ?_
 refine AW.region ?_
 show AR _ _ _ _ _ [0, 1, 2] _
 refine sR rfl rfl rfl (opR_boxCp rfl (.inr ⟨_, rfl⟩)) ?_
 refine sS rfl rfl rfl (asg rfl) ?_
 refine sS rfl rfl rfl (asg rfl) ?_
 refine AR.nil ?_
 show AW _ _ _ _ _ _
 refine AW.seq ?_
 obtain ⟨x5, e6, H⟩ := bnd_s H
 refine AW.region ?_
 show AR _ _ _ _ _ [0, 1, 2, 3] _
 refine sS rfl rfl rfl (opS_fieldAddr_cp (n := 0) (by kernel_rfl) rfl (Nat.le_of_ble_eq_true rfl)) ?_
 refine sS rfl rfl rfl (opS_load_cp Tryz.underlying9 rfl rfl) ?_
 refine AR.run rfl rfl (AO.callp rfl en92_headr rfl (w_ref14_Name F a1 x5 e6) ?_)
 refine sS rfl rfl rfl (asg rfl) ?_
 refine AR.nil ?_
 show AW _ _ _ _ _ _
 refine AW.seq ?_
 refine AW.seq ?_
 refine AW.region ?_
 show AR _ _ _ _ _ [0, 1, 2, 3, 4, 5, 6, 7] _
 refine sS rfl rfl rfl (mv rfl) ?_
 refine sS rfl rfl rfl (opS_not rfl) ?_
 refine sS rfl rfl rfl (mv rfl) ?_
 refine AR.meet (l := []) 19 (B ((!x5) || (decide (4000 < (a2.length : Int))))) (fun K => ?_) ?_
 ·rcases Bool.eq_false_or_eq_true (!x5) with h7 | h7
  ·
   refine gF h7 rfl rfl rfl rfl rfl ?_
   refine gF h7 rfl rfl rfl rfl rfl ?_
   refine gF h7 rfl rfl rfl rfl rfl ?_
   refine gF h7 rfl rfl rfl rfl rfl ?_
   refine sS rfl rfl rfl (opS_pick_t (av := .v _) rfl h7 rfl) ?_
   exact K _ 4 _ (B_congr (or_t h7)) rfl rfl
  ·
   refine gT h7 rfl rfl rfl rfl rfl rfl (AO.ops rfl rfl (opS_fieldAddr_cp (n := 1) (by kernel_rfl) rfl (Nat.le_of_ble_eq_true rfl)) ?_)
   refine gT h7 rfl rfl rfl rfl rfl rfl (AO.ops rfl rfl (opS_load_cp Tryz.underlying9 rfl rfl) ?_)
   refine gT h7 rfl rfl rfl rfl rfl rfl (AO.ops rfl rfl (opS_len_str Tryz.underlying9 rfl) ?_)
   refine gT h7 rfl rfl rfl rfl rfl rfl (AO.ops rfl rfl (opS_gt rfl rfl) ?_)
   refine sS rfl rfl rfl (opS_pick_f (av := .v _) rfl h7 rfl) ?_
   exact K _ 4 _ (B_congr (or_f h7)) rfl rfl
 refine AR.nil ?_
 show AW _ _ _ _ _ _
 refine AW.cond rfl (fun c8 => ?_) (fun c8 => ?_)
 ·replace H := cnd_t c8 H
  refine AW.seq ?_
  refine AW.region ?_
  show AR _ _ _ _ _ [0, 1] _
  refine sS rfl rfl rfl (asg rfl) ?_
  refine sS rfl rfl rfl (asg rfl) ?_
  refine AR.nil ?_
  show AW _ _ _ _ _ _
  refine AW.ret ?_
  obtain ⟨rfl, rfl⟩ := res2 H
  exact And.intro rfl (Exists.intro _ (Exists.intro _ ⟨ResV.twoW rfl (.nil _) (.refl _), Sub.at [] rfl, rfl, rfl⟩))
 ·replace H := cnd_f c8 H
  refine AW.skip ?_
  show AW _ _ _ _ _ _
  refine AW.seq ?_
  obtain ⟨g9, H⟩ := grd_s H
  obtain ⟨x10, e11, H⟩ := lt_s H
  obtain ⟨g12, H⟩ := grd_s H
  refine AW.region ?_
  show AR _ _ _ _ _ [0, 1, 2, 3, 4] _
  refine sS rfl rfl rfl (opS_fieldAddr_cp (n := 0) (by kernel_rfl) rfl (Nat.le_of_ble_eq_true rfl)) ?_
  refine sS rfl rfl rfl (opS_load_cp Tryz.underlying9 rfl rfl) ?_
  refine sS rfl rfl rfl (g_cat rfl rfl g9 e11) ?_
  refine sX rfl rfl rfl (g_conv_str_bytes (bytes := 1) Tryz.underlying9 Tryz.underlying26 Tryz.underlying5 rfl g12) ?_
  rintro _ _ ⟨t13, rfl, rfl⟩
  refine sS rfl rfl rfl (opS_assign (av := slE _ _ _) rfl) ?_
  refine AR.nil ?_
  show AW _ _ _ _ _ _
  refine AW.seq ?_
  refine AW.region ?_
  show AR _ _ _ _ _ [0, 1, 2] _
  refine sS rfl rfl rfl (opS_move (av := slE _ _ _) rfl) ?_
  refine sS rfl rfl rfl (opS_len_sl Tryz.underlying26 rfl) ?_
  refine sS rfl rfl rfl (asg rfl) ?_
  refine AR.nil ?_
  show AW _ _ _ _ _ _
  refine AW.seq ?_
  obtain ⟨x14, e15, H⟩ := bnd_s H
  refine AW.region ?_
  show AR _ _ _ _ _ [0, 1, 2, 3] _
  refine sS rfl rfl rfl (opS_fieldAddr_cp (n := 1) (by kernel_rfl) rfl (Nat.le_of_ble_eq_true rfl)) ?_
  refine sS rfl rfl rfl (opS_load_cp Tryz.underlying9 rfl rfl) ?_
  refine AR.run rfl rfl (AO.callp rfl en93_headr rfl (w_ref14_Words F a2 x14 e15) ?_)
  refine sS rfl rfl rfl (opS_assign (av := slE _ _ _) rfl) ?_
  refine AR.nil ?_
  show AW _ _ _ _ _ _
  refine AW.cut (X := (List UInt8) × Nat) (fun (y53, t54) => ⟨[(5, slE Enc.byte y53 (some t54))], [], [.tok t54 5]⟩) (fun (y53, t54) => ref14_Line_j1 y53 = some (r3, r4)) ?_ ?_
  ·
   refine AW.seq ?_
   refine AW.region ?_
   show AR _ _ _ _ _ [0] _
   refine sS rfl rfl rfl (asg rfl) ?_
   refine AR.nil ?_
   show AW _ _ _ _ _ _
   refine AW.block ?_
   refine AW.loop (X := Nat × (List UInt8) × Nat × Int × Int) (fun (n21, y16, t17, y18, y19) => ⟨[(5, slE Enc.byte y16 (some t17)), (6, i64 y18), (7, slE Enc.str x14 none), (8, i64 y19)], [], [.tok t17 5]⟩) (fun (n21, y16, t17, y18, y19) => ref14_Line_L1 x14 n21 (y16, y18, y19) = some (r3, r4)) (fun (n21, y16, t17, y18, y19) => n21) (F, x10, t13, (x10.length : Int), 0) H (WK.at [0] (.cons (.refl _) (.cons (.refl _) (.cons (.refl _) (.cons (.refl _) (.nil _))))) rfl) ?_
   rintro ⟨n21, y16, t17, y18, y19⟩ H
   obtain ⟨n21, rfl, H⟩ := loop_s H
   replace H : ref14_Line_B1 x14 (ref14_Line_L1 x14 n21) y16 y18 y19 = some (r3, r4) := H
   unfold ref14_Line_B1 at H
   show AW _ _ _ _ _ _
   refine AW.seq ?_
   refine AW.seq ?_
   refine AW.region ?_
   show AR _ _ _ _ _ [0, 1, 2, 3] _
   refine sS rfl rfl rfl (mv rfl) ?_
   refine sS rfl rfl rfl (opS_move (av := slE _ _ _) rfl) ?_
   refine sS rfl rfl rfl (opS_len_sl Tryz.underlying22 rfl) ?_
   refine sS rfl rfl rfl (opS_lt rfl rfl) ?_
   refine AR.nil ?_
   show AW _ _ _ _ _ _
   refine AW.cond rfl (fun c22 => ?_) (fun c22 => ?_)
   ·replace H := cnd_t c22 H
    refine AW.skip ?_
    show AW _ _ _ _ _ _
    refine AW.seq ?_
    refine AW.block ?_
    refine AW.cut (X := (List UInt8) × Nat × Int) (fun (y33, t34, y35) => ⟨[(5, slE Enc.byte y33 (some t34)), (6, i64 y35), (7, slE Enc.str x14 none), (8, i64 y19)], [], [.tok t34 5]⟩) (fun (y33, t34, y35) => ref14_Line_j2 x14 y19 (ref14_Line_L1 x14 n21) y33 y35 = some (r3, r4)) ?_ ?_
    ·
     refine AW.seq ?_
     obtain ⟨g23, H⟩ := grd_s H
     obtain ⟨g24, H⟩ := grd_s H
     obtain ⟨x25, e26, H⟩ := lt_s H
     obtain ⟨g27, H⟩ := grd_s H
     refine AW.region ?_
     show AR _ _ _ _ _ [0, 1, 2, 3, 4, 5, 6, 7, 8] _
     refine sS rfl rfl rfl (mv rfl) ?_
     refine sS rfl rfl rfl (g_add rfl rfl g23) ?_
     refine sS rfl rfl rfl (opS_move (av := slE _ _ _) rfl) ?_
     refine sS rfl rfl rfl (mv rfl) ?_
     refine sS rfl rfl rfl (g_indexAddr (E := Enc.str) Tryz.underlying22 (by kernel_rfl) rfl rfl g24 e26) ?_
     refine sS rfl rfl rfl (opS_load_cp Tryz.underlying9 rfl rfl) ?_
     refine sS rfl rfl rfl (opS_len_str Tryz.underlying9 rfl) ?_
     refine sS rfl rfl rfl (g_add rfl rfl g27) ?_
     refine sS rfl rfl rfl (opS_gt rfl rfl) ?_
     refine AR.nil ?_
     show AW _ _ _ _ _ _
     refine AW.cond rfl (fun c28 => ?_) (fun c28 => ?_)
     ·replace H := cnd_t c28 H
      refine AW.seq ?_
      obtain ⟨g30, H⟩ := grd_s H
      obtain ⟨x31, e32, H⟩ := lt_s H
      refine AW.region ?_
      show AR _ _ _ _ _ [0, 1, 2, 3] _
      refine sS rfl rfl rfl (opS_move (av := slE _ _ _) rfl) ?_
      refine sR rfl rfl rfl (opR_buildE (E := Enc.byte) (bytes := 1) (xs := [.const _, .const _]) (l := ([13, 10] : List UInt8)) Tryz.underlying26 (by kernel_rfl) rfl rfl (by decide) rfl rfl) ?_
      refine sX rfl rfl rfl (g_append (E := Enc.byte) (bytes := 1) 0 Tryz.underlying26 Tryz.underlying26 rfl (by kernel_rfl) rfl rfl rfl rfl g30 e32) ?_
      rintro _ _ ⟨t29, rfl, rfl⟩
      refine sS rfl rfl rfl (opS_assign (av := slE _ _ _) rfl) ?_
      refine AR.nil ?_
      show AW _ _ _ _ _ _
      refine AW.region ?_
      show AR _ _ _ _ _ [0] _
      refine sS rfl rfl rfl (asg rfl) ?_
      refine AR.nil ?_
      exact Exists.intro (x31, t29, 0) ⟨H, WK.at [0] (.cons (.refl _) (.cons (.refl _) (.cons (.refl _) (.cons (.refl _) (.nil _))))) rfl⟩
     ·replace H := cnd_f c28 H
      refine AW.skip ?_
      exact Exists.intro (y16, t17, y18) ⟨H, WK.at [0] (.cons (.refl _) (.cons (.refl _) (.cons (.refl _) (.cons (.refl _) (.nil _))))) rfl⟩
    rintro ⟨y33, t34, y35⟩ H
    replace H : ref14_Line_j2 x14 y19 (ref14_Line_L1 x14 n21) y33 y35 = some (r3, r4) := H
    unfold ref14_Line_j2 at H
    show AW _ _ _ _ _ _
    refine AW.seq ?_
    obtain ⟨g37, H⟩ := grd_s H
    obtain ⟨x38, e39, H⟩ := lt_s H
    obtain ⟨g40, H⟩ := grd_s H
    obtain ⟨x41, e42, H⟩ := lt_s H
    obtain ⟨g44, H⟩ := grd_s H
    obtain ⟨x45, e46, H⟩ := lt_s H
    refine AW.region ?_
    show AR _ _ _ _ _ [0, 1, 2, 3, 4, 5, 6, 7] _
    refine sS rfl rfl rfl (opS_move (av := slE _ _ _) rfl) ?_
    refine sS rfl rfl rfl (opS_move (av := slE _ _ _) rfl) ?_
    refine sS rfl rfl rfl (mv rfl) ?_
    refine sS rfl rfl rfl (g_indexAddr (E := Enc.str) Tryz.underlying22 (by kernel_rfl) rfl rfl g37 e39) ?_
    refine sS rfl rfl rfl (opS_load_cp Tryz.underlying9 rfl rfl) ?_
    refine sS rfl rfl rfl (g_cat rfl rfl g40 e42) ?_
    refine sX rfl rfl rfl (g_append_str (bytes := 1) 0 Tryz.underlying26 Tryz.underlying9 rfl (by kernel_rfl) rfl rfl rfl rfl g44 e46) ?_
    rintro _ _ ⟨t43, rfl, rfl⟩
    refine sS rfl rfl rfl (opS_assign (av := slE _ _ _) rfl) ?_
    refine AR.nil ?_
    show AW _ _ _ _ _ _
    obtain ⟨g47, H⟩ := grd_s H
    obtain ⟨g48, H⟩ := grd_s H
    obtain ⟨x49, e50, H⟩ := lt_s H
    obtain ⟨g51, H⟩ := grd_s H
    refine AW.region ?_
    show AR _ _ _ _ _ [0, 1, 2, 3, 4, 5, 6, 7, 8] _
    refine sS rfl rfl rfl (mv rfl) ?_
    refine sS rfl rfl rfl (g_add rfl rfl g47) ?_
    refine sS rfl rfl rfl (opS_move (av := slE _ _ _) rfl) ?_
    refine sS rfl rfl rfl (mv rfl) ?_
    refine sS rfl rfl rfl (g_indexAddr (E := Enc.str) Tryz.underlying22 (by kernel_rfl) rfl rfl g48 e50) ?_
    refine sS rfl rfl rfl (opS_load_cp Tryz.underlying9 rfl rfl) ?_
    refine sS rfl rfl rfl (opS_len_str Tryz.underlying9 rfl) ?_
    refine sS rfl rfl rfl (g_add rfl rfl g51) ?_
    refine sS rfl rfl rfl (asg rfl) ?_
    refine AR.nil ?_
    show AW _ _ _ _ _ _
    obtain ⟨g52, H⟩ := grd_s H
    refine AW.region ?_
    show AR _ _ _ _ _ [0, 1, 2] _
    refine sS rfl rfl rfl (mv rfl) ?_
    refine sS rfl rfl rfl (g_add rfl rfl g52) ?_
    refine sS rfl rfl rfl (asg rfl) ?_
    refine AR.nil ?_
    exact Exists.intro (n21, x45, t43, (y35 + 1) + (x49.length : Int), y19 + 1) ⟨H, Nat.lt_succ_self _, WK.at [0] (.cons (.refl _) (.cons (.refl _) (.cons (.refl _) (.cons (.refl _) (.nil _))))) rfl⟩
   ·replace H := cnd_f c22 H
    refine AW.exit ?_
    exact Exists.intro (y16, t17) ⟨H, WK.at [0] (.cons (.refl _) (.nil _)) rfl⟩
  rintro ⟨y53, t54⟩ H
  replace H : ref14_Line_j1 y53 = some (r3, r4) := H
  unfold ref14_Line_j1 at H
  show AW _ _ _ _ _ _
  refine AW.seq ?_
  obtain ⟨g57, H⟩ := grd_s H
  obtain ⟨x58, e59, H⟩ := lt_s H
  refine AW.region ?_
  show AR _ _ _ _ _ [0, 1, 2, 3, 4] _
  refine sS rfl rfl rfl (opS_move (av := slE _ _ _) rfl) ?_
  refine sR rfl rfl rfl (opR_buildE (E := Enc.byte) (bytes := 1) (xs := [.const _, .const _]) (l := ([13, 10] : List UInt8)) Tryz.underlying26 (by kernel_rfl) rfl rfl (by decide) rfl rfl) ?_
  refine sX rfl rfl rfl (g_append (E := Enc.byte) (bytes := 1) 0 Tryz.underlying26 Tryz.underlying26 rfl (by kernel_rfl) rfl rfl rfl rfl g57 e59) ?_
  rintro _ _ ⟨t56, rfl, rfl⟩
  refine sS rfl rfl rfl (opS_assign (av := slE _ _ _) rfl) ?_
  refine sS rfl rfl rfl (asg rfl) ?_
  refine AR.nil ?_
  show AW _ _ _ _ _ _
  refine AW.ret ?_
  obtain ⟨rfl, rfl⟩ := res2 H
  exact And.intro rfl (Exists.intro _ (Exists.intro _ ⟨ResV.twoW rfl (.tok _ _ _) (.refl _), Sub.at [] rfl, rfl, rfl⟩))
set_option maxRecDepth 100000 in
set_option maxHeartbeats 1000000 in
theorem w_ref14_All (F : Nat) (a1 : List ((List UInt8) × List UInt8)) (q2 : Option Nat) (r3 : List UInt8) (r4 : Int) (H : ref14_All F a1 = some (r3, r4)) : ACalls Tryz.prog 47 [slE (Enc.prod Enc.str Enc.str) a1 q2] [] (Ret (.tup [slE Enc.byte r3 none, i64 r4]) []) := by
 unfold ref14_All at H
 refine ACalls.of_body Tryz.func47 rfl rfl ?_
 show AW _ _ 34 _ _ _
 refine AW.seq ?_
 refine AW.region ?_
 show AR _ _ _ _ _ [0, 1] _
 refine sS rfl rfl rfl (asg rfl) ?_
 refine sS rfl rfl rfl (asg rfl) ?_
 refine AR.nil ?_
 show AW _ _ _ _ _ _
 refine AW.seq ?_
 refine AW.seq ?_
 refine AW.region ?_
 show AR _ _ _ _ _ [0, 1, 2] _
 refine sS rfl rfl rfl (opS_move (av := slE _ _ _) rfl) ?_
 refine sS rfl rfl rfl (opS_len_sl Tryz.underlying72 rfl) ?_
 refine sS rfl rfl rfl (opS_gt rfl rfl) ?_
 refine AR.nil ?_
 show AW _ _ _ _ _ _
 refine AW.cond rfl (fun c5 => ?_) (fun c5 => ?_)
 ·replace H := cnd_t c5 H
  refine AW.seq ?_
  refine AW.region ?_
  show AR _ _ _ _ _ [0, 1] _
  refine sS rfl rfl rfl (asg rfl) ?_
  refine sS rfl rfl rfl (asg rfl) ?_
  refine AR.nil ?_
  show AW _ _ _ _ _ _
  refine AW.ret ?_
  obtain ⟨rfl, rfl⟩ := res2 H
  exact And.intro rfl (Exists.intro _ (Exists.intro _ ⟨ResV.twoW rfl (.nil _) (.refl _), Sub.at [] rfl, rfl, rfl⟩))
 ·replace H := cnd_f c5 H
  refine AW.skip ?_
  show AW _ _ _ _ _ _
  refine AW.seq ?_
  refine AW.region ?_
  show AR _ _ _ _ _ [0] _
  refine sS rfl rfl rfl (asg rfl) ?_
  refine AR.nil ?_
  show AW _ _ _ _ _ _
  refine AW.nil_grows 4 1 5 rfl fun t6 => ?_
  show AW _ _ _ _ _ ⟨(4, slE Enc.byte [] (some t6)) :: _, _, _⟩
  refine AW.cut (X := (List UInt8) × Nat) (fun (y25, t26) => ⟨[(4, slE Enc.byte y25 (some t26))], [], [.tok t26 5]⟩) (fun (y25, t26) => ref14_All_j1 y25 = some (r3, r4)) ?_ ?_
  ·
   refine AW.seq ?_
   refine AW.region ?_
   show AR _ _ _ _ _ [0] _
   refine sS rfl rfl rfl (asg rfl) ?_
   refine AR.nil ?_
   show AW _ _ _ _ _ _
   refine AW.block ?_
   refine AW.loop (X := Nat × (List UInt8) × Nat × Int) (fun (n11, y7, t8, y9) => ⟨[(0, slE (Enc.prod Enc.str Enc.str) a1 q2), (4, slE Enc.byte y7 (some t8)), (5, i64 y9)], [], [.tok t8 5]⟩) (fun (n11, y7, t8, y9) => ref14_All_L1 F a1 n11 (y7, y9) = some (r3, r4)) (fun (n11, y7, t8, y9) => n11) (F, [], t6, 0) H (WK.at [0] (.cons (.refl _) (.cons (.refl _) (.cons (.refl _) (.nil _)))) rfl) ?_
   rintro ⟨n11, y7, t8, y9⟩ H
   obtain ⟨n11, rfl, H⟩ := loop_s H
   replace H : ref14_All_B1 F a1 (ref14_All_L1 F a1 n11) y7 y9 = some (r3, r4) := H
   unfold ref14_All_B1 at H
   show AW _ _ _ _ _ _
   refine AW.seq ?_
   refine AW.seq ?_
   refine AW.region ?_
   show AR _ _ _ _ _ [0, 1, 2, 3] _
   refine sS rfl rfl rfl (mv rfl) ?_
   refine sS rfl rfl rfl (opS_move (av := slE _ _ _) rfl) ?_
   refine sS rfl rfl rfl (opS_len_sl Tryz.underlying72 rfl) ?_
   refine sS rfl rfl rfl (opS_lt rfl rfl) ?_
   refine AR.nil ?_
   show AW _ _ _ _ _ _
   refine AW.cond rfl (fun c12 => ?_) (fun c12 => ?_)
   ·replace H := cnd_t c12 H
    refine AW.skip ?_
    show AW _ _ _ _ _ _
    refine AW.seq ?_
    refine AW.block ?_
    refine AW.seq ?_
    obtain ⟨g13, H⟩ := grd_s H
    obtain ⟨x14, e15, H⟩ := lt_s H
    obtain ⟨x16, x17, e18, H⟩ := bnd2_s H
    refine AW.region ?_
    show AR _ _ _ _ _ [0, 1, 2, 3, 4, 5, 6, 7, 8, 9] _
    refine sS rfl rfl rfl (opS_move (av := slE _ _ _) rfl) ?_
    refine sS rfl rfl rfl (mv rfl) ?_
    refine sS rfl rfl rfl (g_indexAddr (E := (Enc.prod Enc.str Enc.str)) Tryz.underlying72 (by kernel_rfl) rfl rfl g13 e15) ?_
    refine sS rfl rfl rfl (opS_load_cp_agg Tryz.underlying71 rfl (n := 2) (by kernel_rfl) rfl (Nat.le_of_ble_eq_true rfl)) ?_
    refine AR.run rfl rfl (AO.callp rfl en71_headr rfl (w_ref14_Line F x14.1 x14.2 x16 x17 e18) ?_)
    refine sS rfl rfl rfl (opS_move (av := .tup _) rfl) ?_
    refine sS rfl rfl rfl (opS_extract (av := slE _ _ _) rfl rfl) ?_
    refine sS rfl rfl rfl (opS_extract (av := .v _) rfl rfl) ?_
    refine sS rfl rfl rfl (opS_assign (av := slE _ _ _) rfl) ?_
    refine sS rfl rfl rfl (asg rfl) ?_
    refine AR.nil ?_
    show AW _ _ _ _ _ _
    refine AW.seq ?_
    refine AW.seq ?_
    refine AW.region ?_
    show AR _ _ _ _ _ [0, 1] _
    refine sS rfl rfl rfl (mv rfl) ?_
    refine sS rfl rfl rfl (opS_nei rfl rfl) ?_
    refine AR.nil ?_
    show AW _ _ _ _ _ _
    refine AW.cond rfl (fun c19 => ?_) (fun c19 => ?_)
    ·replace H := cnd_t c19 H
     refine AW.seq ?_
     refine AW.region ?_
     show AR _ _ _ _ _ [0, 1, 2] _
     refine sS rfl rfl rfl (mv rfl) ?_
     refine sS rfl rfl rfl (asg rfl) ?_
     refine sS rfl rfl rfl (asg rfl) ?_
     refine AR.nil ?_
     show AW _ _ _ _ _ _
     refine AW.ret ?_
     obtain ⟨rfl, rfl⟩ := res2 H
     exact And.intro rfl (Exists.intro _ (Exists.intro _ ⟨ResV.twoW rfl (.nil _) (.refl _), Sub.at [] rfl, rfl, rfl⟩))
    ·replace H := cnd_f c19 H
     refine AW.skip ?_
     show AW _ _ _ _ _ _
     obtain ⟨g21, H⟩ := grd_s H
     obtain ⟨x22, e23, H⟩ := lt_s H
     refine AW.region ?_
     show AR _ _ _ _ _ [0, 1, 2, 3] _
     refine sS rfl rfl rfl (opS_move (av := slE _ _ _) rfl) ?_
     refine sS rfl rfl rfl (opS_move (av := slE _ _ _) rfl) ?_
     refine sX rfl rfl rfl (g_append (E := Enc.byte) (bytes := 1) 0 Tryz.underlying26 Tryz.underlying26 rfl (by kernel_rfl) rfl rfl rfl rfl g21 e23) ?_
     rintro _ _ ⟨t20, rfl, rfl⟩
     refine sS rfl rfl rfl (opS_assign (av := slE _ _ _) rfl) ?_
     refine AR.nil ?_
     show AW _ _ _ _ _ _
     obtain ⟨g24, H⟩ := grd_s H
     refine AW.region ?_
     show AR _ _ _ _ _ [0, 1, 2] _
     refine sS rfl rfl rfl (mv rfl) ?_
     refine sS rfl rfl rfl (g_add rfl rfl g24) ?_
     refine sS rfl rfl rfl (asg rfl) ?_
     refine AR.nil ?_
     exact Exists.intro (n11, x22, t20, y9 + 1) ⟨H, Nat.lt_succ_self _, WK.at [0] (.cons (.refl _) (.cons (.refl _) (.cons (.refl _) (.nil _)))) rfl⟩
   ·replace H := cnd_f c12 H
    refine AW.exit ?_
    exact Exists.intro (y7, t8) ⟨H, WK.at [0] (.cons (.refl _) (.nil _)) rfl⟩
  rintro ⟨y25, t26⟩ H
  replace H : ref14_All_j1 y25 = some (r3, r4) := H
  unfold ref14_All_j1 at H
  show AW _ _ _ _ _ _
  refine AW.seq ?_
  obtain ⟨g29, H⟩ := grd_s H
  obtain ⟨x30, e31, H⟩ := lt_s H
  refine AW.region ?_
  show AR _ _ _ _ _ [0, 1, 2, 3, 4] _
  refine sS rfl rfl rfl (opS_move (av := slE _ _ _) rfl) ?_
  refine sR rfl rfl rfl (opR_buildE (E := Enc.byte) (bytes := 1) (xs := [.const _, .const _]) (l := ([13, 10] : List UInt8)) Tryz.underlying26 (by kernel_rfl) rfl rfl (by decide) rfl rfl) ?_
  refine sX rfl rfl rfl (g_append (E := Enc.byte) (bytes := 1) 0 Tryz.underlying26 Tryz.underlying26 rfl (by kernel_rfl) rfl rfl rfl rfl g29 e31) ?_
  rintro _ _ ⟨t28, rfl, rfl⟩
  refine sS rfl rfl rfl (opS_assign (av := slE _ _ _) rfl) ?_
  refine sS rfl rfl rfl (asg rfl) ?_
  refine AR.nil ?_
  show AW _ _ _ _ _ _
  refine AW.ret ?_
  obtain ⟨rfl, rfl⟩ := res2 H
  exact And.intro rfl (Exists.intro _ (Exists.intro _ ⟨ResV.twoW rfl (.tok _ _ _) (.refl _), Sub.at [] rfl, rfl, rfl⟩))
end Go.Proofs.YtdaafnaokdigbaaGreatDoor
namespace Go.Pv
def partr_k1 : List UInt8 := [67, 111, 110, 116, 101, 110, 116, 45, 84, 114, 97, 110, 115, 102, 101, 114, 45, 69, 110, 99, 111, 100, 105, 110, 103]
def ref03_Number_j1 (y25 : List UInt8) : Option ((List UInt8)) :=
some y25
def ref03_Number_B1 (rec12 : (Int × (List UInt8)) → Option ((List UInt8))) (y10 : Int) (y11 : List UInt8) : Option ((List UInt8)) :=
bif decide (0 < y10) then
  grd (okDiv y10 10) <|
  grd (okDiv y10 10) <|
  grd (okI ((y10 % 10) + 1)) <|
  grd (okSub (y10 % 10) ((y10 % 10) + 1) ([48, 49, 50, 51, 52, 53, 54, 55, 56, 57] : List UInt8).length) <|
  lt (sub ([48, 49, 50, 51, 52, 53, 54, 55, 56, 57] : List UInt8) (y10 % 10) ((y10 % 10) + 1)) fun x19 =>
  grd (okCat (x19.length + y11.length)) <|
  lt (x19 ++ y11) fun x22 =>
  grd (okDiv y10 10) <|
  rec12 (y10 / 10, x22)
else
  ref03_Number_j1 y11
def ref03_Number_L1 (n : Nat) : (Int × (List UInt8)) → Option ((List UInt8)) :=
  loop (fun rec x => ref03_Number_B1 rec x.1 x.2) n
def ref03_Number (F : Nat) (a1 : Int) : Option ((List UInt8)) :=
grd (okDiv a1 10) <|
grd (okDiv a1 10) <|
grd (okI ((a1 % 10) + 1)) <|
grd (okSub (a1 % 10) ((a1 % 10) + 1) ([48, 49, 50, 51, 52, 53, 54, 55, 56, 57] : List UInt8).length) <|
lt (sub ([48, 49, 50, 51, 52, 53, 54, 55, 56, 57] : List UInt8) (a1 % 10) ((a1 % 10) + 1)) fun x7 =>
grd (okDiv a1 10) <|
ref03_Number_L1 F (a1 / 10, x7)
def ref12_Hex (F : Nat) (a1 : UInt8) : Option ((List UInt8)) :=
grd (okDiv (a1.toNat : Int) 16) <|
grd (okDiv (a1.toNat : Int) 16) <|
grd (okI (((a1.toNat : Int) / 16) + 1)) <|
grd (okSub ((a1.toNat : Int) / 16) (((a1.toNat : Int) / 16) + 1) ([48, 49, 50, 51, 52, 53, 54, 55, 56, 57, 65, 66, 67, 68, 69, 70] : List UInt8).length) <|
lt (sub ([48, 49, 50, 51, 52, 53, 54, 55, 56, 57, 65, 66, 67, 68, 69, 70] : List UInt8) ((a1.toNat : Int) / 16) (((a1.toNat : Int) / 16) + 1)) fun x7 =>
grd (okDiv (a1.toNat : Int) 16) <|
grd (okDiv (a1.toNat : Int) 16) <|
grd (okI (((a1.toNat : Int) % 16) + 1)) <|
grd (okSub ((a1.toNat : Int) % 16) (((a1.toNat : Int) % 16) + 1) ([48, 49, 50, 51, 52, 53, 54, 55, 56, 57, 65, 66, 67, 68, 69, 70] : List UInt8).length) <|
lt (sub ([48, 49, 50, 51, 52, 53, 54, 55, 56, 57, 65, 66, 67, 68, 69, 70] : List UInt8) ((a1.toNat : Int) % 16) (((a1.toNat : Int) % 16) + 1)) fun x13 =>
grd (okCat (x7.length + x13.length)) <|
lt (x7 ++ x13) fun x16 =>
some x16
def ref12_plain (F : Nat) (a1 : List UInt8) (a3 : Int) : Option Bool :=
grd (okAt a3 a1.length) <|
lt (at_ a1 a3) fun x6 =>
bif (decide (x6 = 32)) || (decide (x6 = 9)) then
  grd (okI (a3 + 1)) <|
  grdc (decide (a3 + 1 < (a1.length : Int))) (okI (a3 + 1)) <|
  grdc (decide (a3 + 1 < (a1.length : Int))) (okAt (a3 + 1) a1.length) <|
  lt (at_ a1 (a3 + 1)) fun x14 =>
  some ((decide (a3 + 1 < (a1.length : Int))) && (!decide (x14 = 10)))
else
  some (((decide (33 ≤ (x6.toNat : Int))) && (decide ((x6.toNat : Int) ≤ 126))) && (!decide (x6 = 61)))
def ref12_Encode_j1 (y57 : List UInt8) : Option ((List UInt8)) :=
some y57
def ref12_Encode_j2 (y8 : Int) (rec9 : ((List UInt8) × Int × Int) → Option ((List UInt8))) (y52 : List UInt8) (y54 : Int) : Option ((List UInt8)) :=
grd (okI (y8 + 1)) <|
rec9 (y52, y54, y8 + 1)
def ref12_Encode_j3 (y8 : Int) (y35 : List UInt8) (rec9 : ((List UInt8) × Int × Int) → Option ((List UInt8))) (y43 : List UInt8) (y45 : Int) : Option ((List UInt8)) :=
grd (okCat (y43.length + y35.length)) <|
lt (y43 ++ y35) fun x49 =>
grd (okI (y45 + (y35.length : Int))) <|
ref12_Encode_j2 y8 rec9 x49 (y45 + (y35.length : Int))
def ref12_Encode_j4 (y5 : List UInt8) (y7 : Int) (y8 : Int) (rec9 : ((List UInt8) × Int × Int) → Option ((List UInt8))) (y35 : List UInt8) : Option ((List UInt8)) :=
grd (okI (y7 + (y35.length : Int))) <|
bif decide (75 < y7 + (y35.length : Int)) then
  grd (okCat (y5.length + ([61, 13, 10] : List UInt8).length)) <|
  lt (y5 ++ ([61, 13, 10] : List UInt8)) fun x41 =>
  ref12_Encode_j3 y8 y35 rec9 x41 0
else
  ref12_Encode_j3 y8 y35 rec9 y5 y7
def ref12_Encode_B1 (F : Nat) (a1 : List UInt8) (rec9 : ((List UInt8) × Int × Int) → Option ((List UInt8))) (y5 : List UInt8) (y7 : Int) (y8 : Int) : Option ((List UInt8)) :=
bif decide (y8 < (a1.length : Int)) then
  grd (okAt y8 a1.length) <|
  lt (at_ a1 y8) fun x13 =>
  bif decide (x13 = 10) then
    grd (okCat (y5.length + ([13, 10] : List UInt8).length)) <|
    lt (y5 ++ ([13, 10] : List UInt8)) fun x18 =>
    ref12_Encode_j2 y8 rec9 x18 0
  else
    grd (okAt y8 a1.length) <|
    lt (at_ a1 y8) fun x21 =>
    bnd (ref12_Hex F x21) fun x23 =>
    grd (okCat (([61] : List UInt8).length + x23.length)) <|
    lt (([61] : List UInt8) ++ x23) fun x26 =>
    bnd (ref12_plain F a1 y8) fun x28 =>
    bif x28 then
      grd (okI (y8 + 1)) <|
      grd (okSub y8 (y8 + 1) a1.length) <|
      lt (sub a1 y8 (y8 + 1)) fun x33 =>
      ref12_Encode_j4 y5 y7 y8 rec9 x33
    else
      ref12_Encode_j4 y5 y7 y8 rec9 x26
else
  ref12_Encode_j1 y5
def ref12_Encode_L1 (F : Nat) (a1 : List UInt8) (n : Nat) : ((List UInt8) × Int × Int) → Option ((List UInt8)) :=
  loop (fun rec x => ref12_Encode_B1 F a1 rec x.1 x.2.1 x.2.2) n
def ref12_Encode (F : Nat) (a1 : List UInt8) : Option ((List UInt8)) :=
ref12_Encode_L1 F a1 F ([], 0, 0)
def ref15_at_j1 : Option Int :=
some (-1)
def ref15_at_B1 (a1 : List UInt8) (a2 : List UInt8) (rec6 : Int → Option Int) (y5 : Int) : Option Int :=
grd (okI (y5 + (a2.length : Int))) <|
bif decide (y5 + (a2.length : Int) ≤ (a1.length : Int)) then
  grd (okI (y5 + (a2.length : Int))) <|
  grd (okSub y5 (y5 + (a2.length : Int)) a1.length) <|
  lt (sub a1 y5 (y5 + (a2.length : Int))) fun x12 =>
  bif decide (x12 = a2) then
    some y5
  else
    grd (okI (y5 + 1)) <|
    rec6 (y5 + 1)
else
  ref15_at_j1
def ref15_at_L1 (a1 : List UInt8) (a2 : List UInt8) (n : Nat) : Int → Option Int :=
  loop (fun rec x => ref15_at_B1 a1 a2 rec x) n
def ref15_at (F : Nat) (a1 : List UInt8) (a2 : List UInt8) (a3 : Int) : Option Int :=
ref15_at_L1 a1 a2 F a3
def ref15_Boundary_j1 (y4 : Int) (rec5 : Int → Option ((List UInt8))) : Option ((List UInt8)) :=
grd (okI (y4 + 1)) <|
rec5 (y4 + 1)
def ref15_Boundary_j2 (y4 : Int) (rec5 : Int → Option ((List UInt8))) (x10 : List UInt8) (y24 : Bool) : Option ((List UInt8)) :=
bif !y24 then
  some x10
else
  ref15_Boundary_j1 y4 rec5
def ref15_Boundary_B1 (F : Nat) (a1 : List (List UInt8)) (y4 : Int) (rec5 : Int → Option ((List UInt8))) (x10 : List UInt8) (rec14 : (Bool × Int) → Option ((List UInt8))) (y12 : Bool) (y13 : Int) : Option ((List UInt8)) :=
bif decide (y13 < (a1.length : Int)) then
  grdc (!y12) (okAt y13 a1.length) <|
  lt (at_ a1 y13) fun x19 =>
  bndc (!y12) (ref15_at F x19 x10 0) fun x21 =>
  grd (okI (y13 + 1)) <|
  rec14 (y12 || (decide (0 ≤ x21)), y13 + 1)
else
  ref15_Boundary_j2 y4 rec5 x10 y12
def ref15_Boundary_L1 (F : Nat) (a1 : List (List UInt8)) (y4 : Int) (rec5 : Int → Option ((List UInt8))) (x10 : List UInt8) (n : Nat) : (Bool × Int) → Option ((List UInt8)) :=
  loop (fun rec x => ref15_Boundary_B1 F a1 y4 rec5 x10 rec x.1 x.2) n
def ref15_Boundary_B2 (F : Nat) (a1 : List (List UInt8)) (rec5 : Int → Option ((List UInt8))) (y4 : Int) : Option ((List UInt8)) :=
bnd (ref03_Number F y4) fun x7 =>
grd (okCat (([61, 95] : List UInt8).length + x7.length)) <|
lt (([61, 95] : List UInt8) ++ x7) fun x10 =>
ref15_Boundary_L1 F a1 y4 rec5 x10 F (false, 0)
def ref15_Boundary_L2 (F : Nat) (a1 : List (List UInt8)) (n : Nat) : Int → Option ((List UInt8)) :=
  loop (fun rec x => ref15_Boundary_B2 F a1 rec x) n
def ref15_Boundary (F : Nat) (a1 : List (List UInt8)) : Option ((List UInt8)) :=
ref15_Boundary_L2 F a1 F 0
def ref15_Kind_j1 (a1 : List UInt8) : Option Bool :=
some ((decide (1 ≤ (a1.length : Int))) && (decide ((a1.length : Int) ≤ 60)))
def ref15_Kind_B1 (a1 : List UInt8) (rec4 : Int → Option Bool) (y3 : Int) : Option Bool :=
bif decide (y3 < (a1.length : Int)) then
  grd (okAt y3 a1.length) <|
  lt (at_ a1 y3) fun x8 =>
  grdc ((decide (x8 = 32)) && (decide (0 < y3))) (okI ((a1.length : Int) - 1)) <|
  grdc (((decide (x8 = 32)) && (decide (0 < y3))) && (decide (y3 < (a1.length : Int) - 1))) (okI (y3 - 1)) <|
  grdc (((decide (x8 = 32)) && (decide (0 < y3))) && (decide (y3 < (a1.length : Int) - 1))) (okAt (y3 - 1) a1.length) <|
  lt (at_ a1 (y3 - 1)) fun x23 =>
  bif (!(((((((decide (97 ≤ (x8.toNat : Int))) && (decide ((x8.toNat : Int) ≤ 122))) || ((decide (48 ≤ (x8.toNat : Int))) && (decide ((x8.toNat : Int) ≤ 57)))) || (decide (x8 = 47))) || (decide (x8 = 45))) || (decide (x8 = 61))) || (decide (x8 = 59)))) && (!((((decide (x8 = 32)) && (decide (0 < y3))) && (decide (y3 < (a1.length : Int) - 1))) && (!decide (x23 = 32)))) then
    some false
  else
    grd (okI (y3 + 1)) <|
    rec4 (y3 + 1)
else
  ref15_Kind_j1 a1
def ref15_Kind_L1 (a1 : List UInt8) (n : Nat) : Int → Option Bool :=
  loop (fun rec x => ref15_Kind_B1 a1 rec x) n
def ref15_Kind (F : Nat) (a1 : List UInt8) : Option Bool :=
ref15_Kind_L1 a1 F 0
def ref15_headers (F : Nat) (a1 : List UInt8) : Option ((List UInt8)) :=
bnd2 (ref14_All F ([(([67, 111, 110, 116, 101, 110, 116, 45, 84, 121, 112, 101] : List UInt8), a1), (partr_k1, ([113, 117, 111, 116, 101, 100, 45, 112, 114, 105, 110, 116, 97, 98, 108, 101] : List UInt8))] : List ((List UInt8) × List UInt8))) fun x3 x4 =>
some x3
def ref15_Join_j1 (x37 : List UInt8) (y77 : List UInt8) : Option ((List UInt8) × (List UInt8) × Int) :=
grd (okCat (([45, 45] : List UInt8).length + x37.length)) <|
lt (([45, 45] : List UInt8) ++ x37) fun x81 =>
grd (okCat (x81.length + ([45, 45, 13, 10] : List UInt8).length)) <|
lt (x81 ++ ([45, 45, 13, 10] : List UInt8)) fun x84 =>
grd (okCat (y77.length + x84.length)) <|
lt (y77 ++ x84) fun x88 =>
some (x88, x37, 0)
def ref15_Join_B1 (F : Nat) (a1 : List (List UInt8)) (a3 : List (List UInt8)) (y34 : List (List UInt8)) (x37 : List UInt8) (rec43 : ((List UInt8) × Int) → Option ((List UInt8) × (List UInt8) × Int)) (y40 : List UInt8) (y42 : Int) : Option ((List UInt8) × (List UInt8) × Int) :=
bif decide (y42 < (a3.length : Int)) then
  grd (okCat (([45, 45] : List UInt8).length + x37.length)) <|
  lt (([45, 45] : List UInt8) ++ x37) fun x47 =>
  grd (okCat (x47.length + ([13, 10] : List UInt8).length)) <|
  lt (x47 ++ ([13, 10] : List UInt8)) fun x50 =>
  grd (okCat (y40.length + x50.length)) <|
  lt (y40 ++ x50) fun x54 =>
  grd (okAt y42 a1.length) <|
  lt (at_ a1 y42) fun x57 =>
  bnd (ref15_headers F x57) fun x59 =>
  grd (okCat (x54.length + x59.length)) <|
  lt (x54 ++ x59) fun x63 =>
  grd (okAt y42 y34.length) <|
  lt (at_ y34 y42) fun x66 =>
  grd (okCat (x63.length + x66.length)) <|
  lt (x63 ++ x66) fun x70 =>
  grd (okCat (x70.length + ([13, 10] : List UInt8).length)) <|
  lt (x70 ++ ([13, 10] : List UInt8)) fun x74 =>
  grd (okI (y42 + 1)) <|
  rec43 (x74, y42 + 1)
else
  ref15_Join_j1 x37 y40
def ref15_Join_L1 (F : Nat) (a1 : List (List UInt8)) (a3 : List (List UInt8)) (y34 : List (List UInt8)) (x37 : List UInt8) (n : Nat) : ((List UInt8) × Int) → Option ((List UInt8) × (List UInt8) × Int) :=
  loop (fun rec x => ref15_Join_B1 F a1 a3 y34 x37 rec x.1 x.2) n
def ref15_Join_j2 (F : Nat) (a1 : List (List UInt8)) (a3 : List (List UInt8)) (y34 : List (List UInt8)) : Option ((List UInt8) × (List UInt8) × Int) :=
bnd (ref15_Boundary F y34) fun x37 =>
ref15_Join_L1 F a1 a3 y34 x37 F ([], 0)
def ref15_Join_B2 (F : Nat) (a1 : List (List UInt8)) (a3 : List (List UInt8)) (rec15 : ((List (List UInt8)) × Int) → Option ((List UInt8) × (List UInt8) × Int)) (y12 : List (List UInt8)) (y14 : Int) : Option ((List UInt8) × (List UInt8) × Int) :=
bif decide (y14 < (a3.length : Int)) then
  grd (okAt y14 a1.length) <|
  lt (at_ a1 y14) fun x19 =>
  bnd (ref15_Kind F x19) fun x21 =>
  bif !x21 then
    some ([], ([] : List UInt8), 1)
  else
    grd (okAt y14 a3.length) <|
    lt (at_ a3 y14) fun x25 =>
    bnd (ref12_Encode F x25) fun x27 =>
    grd (okCat (y12.length + ([x27] : List (List UInt8)).length)) <|
    lt (y12 ++ ([x27] : List (List UInt8))) fun x31 =>
    grd (okI (y14 + 1)) <|
    rec15 (x31, y14 + 1)
else
  ref15_Join_j2 F a1 a3 y12
def ref15_Join_L2 (F : Nat) (a1 : List (List UInt8)) (a3 : List (List UInt8)) (n : Nat) : ((List (List UInt8)) × Int) → Option ((List UInt8) × (List UInt8) × Int) :=
  loop (fun rec x => ref15_Join_B2 F a1 a3 rec x.1 x.2) n
def ref15_Join (F : Nat) (a1 : List (List UInt8)) (a3 : List (List UInt8)) : Option ((List UInt8) × (List UInt8) × Int) :=
bif ((!decide ((a1.length : Int) = (a3.length : Int))) || (decide ((a3.length : Int) < 1))) || (decide (8 < (a3.length : Int))) then
  some ([], ([] : List UInt8), 1)
else
  ref15_Join_L2 F a1 a3 F ([], 0)
end Go.Pv
