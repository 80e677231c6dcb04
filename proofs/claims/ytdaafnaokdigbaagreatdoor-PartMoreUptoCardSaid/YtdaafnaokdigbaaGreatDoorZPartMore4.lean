/-
  Texts in one (only what PartMore needs): PartLW, HeadRP, HeadRW, PartRP, PartRW, LPartMoreP, LPartMoreW, HdSp, HdA, HdD, HdR, HdW, HdL, HdF, HdV, QpPure, QpMore, PxQ, HdB, HdK, HdC, PxB, PxK, HdA2, PxJ, LPartSafeP, PxSafe, LPartJoinsP, PxJR, PxMo, AvOpen, AvOpenN.
-/
import Derived.Test.YtdaafnaokdigbaaGreatDoorZPartMore3
import Derived.Test.YtdaafnaokdigbaaGreatDoorShelf
import Derived.Test.YtdaafnaokdigbaaGreatDoorChecked
import Derived.Lib.SplitLaws
import Derived.Lib.IndexMore
import Derived.Lib.TrimByte
import Derived.Laws.RangeString
import Derived.Laws.RangeAny
import Derived.Lib.ItoaNum
import Derived.RowKit
import Derived.OpenShut
import Derived.ChangeSlices
import Derived.SliceStrings
import Derived.Test.YtdaafnaokdigbaaGreatDoorRows
set_option linter.unusedVariables false
set_option linter.unusedSimpArgs false
namespace Go.Proofs.YtdaafnaokdigbaaGreatDoor
open Go.RowKit Go.Av Go.Pv
theorem qh : ∀ (args : Array Value) (w : World), (callFunc 10 args).run Tryz.prog w = .ok (.enter 10 args) w := fun _ _ => by kernel_rfl
theorem qf : ∀ (args : Array Value) (w : World), (callFunc 12 args).run Tryz.prog w = .ok (.enter 12 args) w := fun _ _ => by kernel_rfl
theorem qe : ∀ (args : Array Value) (w : World), (callFunc 14 args).run Tryz.prog w = .ok (.enter 14 args) w := fun _ _ => by kernel_rfl
set_option maxRecDepth 100000 in
set_option maxHeartbeats 1000000 in
theorem me (F : Nat) (r1 : Bool) (H : fJ F = some r1) : ACalls Tryz.prog 8 [] [] (Ret (B r1) []) := by
 unfold fJ at H
 refine ax Tryz.func8 rfl rfl ?_;show AW _ _ 58 _ _ _;refine ah <| ab ?_;show AR _ _ _ _ _ [0] _;refine za rfl <| ai <| ah ?_;obtain ⟨x3, x4, x5, e6, H⟩ := iR H;refine ab ?_;show AR _ _ _ _ _ [0, 1, 2, 3, 4, 5, 6, 7, 8, 9, 10, 11] _;refine zR rfl (bm (E := Enc.str) (bytes := 16) (xs := [.const _]) (l := ([([116, 101, 120, 116, 47, 112, 108, 97, 105, 110] : List UInt8)] : List (List UInt8))) ar (by kernel_rfl) rfl rfl (by decide) rfl rfl) <| zX rfl (gg (E := Enc.byte) (bytes := 1) (xs := [.const _]) (l := ([97] : List UInt8)) aa (by kernel_rfl) rfl rfl (by decide) rfl rfl) ?_;rintro _ _ ⟨t2, rfl, rfl⟩;refine zR rfl (ej 0 aa aB rfl (by simp) rfl) <| zR rfl (kB 10 (.tok _ _ _) <| bm (E := (Enc.sl Enc.byte)) (bytes := 24) (xs := [.tmp 10]) (l := ([([97] : List UInt8)] : List (List UInt8))) aq (by kernel_rfl) rfl rfl (by decide) rfl rfl) <| am rfl rfl (aN rfl qh rfl (gx F ([([116, 101, 120, 116, 47, 112, 108, 97, 105, 110] : List UInt8)] : List (List UInt8)) none ([([97] : List UInt8)] : List (List UInt8)) none x3 x4 x5 e6) ?_);refine zS rfl (ac (av := .tup _) rfl) <| zS rfl (aE (av := slE _ _ _) rfl rfl) <| zS rfl (aE (av := .v _) rfl rfl) <| zS rfl (aE (av := .v _) rfl rfl) <| zS rfl (ao (av := slE _ _ _) rfl) <| za rfl <| za rfl <| ai <| ah ?_;obtain ⟨x7, x8, x9, e10, H⟩ := iR H;refine ab ?_
 show AR _ _ _ _ _ [0, 1, 2, 3, 4, 5, 6, 7, 8] _;refine zS rfl (ac (av := slE _ _ _) rfl) <| am rfl rfl (aN rfl qe rfl (mS F x3 none ([61, 95, 48] : List UInt8) x7 x8 x9 e10) ?_);refine zS rfl (ac (av := .tup _) rfl) <| zS rfl (aE (av := slE _ _ _) rfl rfl) <| zS rfl (aE (av := slE _ _ _) rfl rfl) <| zS rfl (aE (av := .v _) rfl rfl) <| zS rfl (ao (av := slE _ _ _) rfl) <| zS rfl (ao (av := slE _ _ _) rfl) <| za rfl <| ai <| ah ?_;obtain ⟨g17, H⟩ := eA H;obtain ⟨x18, e19, H⟩ := bi H;obtain ⟨x21, e22, H⟩ := nE H;refine ab ?_;show AR _ _ _ _ _ [0, 1, 2, 3, 4, 5, 6, 7, 8, 9, 10, 11, 12, 13, 14, 15, 16, 17, 18, 19, 20, 21, 22, 23, 24, 25, 26, 27, 28, 29, 30, 31, 32, 33, 34, 35, 36] _;refine zm rfl <| zS rfl (dv rfl rfl) <| zm rfl <| aZ (l := [6, 7, 8, 9, 10, 11, 12, 13, 14, 15, 16, 17, 18, 19, 20, 21, 22, 23, 24, 25, 26, 27, 28, 29, 30, 31, 32, 33, 34, 35, 36]) 27 (B ((decide (x5 = 0)) && (decide (x9 = 0)))) (fun K => ?_) ?_
 ·rcases aj (decide (x5 = 0)) with h11 | h11
  ·refine zM h11 rfl <| zU h11 rfl (dv rfl rfl) <| zS rfl (aC (av := .v _) rfl h11 rfl) ?_;exact K _ 2 _ (ay (cH h11)) rfl rfl
  ·refine zF h11 rfl <| zF h11 rfl <| zS rfl (aD (av := .v _) rfl h11 rfl) ?_;exact K _ 2 _ (ay (cI h11)) rfl rfl
 refine zm rfl <| aZ (l := [10, 11, 12, 13, 14, 15, 16, 17, 18, 19, 20, 21, 22, 23, 24, 25, 26, 27, 28, 29, 30, 31, 32, 33, 34, 35, 36]) 31 (B (((decide (x5 = 0)) && (decide (x9 = 0))) && (decide (x4 = ([61, 95, 48] : List UInt8))))) (fun K => ?_) ?_
 ·rcases aj ((decide (x5 = 0)) && (decide (x9 = 0))) with h12 | h12
  ·refine zM h12 rfl <| zU h12 rfl (iO rfl rfl) <| zS rfl (aC (av := .v _) rfl h12 rfl) ?_;exact K _ 2 _ (ay (cH h12)) rfl rfl
  ·refine zF h12 rfl <| zF h12 rfl <| zS rfl (aD (av := .v _) rfl h12 rfl) ?_;exact K _ 2 _ (ay (cI h12)) rfl rfl
 refine zm rfl <| aZ (l := [15, 16, 17, 18, 19, 20, 21, 22, 23, 24, 25, 26, 27, 28, 29, 30, 31, 32, 33, 34, 35, 36]) 36 (B ((((decide (x5 = 0)) && (decide (x9 = 0))) && (decide (x4 = ([61, 95, 48] : List UInt8)))) && (decide (x3 = dy)))) (fun K => ?_) ?_
 ·rcases aj (((decide (x5 = 0)) && (decide (x9 = 0))) && (decide (x4 = ([61, 95, 48] : List UInt8)))) with h13 | h13
  ·refine zU h13 rfl (ac (av := slE _ _ _) rfl) <| zU h13 rfl (bD aa aB af rfl) <| zU h13 rfl (iO rfl rfl) <| zS rfl (aC (av := .v _) rfl h13 rfl) ?_;exact K _ 3 _ (ay (cH h13)) rfl rfl
  ·refine zF h13 rfl <| zF h13 rfl <| zF h13 rfl <| zS rfl (aD (av := .v _) rfl h13 rfl) ?_;exact K _ 3 _ (ay (cI h13)) rfl rfl
 refine zm rfl <| aZ (l := [20, 21, 22, 23, 24, 25, 26, 27, 28, 29, 30, 31, 32, 33, 34, 35, 36]) 41 (B (((((decide (x5 = 0)) && (decide (x9 = 0))) && (decide (x4 = ([61, 95, 48] : List UInt8)))) && (decide (x3 = dy))) && (decide ((x7.length : Int) = 1)))) (fun K => ?_) ?_
 ·rcases aj ((((decide (x5 = 0)) && (decide (x9 = 0))) && (decide (x4 = ([61, 95, 48] : List UInt8)))) && (decide (x3 = dy))) with h14 | h14
  ·refine zU h14 rfl (ac (av := slE _ _ _) rfl) <| zU h14 rfl (aG ar rfl) <| zU h14 rfl (dv rfl rfl) <| zS rfl (aC (av := .v _) rfl h14 rfl) ?_;exact K _ 3 _ (ay (cH h14)) rfl rfl
  ·refine zF h14 rfl <| zF h14 rfl <| zF h14 rfl <| zS rfl (aD (av := .v _) rfl h14 rfl) ?_;exact K _ 3 _ (ay (cI h14)) rfl rfl
 refine zm rfl <| aZ (l := [25, 26, 27, 28, 29, 30, 31, 32, 33, 34, 35, 36]) 46 (B ((((((decide (x5 = 0)) && (decide (x9 = 0))) && (decide (x4 = ([61, 95, 48] : List UInt8)))) && (decide (x3 = dy))) && (decide ((x7.length : Int) = 1))) && (decide ((x8.length : Int) = 1)))) (fun K => ?_) ?_
 ·rcases aj (((((decide (x5 = 0)) && (decide (x9 = 0))) && (decide (x4 = ([61, 95, 48] : List UInt8)))) && (decide (x3 = dy))) && (decide ((x7.length : Int) = 1))) with h15 | h15
  ·refine zU h15 rfl (ac (av := slE _ _ _) rfl) <| zU h15 rfl (aG aq rfl) <| zU h15 rfl (dv rfl rfl) <| zS rfl (aC (av := .v _) rfl h15 rfl) ?_;exact K _ 3 _ (ay (cH h15)) rfl rfl
  ·refine zF h15 rfl <| zF h15 rfl <| zF h15 rfl <| zS rfl (aD (av := .v _) rfl h15 rfl) ?_;exact K _ 3 _ (ay (cI h15)) rfl rfl
 refine zm rfl <| aZ (l := [32, 33, 34, 35, 36]) 53 (B (((((((decide (x5 = 0)) && (decide (x9 = 0))) && (decide (x4 = ([61, 95, 48] : List UInt8)))) && (decide (x3 = dy))) && (decide ((x7.length : Int) = 1))) && (decide ((x8.length : Int) = 1))) && (decide (x18 = ([97] : List UInt8))))) (fun K => ?_) ?_
 ·rcases aj ((((((decide (x5 = 0)) && (decide (x9 = 0))) && (decide (x4 = ([61, 95, 48] : List UInt8)))) && (decide (x3 = dy))) && (decide ((x7.length : Int) = 1))) && (decide ((x8.length : Int) = 1))) with h16 | h16
  ·refine zU h16 rfl (ac (av := slE _ _ _) rfl) <| zU h16 rfl (bn (E := (Enc.sl Enc.byte)) aq (by kernel_rfl) rfl rfl (g17 h16) e19) <| zU h16 rfl (aU aa rfl rfl) <| zU h16 rfl (bD aa aB af rfl) <| zU h16 rfl (iO rfl rfl) <| zS rfl (aC (av := .v _) rfl h16 rfl) ?_;exact K _ 5 _ (ay (cH h16)) rfl rfl
  ·refine zF h16 rfl <| zF h16 rfl <| zF h16 rfl <| zF h16 rfl <| zF h16 rfl <| zS rfl (aD (av := .v _) rfl h16 rfl) ?_;exact K _ 5 _ (ay (cI h16)) rfl rfl
 refine zm rfl <| aZ (l := [36]) 57 (B ((((((((decide (x5 = 0)) && (decide (x9 = 0))) && (decide (x4 = ([61, 95, 48] : List UInt8)))) && (decide (x3 = dy))) && (decide ((x7.length : Int) = 1))) && (decide ((x8.length : Int) = 1))) && (decide (x18 = ([97] : List UInt8)))) && (decide (x21 = ([61, 95, 48] : List UInt8))))) (fun K => ?_) ?_
 ·rcases aj (((((((decide (x5 = 0)) && (decide (x9 = 0))) && (decide (x4 = ([61, 95, 48] : List UInt8)))) && (decide (x3 = dy))) && (decide ((x7.length : Int) = 1))) && (decide ((x8.length : Int) = 1))) && (decide (x18 = ([97] : List UInt8)))) with h20 | h20
  ·refine zT h20 rfl (aN rfl qf rfl (nn (.cons (.nil _) (.nil)) (iI F [] none x21 (e22 h20))) ?_);refine zU h20 rfl (iO rfl rfl) <| zS rfl (aC (av := .v _) rfl h20 rfl) ?_;exact K _ 2 _ (ay (cH h20)) rfl rfl
  ·refine zF h20 rfl <| zF h20 rfl <| zS rfl (aD (av := .v _) rfl h20 rfl) ?_;exact K _ 2 _ (ay (cI h20)) rfl rfl
 refine za rfl <| ai <| aP ?_;obtain rfl := ap H;exact And.intro rfl (Exists.intro _ (Exists.intro _ ⟨aR rfl (.refl _), aM [] rfl, rfl, rfl⟩))
set_option maxRecDepth 100000 in
set_option maxHeartbeats 1000000 in
theorem nM (F : Nat) (a1 : List (List UInt8)) (q2 : Option Nat) (a3 : List (List UInt8)) (q4 : Option Nat) (r5 : Bool) (H : ie F a1 a3 = some r5) : ACalls Tryz.prog 9 [slE Enc.str a1 q2, slE (Enc.sl Enc.byte) a3 q4] [] (Ret (B r5) []) := by
 unfold ie at H
 refine ax Tryz.func9 rfl rfl ?_;show AW _ _ 39 _ _ _;refine ah <| ab ?_;show AR _ _ _ _ _ [0] _;refine za rfl <| ai <| ah <| ah <| ab ?_;show AR _ _ _ _ _ [0, 1, 2, 3, 4, 5, 6, 7] _;refine zS rfl (ac (av := slE _ _ _) rfl) <| zS rfl (aG ar rfl) <| zS rfl (cF rfl rfl) <| zm rfl <| aZ (l := []) 14 (B ((decide (10 < (a1.length : Int))) || (decide (10 < (a3.length : Int))))) (fun K => ?_) ?_
 ·rcases aj (decide (10 < (a1.length : Int))) with h6 | h6
  ·refine zF h6 rfl <| zF h6 rfl <| zF h6 rfl <| zS rfl (aC (av := .v _) rfl h6 rfl) ?_;exact K _ 3 _ (ay (fE h6)) rfl rfl
  ·refine zU h6 rfl (ac (av := slE _ _ _) rfl) <| zU h6 rfl (aG aq rfl) <| zU h6 rfl (cF rfl rfl) <| zS rfl (aD (av := .v _) rfl h6 rfl) ?_;exact K _ 3 _ (ay (fF h6)) rfl rfl
 refine ai <| aH rfl (fun c7 => ?_) (fun c7 => ?_)
 ·replace H := bk c7 H;refine ah <| ab ?_;show AR _ _ _ _ _ [0] _;refine za rfl <| ai <| aP ?_;obtain rfl := ap H;exact And.intro rfl (Exists.intro _ (Exists.intro _ ⟨aR rfl (.refl _), aM [] rfl, rfl, rfl⟩))
 ·replace H := bl c7 H;refine aJ <| bP (X := Unit) (fun _ => ⟨[(1, slE (Enc.sl Enc.byte) a3 q4)], [], []⟩) (fun _ => eW F a3 = some r5) ?_ ?_
  ·refine ah <| ab ?_;show AR _ _ _ _ _ [0] _;refine za rfl <| ai <| aO <| bZ (X := Nat × Int) (fun (n10, y8) => ⟨[(0, slE Enc.str a1 q2), (1, slE (Enc.sl Enc.byte) a3 q4), (5, i64 y8)], [], []⟩) (fun (n10, y8) => eY F a1 a3 n10 y8 = some r5) (fun (n10, y8) => n10) (F, 0) H (ba [] (.cons (.refl _) (.cons (.refl _) (.cons (.refl _) (.nil _)))) rfl) ?_;rintro ⟨n10, y8⟩ H;obtain ⟨n10, rfl, H⟩ := cB H;replace H : fa F a1 a3 (eY F a1 a3 n10) y8 = some r5 := H
   unfold fa at H
   refine ah <| ah <| ab ?_;show AR _ _ _ _ _ [0, 1, 2, 3] _;refine zm rfl <| zS rfl (ac (av := slE _ _ _) rfl) <| zS rfl (aG ar rfl) <| zS rfl (bI rfl rfl) <| ai <| aH rfl (fun c11 => ?_) (fun c11 => ?_)
   ·replace H := bk c11 H;refine aJ <| ah <| aO <| ah ?_;obtain ⟨g12, H⟩ := aF H;obtain ⟨x13, e14, H⟩ := bi H;refine ab ?_;show AR _ _ _ _ _ [0, 1, 2, 3, 4, 5] _;refine zS rfl (ac (av := slE _ _ _) rfl) <| zm rfl <| zS rfl (bn (E := Enc.str) ar (by kernel_rfl) rfl rfl g12 e14) <| zS rfl (aU af rfl rfl) <| zS rfl (bg af rfl) <| zS rfl (cF rfl rfl) <| ai <| aH rfl (fun c15 => ?_) (fun c15 => ?_)
    ·replace H := bk c15 H;refine ah <| ab ?_;show AR _ _ _ _ _ [0] _;refine za rfl <| ai <| aP ?_;obtain rfl := ap H;exact And.intro rfl (Exists.intro _ (Exists.intro _ ⟨aR rfl (.refl _), aM [] rfl, rfl, rfl⟩))
    ·replace H := bl c15 H;refine aJ ?_;obtain ⟨g16, H⟩ := aF H;refine ab ?_;show AR _ _ _ _ _ [0, 1, 2] _;refine zm rfl <| zS rfl (bC rfl rfl g16) <| za rfl <| ai ?_;exact Exists.intro (n10, y8 + 1) ⟨H, Nat.lt_succ_self _, ba [] (.cons (.refl _) (.cons (.refl _) (.cons (.refl _) (.nil _)))) rfl⟩
   ·replace H := bl c11 H;refine bQ ?_;exact Exists.intro () ⟨H, ba [] (.cons (.refl _) (.nil _)) rfl⟩
  rintro _ H;replace H : eW F a3 = some r5 := H
  unfold eW at H
  refine bP (X := Unit) (fun _ => ⟨[], [], []⟩) (fun _ => eX = some r5) ?_ ?_
  ·refine ah <| ab ?_;show AR _ _ _ _ _ [0] _;refine za rfl <| ai <| aO <| bZ (X := Nat × Int) (fun (n20, y18) => ⟨[(1, slE (Enc.sl Enc.byte) a3 q4), (6, i64 y18)], [], []⟩) (fun (n20, y18) => eZ a3 n20 y18 = some r5) (fun (n20, y18) => n20) (F, 0) H (ba [] (.cons (.refl _) (.cons (.refl _) (.nil _))) rfl) ?_;rintro ⟨n20, y18⟩ H;obtain ⟨n20, rfl, H⟩ := cB H;replace H : fb a3 (eZ a3 n20) y18 = some r5 := H
   unfold fb at H
   refine ah <| ah <| ab ?_;show AR _ _ _ _ _ [0, 1, 2, 3] _;refine zm rfl <| zS rfl (ac (av := slE _ _ _) rfl) <| zS rfl (aG aq rfl) <| zS rfl (bI rfl rfl) <| ai <| aH rfl (fun c21 => ?_) (fun c21 => ?_)
   ·replace H := bk c21 H;refine aJ <| ah <| aO <| ah ?_;obtain ⟨g22, H⟩ := aF H;obtain ⟨x23, e24, H⟩ := bi H;refine ab ?_;show AR _ _ _ _ _ [0, 1, 2, 3, 4, 5] _;refine zS rfl (ac (av := slE _ _ _) rfl) <| zm rfl <| zS rfl (bn (E := (Enc.sl Enc.byte)) aq (by kernel_rfl) rfl rfl g22 e24) <| zS rfl (aU aa rfl rfl) <| zS rfl (aG aa rfl) <| zS rfl (cF rfl rfl) <| ai <| aH rfl (fun c25 => ?_) (fun c25 => ?_)
    ·replace H := bk c25 H;refine ah <| ab ?_;show AR _ _ _ _ _ [0] _;refine za rfl <| ai <| aP ?_;obtain rfl := ap H;exact And.intro rfl (Exists.intro _ (Exists.intro _ ⟨aR rfl (.refl _), aM [] rfl, rfl, rfl⟩))
    ·replace H := bl c25 H;refine aJ ?_;obtain ⟨g26, H⟩ := aF H;refine ab ?_;show AR _ _ _ _ _ [0, 1, 2] _;refine zm rfl <| zS rfl (bC rfl rfl g26) <| za rfl <| ai ?_;exact Exists.intro (n20, y18 + 1) ⟨H, Nat.lt_succ_self _, ba [] (.cons (.refl _) (.cons (.refl _) (.nil _))) rfl⟩
   ·replace H := bl c21 H;refine bQ ?_;exact Exists.intro () ⟨H, ba [] (.nil _) rfl⟩
  rintro _ H;replace H : eX = some r5 := H
  unfold eX at H
  refine ah <| ab ?_;show AR _ _ _ _ _ [0] _;refine za rfl <| ai <| aP ?_;obtain rfl := ap H;exact And.intro rfl (Exists.intro _ (Exists.intro _ ⟨aR rfl (.refl _), aM [] rfl, rfl, rfl⟩))
end Go.Proofs.YtdaafnaokdigbaaGreatDoor
namespace Go.Pv
def headr_k1 : List UInt8 := [65, 66, 67, 68, 69, 70, 71, 72, 73, 74, 75, 76, 77, 78, 79, 80, 81, 82, 83, 84, 85, 86, 87, 88, 89, 90, 97, 98, 99, 100, 101, 102, 103, 104, 105, 106, 107, 108, 109, 110, 111, 112, 113, 114, 115, 116, 117, 118, 119, 120, 121, 122, 48, 49, 50, 51, 52, 53, 54, 55, 56, 57, 43, 47]
def iq (y7 : Int) (rec8 : ((List UInt8) × Int) → Option ((List UInt8))) (y73 : List UInt8) : Option ((List UInt8)) :=
grd (okI (y7 + 3)) <|
rec8 (y73, y7 + 3)
def ip (a1 : List UInt8) (y7 : Int) (y26 : Int) (rec8 : ((List UInt8) × Int) → Option ((List UInt8))) (y56 : List UInt8) : Option ((List UInt8)) :=
grd (okI (y7 + 2)) <|
bif decide (y7 + 2 < (a1.length : Int)) then
  grd (gH y26 64) <|
  grd (cE (y26 % 64) headr_k1.length) <|
  lt (at_ headr_k1 (y26 % 64)) fun x63 =>
  grd (bw (y56.length + ([x63] : List UInt8).length)) <|
  lt (y56 ++ ([x63] : List UInt8)) fun x67 =>
  iq y7 rec8 x67
else
  grd (bw (y56.length + ([61] : List UInt8).length)) <|
  lt (y56 ++ ([61] : List UInt8)) fun x71 =>
  iq y7 rec8 x71
def jU (a1 : List UInt8) (y5 : List UInt8) (y7 : Int) (rec8 : ((List UInt8) × Int) → Option ((List UInt8))) (y26 : Int) : Option ((List UInt8)) :=
grd (gH y26 262144) <|
grd (cE (y26 / 262144) headr_k1.length) <|
lt (at_ headr_k1 (y26 / 262144)) fun x30 =>
grd (gH y26 4096) <|
grd (gH (y26 / 4096) 64) <|
grd (cE ((y26 / 4096) % 64) headr_k1.length) <|
lt (at_ headr_k1 ((y26 / 4096) % 64)) fun x35 =>
grd (bw (y5.length + ([x30, x35] : List UInt8).length)) <|
lt (y5 ++ ([x30, x35] : List UInt8)) fun x39 =>
grd (okI (y7 + 1)) <|
bif decide (y7 + 1 < (a1.length : Int)) then
  grd (gH y26 64) <|
  grd (gH (y26 / 64) 64) <|
  grd (cE ((y26 / 64) % 64) headr_k1.length) <|
  lt (at_ headr_k1 ((y26 / 64) % 64)) fun x46 =>
  grd (bw (x39.length + ([x46] : List UInt8).length)) <|
  lt (x39 ++ ([x46] : List UInt8)) fun x50 =>
  ip a1 y7 y26 rec8 x50
else
  grd (bw (x39.length + ([61] : List UInt8).length)) <|
  lt (x39 ++ ([61] : List UInt8)) fun x54 =>
  ip a1 y7 y26 rec8 x54
end Go.Pv
namespace Go.Pv
def ib (F : Nat) (a1 : UInt8) : Option ((List UInt8)) :=
grd (gH (a1.toNat : Int) 16) <|
grd (gH (a1.toNat : Int) 16) <|
grd (okI (((a1.toNat : Int) / 16) + 1)) <|
grd (kq ((a1.toNat : Int) / 16) (((a1.toNat : Int) / 16) + 1) ([48, 49, 50, 51, 52, 53, 54, 55, 56, 57, 65, 66, 67, 68, 69, 70] : List UInt8).length) <|
lt (sub ([48, 49, 50, 51, 52, 53, 54, 55, 56, 57, 65, 66, 67, 68, 69, 70] : List UInt8) ((a1.toNat : Int) / 16) (((a1.toNat : Int) / 16) + 1)) fun x7 =>
grd (gH (a1.toNat : Int) 16) <|
grd (gH (a1.toNat : Int) 16) <|
grd (okI (((a1.toNat : Int) % 16) + 1)) <|
grd (kq ((a1.toNat : Int) % 16) (((a1.toNat : Int) % 16) + 1) ([48, 49, 50, 51, 52, 53, 54, 55, 56, 57, 65, 66, 67, 68, 69, 70] : List UInt8).length) <|
lt (sub ([48, 49, 50, 51, 52, 53, 54, 55, 56, 57, 65, 66, 67, 68, 69, 70] : List UInt8) ((a1.toNat : Int) % 16) (((a1.toNat : Int) % 16) + 1)) fun x13 =>
grd (bw (x7.length + x13.length)) <|
lt (x7 ++ x13) fun x16 =>
some x16
def fG (F : Nat) (a1 : List UInt8) (a3 : Int) : Option Bool :=
grd (cE a3 a1.length) <|
lt (at_ a1 a3) fun x6 =>
bif (decide (x6 = 32)) || (decide (x6 = 9)) then
  grd (okI (a3 + 1)) <|
  gt (decide (a3 + 1 < (a1.length : Int))) (okI (a3 + 1)) <|
  gt (decide (a3 + 1 < (a1.length : Int))) (cE (a3 + 1) a1.length) <|
  lt (at_ a1 (a3 + 1)) fun x14 =>
  some ((decide (a3 + 1 < (a1.length : Int))) && (!decide (x14 = 10)))
else
  some (((decide (33 ≤ (x6.toNat : Int))) && (decide ((x6.toNat : Int) ≤ 126))) && (!decide (x6 = 61)))
def dr (y57 : List UInt8) : Option ((List UInt8)) :=
some y57
def cx (y8 : Int) (rec9 : ((List UInt8) × Int × Int) → Option ((List UInt8))) (y52 : List UInt8) (y54 : Int) : Option ((List UInt8)) :=
grd (okI (y8 + 1)) <|
rec9 (y52, y54, y8 + 1)
def cK (y8 : Int) (y35 : List UInt8) (rec9 : ((List UInt8) × Int × Int) → Option ((List UInt8))) (y43 : List UInt8) (y45 : Int) : Option ((List UInt8)) :=
grd (bw (y43.length + y35.length)) <|
lt (y43 ++ y35) fun x49 =>
grd (okI (y45 + (y35.length : Int))) <|
cx y8 rec9 x49 (y45 + (y35.length : Int))
def cf (y5 : List UInt8) (y7 : Int) (y8 : Int) (rec9 : ((List UInt8) × Int × Int) → Option ((List UInt8))) (y35 : List UInt8) : Option ((List UInt8)) :=
grd (okI (y7 + (y35.length : Int))) <|
bif decide (75 < y7 + (y35.length : Int)) then
  grd (bw (y5.length + ([61, 13, 10] : List UInt8).length)) <|
  lt (y5 ++ ([61, 13, 10] : List UInt8)) fun x41 =>
  cK y8 y35 rec9 x41 0
else
  cK y8 y35 rec9 y5 y7
def dt (F : Nat) (a1 : List UInt8) (rec9 : ((List UInt8) × Int × Int) → Option ((List UInt8))) (y5 : List UInt8) (y7 : Int) (y8 : Int) : Option ((List UInt8)) :=
bif decide (y8 < (a1.length : Int)) then
  grd (cE y8 a1.length) <|
  lt (at_ a1 y8) fun x13 =>
  bif decide (x13 = 10) then
    grd (bw (y5.length + ([13, 10] : List UInt8).length)) <|
    lt (y5 ++ ([13, 10] : List UInt8)) fun x18 =>
    cx y8 rec9 x18 0
  else
    grd (cE y8 a1.length) <|
    lt (at_ a1 y8) fun x21 =>
    bnd (ib F x21) fun x23 =>
    grd (bw (([61] : List UInt8).length + x23.length)) <|
    lt (([61] : List UInt8) ++ x23) fun x26 =>
    bnd (fG F a1 y8) fun x28 =>
    bif x28 then
      grd (okI (y8 + 1)) <|
      grd (kq y8 (y8 + 1) a1.length) <|
      lt (sub a1 y8 (y8 + 1)) fun x33 =>
      cf y5 y7 y8 rec9 x33
    else
      cf y5 y7 y8 rec9 x26
else
  dr y5
def bG (F : Nat) (a1 : List UInt8) (n : Nat) : ((List UInt8) × Int × Int) → Option ((List UInt8)) :=
  loop (fun rec x => dt F a1 rec x.1 x.2.1 x.2.2) n
def fQ (F : Nat) (a1 : List UInt8) : Option ((List UInt8)) :=
bG F a1 F ([], 0, 0)
end Go.Pv
namespace Go.Proofs.YtdaafnaokdigbaaGreatDoor
open Go.RowKit Go.Av Go.Pv
theorem pO : ∀ (args : Array Value) (w : World), (callFunc 38 args).run Tryz.prog w = .ok (.enter 38 args) w := fun _ _ => by kernel_rfl
theorem pN : ∀ (args : Array Value) (w : World), (callFunc 39 args).run Tryz.prog w = .ok (.enter 39 args) w := fun _ _ => by kernel_rfl
set_option maxRecDepth 100000 in
set_option maxHeartbeats 1000000 in
theorem nG (F : Nat) (a1 : UInt8) (r2 : List UInt8) (H : ib F a1 = some r2) : ACalls Tryz.prog 38 [u8 a1] [] (Ret (S r2) []) := by
 unfold ib at H
 refine ax Tryz.func38 rfl rfl ?_;show AW _ _ 22 _ _ _;refine ah <| ab ?_;show AR _ _ _ _ _ [0] _;refine za rfl <| ai <| ah <| ab ?_;show AR _ _ _ _ _ [0] _;refine za rfl <| ai <| ah <| ab ?_;show AR _ _ _ _ _ [0, 1, 2] _;refine zm rfl <| zS rfl (nY (c := a1) (by kernel_rfl) bc rfl) <| za rfl <| ai <| ah ?_;obtain ⟨g3, H⟩ := aF H;obtain ⟨g4, H⟩ := aF H;obtain ⟨g5, H⟩ := aF H;obtain ⟨g6, H⟩ := aF H;obtain ⟨x7, e8, H⟩ := bi H;obtain ⟨g9, H⟩ := aF H;obtain ⟨g10, H⟩ := aF H;obtain ⟨g11, H⟩ := aF H;obtain ⟨g12, H⟩ := aF H;obtain ⟨x13, e14, H⟩ := bi H;obtain ⟨g15, H⟩ := aF H;obtain ⟨x16, e17, H⟩ := bi H;refine bH (by kernel_rfl) ?_;show AI _ _ _ _ _ 16 (Array.replicate 16 false) _;refine zk 0 rfl (mv rfl) ?_;show AI _ _ _ _ _ _ #[true, false, false, false, false, false, false, false, false, false, false, false, false, false, false, false] _;refine zk 1 rfl (mv rfl) ?_;show AI _ _ _ _ _ _ #[true, true, false, false, false, false, false, false, false, false, false, false, false, false, false, false] _;refine zk 2 rfl (g_quo rfl rfl g3) ?_;show AI _ _ _ _ _ _ #[true, true, true, false, false, false, false, false, false, false, false, false, false, false, false, false] _;refine zk 3 rfl (mv rfl) ?_;show AI _ _ _ _ _ _ #[true, true, true, true, false, false, false, false, false, false, false, false, false, false, false, false] _;refine zk 4 rfl (g_quo rfl rfl g4) ?_
 show AI _ _ _ _ _ _ #[true, true, true, true, true, false, false, false, false, false, false, false, false, false, false, false] _;refine zk 5 rfl (bC rfl rfl g5) ?_;show AI _ _ _ _ _ _ #[true, true, true, true, true, true, false, false, false, false, false, false, false, false, false, false] _;refine zk 6 rfl (kK af rfl rfl rfl g6 e8) ?_;show AI _ _ _ _ _ _ #[true, true, true, true, true, true, true, false, false, false, false, false, false, false, false, false] _;refine zk 7 rfl (mv rfl) ?_;show AI _ _ _ _ _ _ #[true, true, true, true, true, true, true, true, false, false, false, false, false, false, false, false] _;refine zk 8 rfl (mv rfl) ?_;show AI _ _ _ _ _ _ #[true, true, true, true, true, true, true, true, true, false, false, false, false, false, false, false] _;refine zk 9 rfl (g_rem rfl rfl g9) ?_;show AI _ _ _ _ _ _ #[true, true, true, true, true, true, true, true, true, true, false, false, false, false, false, false] _;refine zk 10 rfl (mv rfl) ?_;show AI _ _ _ _ _ _ #[true, true, true, true, true, true, true, true, true, true, true, false, false, false, false, false] _;refine zk 11 rfl (g_rem rfl rfl g10) ?_;show AI _ _ _ _ _ _ #[true, true, true, true, true, true, true, true, true, true, true, true, false, false, false, false] _;refine zk 12 rfl (bC rfl rfl g11) ?_;show AI _ _ _ _ _ _ #[true, true, true, true, true, true, true, true, true, true, true, true, true, false, false, false] _;refine zk 13 rfl (kK af rfl rfl rfl g12 e14) ?_
 show AI _ _ _ _ _ _ #[true, true, true, true, true, true, true, true, true, true, true, true, true, true, false, false] _;refine zk 14 rfl (da rfl rfl g15 e17) ?_;show AI _ _ _ _ _ _ #[true, true, true, true, true, true, true, true, true, true, true, true, true, true, true, false] _;refine zk 15 rfl (asg rfl) ?_;show AI _ _ _ _ _ _ #[true, true, true, true, true, true, true, true, true, true, true, true, true, true, true, true] _;refine br rfl <| aP ?_;obtain rfl := ap H;exact And.intro rfl (Exists.intro _ (Exists.intro _ ⟨aR rfl (.refl _), aM [] rfl, rfl, rfl⟩))
set_option maxRecDepth 100000 in
set_option maxHeartbeats 1000000 in
theorem mb (F : Nat) (a1 : List UInt8) (q2 : Option Nat) (a3 : Int) (r4 : Bool) (H : fG F a1 a3 = some r4) : ACalls Tryz.prog 39 [slE Enc.byte a1 q2, i64 a3] [] (Ret (B r4) []) := by
 unfold fG at H
 refine ax Tryz.func39 rfl rfl ?_;show AW _ _ 39 _ _ _;refine ah <| ab ?_;show AR _ _ _ _ _ [0] _;refine za rfl <| ai <| ah ?_;obtain ⟨g5, H⟩ := aF H;obtain ⟨x6, e7, H⟩ := bi H;refine ab ?_;show AR _ _ _ _ _ [0, 1, 2, 3, 4] _;refine zS rfl (ac (av := slE _ _ _) rfl) <| zm rfl <| zS rfl (bn (E := Enc.byte) aa (by kernel_rfl) rfl rfl g5 e7) <| zS rfl (aU aB rfl rfl) <| za rfl <| ai <| ah <| ah <| ab ?_;show AR _ _ _ _ _ [0, 1, 2, 3, 4, 5] _;refine zm rfl <| zS rfl (iV (a := x6) (b := 32) rfl rfl) <| zm rfl <| aZ (l := []) 15 (B ((decide (x6 = 32)) || (decide (x6 = 9)))) (fun K => ?_) ?_
 ·rcases aj (decide (x6 = 32)) with h8 | h8
  ·refine zF h8 rfl <| zF h8 rfl <| zS rfl (aC (av := .v _) rfl h8 rfl) ?_;exact K _ 2 _ (ay (fE h8)) rfl rfl
  ·refine zM h8 rfl <| zU h8 rfl (iV (a := x6) (b := 9) rfl rfl) <| zS rfl (aD (av := .v _) rfl h8 rfl) ?_;exact K _ 2 _ (ay (fF h8)) rfl rfl
 refine ai <| aH rfl (fun c9 => ?_) (fun c9 => ?_)
 ·replace H := bk c9 H;refine ah ?_;obtain ⟨g10, H⟩ := aF H;obtain ⟨g12, H⟩ := eA H;obtain ⟨g13, H⟩ := eA H;obtain ⟨x14, e15, H⟩ := bi H;refine ab ?_;show AR _ _ _ _ _ [0, 1, 2, 3, 4, 5, 6, 7, 8, 9, 10, 11, 12, 13] _;refine zm rfl <| zS rfl (bC rfl rfl g10) <| zS rfl (ac (av := slE _ _ _) rfl) <| zS rfl (aG aa rfl) <| zS rfl (bI rfl rfl) <| zm rfl <| aZ (l := [13]) 28 (B ((decide (a3 + 1 < (a1.length : Int))) && (!decide (x14 = 10)))) (fun K => ?_) ?_
  ·rcases aj (decide (a3 + 1 < (a1.length : Int))) with h11 | h11
   ·refine zU h11 rfl (ac (av := slE _ _ _) rfl) <| zM h11 rfl <| zU h11 rfl (bC rfl rfl (g12 h11)) <| zU h11 rfl (bn (E := Enc.byte) aa (by kernel_rfl) rfl rfl (g13 h11) e15) <| zU h11 rfl (aU aB rfl rfl) <| zU h11 rfl (oV (a := x14) (b := 10) rfl rfl) <| zS rfl (aC (av := .v _) rfl h11 rfl) ?_;exact K _ 6 _ (ay (cH h11)) rfl rfl
   ·refine zF h11 rfl <| zF h11 rfl <| zF h11 rfl <| zF h11 rfl <| zF h11 rfl <| zF h11 rfl <| zS rfl (aD (av := .v _) rfl h11 rfl) ?_;exact K _ 6 _ (ay (cI h11)) rfl rfl
  refine za rfl <| ai <| aP ?_;obtain rfl := ap H;exact And.intro rfl (Exists.intro _ (Exists.intro _ ⟨aR rfl (.refl _), aM [] rfl, rfl, rfl⟩))
 ·replace H := bl c9 H;refine aJ <| ah <| ab ?_;show AR _ _ _ _ _ [0, 1, 2, 3, 4, 5, 6, 7, 8, 9, 10] _;refine zm rfl <| zS rfl (gm rfl rfl) <| zm rfl <| aZ (l := [6, 7, 8, 9, 10]) 34 (B ((decide (33 ≤ (x6.toNat : Int))) && (decide ((x6.toNat : Int) ≤ 126)))) (fun K => ?_) ?_
  ·rcases aj (decide (33 ≤ (x6.toNat : Int))) with h16 | h16
   ·refine zM h16 rfl <| zU h16 rfl (hU rfl rfl) <| zS rfl (aC (av := .v _) rfl h16 rfl) ?_;exact K _ 2 _ (ay (cH h16)) rfl rfl
   ·refine zF h16 rfl <| zF h16 rfl <| zS rfl (aD (av := .v _) rfl h16 rfl) ?_;exact K _ 2 _ (ay (cI h16)) rfl rfl
  refine zm rfl <| aZ (l := [10]) 38 (B (((decide (33 ≤ (x6.toNat : Int))) && (decide ((x6.toNat : Int) ≤ 126))) && (!decide (x6 = 61)))) (fun K => ?_) ?_
  ·rcases aj ((decide (33 ≤ (x6.toNat : Int))) && (decide ((x6.toNat : Int) ≤ 126))) with h17 | h17
   ·refine zM h17 rfl <| zU h17 rfl (oV (a := x6) (b := 61) rfl rfl) <| zS rfl (aC (av := .v _) rfl h17 rfl) ?_;exact K _ 2 _ (ay (cH h17)) rfl rfl
   ·refine zF h17 rfl <| zF h17 rfl <| zS rfl (aD (av := .v _) rfl h17 rfl) ?_;exact K _ 2 _ (ay (cI h17)) rfl rfl
  refine za rfl <| ai <| aP ?_;obtain rfl := ap H;exact And.intro rfl (Exists.intro _ (Exists.intro _ ⟨aR rfl (.refl _), aM [] rfl, rfl, rfl⟩))
set_option maxRecDepth 100000 in
set_option maxHeartbeats 1000000 in
theorem lf (F : Nat) (a1 : List UInt8) (q2 : Option Nat) (r3 : List UInt8) (H : fQ F a1 = some r3) : ACalls Tryz.prog 19 [slE Enc.byte a1 q2] [] (Ret (slE Enc.byte r3 none) []) := by
 unfold fQ at H
 refine ax Tryz.func19 rfl rfl ?_;show AW _ _ 54 _ _ _;refine ah <| ab ?_;show AR _ _ _ _ _ [0] _;refine za rfl <| ai <| ah <| ab ?_;show AR _ _ _ _ _ [0] _;refine za rfl <| ai ?_
 refine cq 3 1 5 rfl fun t4 => ?_
 show AW _ _ _ _ _ ⟨(3, slE Enc.byte [] (some t4)) :: _, _, _⟩;refine ah <| ab ?_;show AR _ _ _ _ _ [0] _;refine za rfl <| ai <| bP (X := (List UInt8) × Nat) (fun (y57, t58) => ⟨[(3, slE Enc.byte y57 (some t58))], [], [.tok t58 5]⟩) (fun (y57, t58) => dr y57 = some r3) ?_ ?_
 ·refine ah <| ab ?_;show AR _ _ _ _ _ [0] _;refine za rfl <| ai <| aO <| bZ (X := Nat × (List UInt8) × Nat × Int × Int) (fun (n10, y5, t6, y7, y8) => ⟨[(0, slE Enc.byte a1 q2), (3, slE Enc.byte y5 (some t6)), (4, i64 y7), (5, i64 y8)], [], [.tok t6 5]⟩) (fun (n10, y5, t6, y7, y8) => bG F a1 n10 (y5, y7, y8) = some r3) (fun (n10, y5, t6, y7, y8) => n10) (F, [], t4, 0, 0) H (ba [0] (.cons (.refl _) (.cons (.refl _) (.cons (.refl _) (.cons (.refl _) (.nil _))))) rfl) ?_;rintro ⟨n10, y5, t6, y7, y8⟩ H;obtain ⟨n10, rfl, H⟩ := cB H;replace H : dt F a1 (bG F a1 n10) y5 y7 y8 = some r3 := H
  unfold dt at H
  refine ah <| ah <| ab ?_;show AR _ _ _ _ _ [0, 1, 2, 3] _;refine zm rfl <| zS rfl (ac (av := slE _ _ _) rfl) <| zS rfl (aG aa rfl) <| zS rfl (bI rfl rfl) <| ai <| aH rfl (fun c11 => ?_) (fun c11 => ?_)
  ·replace H := bk c11 H;refine aJ <| bP (X := (List UInt8) × Nat × Int) (fun (y52, t53, y54) => ⟨[(0, slE Enc.byte a1 q2), (3, slE Enc.byte y52 (some t53)), (4, i64 y54), (5, i64 y8)], [], [.tok t53 5]⟩) (fun (y52, t53, y54) => cx y8 (bG F a1 n10) y52 y54 = some r3) ?_ ?_
   ·refine aO <| ah <| ah ?_;obtain ⟨g12, H⟩ := aF H;obtain ⟨x13, e14, H⟩ := bi H;refine ab ?_;show AR _ _ _ _ _ [0, 1, 2, 3, 4] _;refine zS rfl (ac (av := slE _ _ _) rfl) <| zm rfl <| zS rfl (bn (E := Enc.byte) aa (by kernel_rfl) rfl rfl g12 e14) <| zS rfl (aU aB rfl rfl) <| zS rfl (iV (a := x13) (b := 10) rfl rfl) <| ai <| aH rfl (fun c15 => ?_) (fun c15 => ?_)
    ·replace H := bk c15 H;refine ah ?_;obtain ⟨g17, H⟩ := aF H;obtain ⟨x18, e19, H⟩ := bi H;refine ab ?_;show AR _ _ _ _ _ [0, 1, 2, 3] _;refine zS rfl (ac (av := slE _ _ _) rfl) <| zR rfl (bm (E := Enc.byte) (bytes := 1) (xs := [.const _, .const _]) (l := ([13, 10] : List UInt8)) aa (by kernel_rfl) rfl rfl (by decide) rfl rfl) <| zX rfl (bA (E := Enc.byte) (bytes := 1) 0 aa aa rfl (by kernel_rfl) rfl rfl rfl rfl g17 e19) ?_;rintro _ _ ⟨t16, rfl, rfl⟩;refine zS rfl (ao (av := slE _ _ _) rfl) <| ai <| ah <| ab ?_;show AR _ _ _ _ _ [0] _;refine za rfl <| ai <| bQ ?_;exact Exists.intro (x18, t16, 0) ⟨H, ba [0] (.cons (.refl _) (.cons (.refl _) (.cons (.refl _) (.cons (.refl _) (.nil _))))) rfl⟩
    ·replace H := bl c15 H;refine aJ <| ah ?_;obtain ⟨g20, H⟩ := aF H;obtain ⟨x21, e22, H⟩ := bi H;obtain ⟨x23, e24, H⟩ := dz H;obtain ⟨g25, H⟩ := aF H;obtain ⟨x26, e27, H⟩ := bi H;refine ab ?_;show AR _ _ _ _ _ [0, 1, 2, 3, 4, 5, 6] _;refine zS rfl (ac (av := slE _ _ _) rfl) <| zm rfl <| zS rfl (bn (E := Enc.byte) aa (by kernel_rfl) rfl rfl g20 e22) <| zS rfl (aU aB rfl rfl) <| am rfl rfl (aN rfl pO rfl (nG F x21 x23 e24) ?_);refine zS rfl (da rfl rfl g25 e27) <| za rfl <| ai <| ah ?_;obtain ⟨x28, e29, H⟩ := dz H;refine ab ?_;show AR _ _ _ _ _ [0, 1, 2, 3] _;refine zS rfl (ac (av := slE _ _ _) rfl) <| zm rfl <| am rfl rfl (aN rfl pN rfl (mb F a1 q2 y8 x28 e29) ?_);refine za rfl <| ai <| bP (X := (List UInt8)) (fun y35 => ⟨[(0, slE Enc.byte a1 q2), (3, slE Enc.byte y5 (some t6)), (4, i64 y7), (5, i64 y8), (6, S y35)], [], [.tok t6 5]⟩) (fun y35 => cf y5 y7 y8 (bG F a1 n10) y35 = some r3) ?_ ?_
     ·refine ah <| ab ?_;show AR _ _ _ _ _ [0] _;refine zm rfl <| ai <| aH rfl (fun c30 => ?_) (fun c30 => ?_)
      ·replace H := bk c30 H;obtain ⟨g31, H⟩ := aF H;obtain ⟨g32, H⟩ := aF H;obtain ⟨x33, e34, H⟩ := bi H;refine ab ?_;show AR _ _ _ _ _ [0, 1, 2, 3, 4, 5, 6] _;refine zS rfl (ac (av := slE _ _ _) rfl) <| zm rfl <| zm rfl <| zS rfl (bC rfl rfl g31) <| zS rfl (lD (E := Enc.byte) aa (by kernel_rfl) rfl rfl rfl g32 e34) <| zS rfl (bD aa aB af rfl) <| za rfl <| ai ?_;exact Exists.intro x33 ⟨H, ba [0] (.cons (.refl _) (.cons (.refl _) (.cons (.refl _) (.cons (.refl _) (.cons (.refl _) (.nil _)))))) rfl⟩
      ·replace H := bl c30 H;refine aJ ?_;exact Exists.intro x26 ⟨H, ba [0] (.cons (.refl _) (.cons (.refl _) (.cons (.refl _) (.cons (.refl _) (.cons (.refl _) (.nil _)))))) rfl⟩
     rintro y35 H;replace H : cf y5 y7 y8 (bG F a1 n10) y35 = some r3 := H
     unfold cf at H
     refine bP (X := (List UInt8) × Nat × Int) (fun (y43, t44, y45) => ⟨[(0, slE Enc.byte a1 q2), (3, slE Enc.byte y43 (some t44)), (4, i64 y45), (5, i64 y8), (6, S y35)], [], [.tok t44 5]⟩) (fun (y43, t44, y45) => cK y8 y35 (bG F a1 n10) y43 y45 = some r3) ?_ ?_
     ·refine ah ?_;obtain ⟨g37, H⟩ := aF H;refine ab ?_;show AR _ _ _ _ _ [0, 1, 2, 3, 4] _;refine zm rfl <| zm rfl <| zS rfl (bg af rfl) <| zS rfl (bC rfl rfl g37) <| zS rfl (cF rfl rfl) <| ai <| aH rfl (fun c38 => ?_) (fun c38 => ?_)
      ·replace H := bk c38 H;refine ah ?_;obtain ⟨g40, H⟩ := aF H;obtain ⟨x41, e42, H⟩ := bi H;refine ab ?_;show AR _ _ _ _ _ [0, 1, 2, 3] _;refine zS rfl (ac (av := slE _ _ _) rfl) <| zR rfl (bm (E := Enc.byte) (bytes := 1) (xs := [.const _, .const _, .const _]) (l := ([61, 13, 10] : List UInt8)) aa (by kernel_rfl) rfl rfl (by decide) rfl rfl) <| zX rfl (bA (E := Enc.byte) (bytes := 1) 0 aa aa rfl (by kernel_rfl) rfl rfl rfl rfl g40 e42) ?_;rintro _ _ ⟨t39, rfl, rfl⟩;refine zS rfl (ao (av := slE _ _ _) rfl) <| ai <| ab ?_;show AR _ _ _ _ _ [0] _;refine za rfl <| ai ?_;exact Exists.intro (x41, t39, 0) ⟨H, ba [0] (.cons (.refl _) (.cons (.refl _) (.cons (.refl _) (.cons (.refl _) (.cons (.refl _) (.nil _)))))) rfl⟩
      ·replace H := bl c38 H;refine aJ ?_;exact Exists.intro (y5, t6, y7) ⟨H, ba [0] (.cons (.refl _) (.cons (.refl _) (.cons (.refl _) (.cons (.refl _) (.cons (.refl _) (.nil _)))))) rfl⟩
     rintro ⟨y43, t44, y45⟩ H;replace H : cK y8 y35 (bG F a1 n10) y43 y45 = some r3 := H
     unfold cK at H
     refine ah ?_;obtain ⟨g48, H⟩ := aF H;obtain ⟨x49, e50, H⟩ := bi H;refine ab ?_;show AR _ _ _ _ _ [0, 1, 2, 3] _;refine zS rfl (ac (av := slE _ _ _) rfl) <| zm rfl <| zX rfl (aY (bytes := 1) 0 aa af rfl (by kernel_rfl) rfl rfl rfl rfl g48 e50) ?_;rintro _ _ ⟨t47, rfl, rfl⟩;refine zS rfl (ao (av := slE _ _ _) rfl) <| ai ?_;obtain ⟨g51, H⟩ := aF H;refine ab ?_;show AR _ _ _ _ _ [0, 1, 2, 3, 4] _;refine zm rfl <| zm rfl <| zS rfl (bg af rfl) <| zS rfl (bC rfl rfl g51) <| za rfl <| ai ?_;exact Exists.intro (x49, t47, y45 + (y35.length : Int)) ⟨H, ba [0] (.cons (.refl _) (.cons (.refl _) (.cons (.refl _) (.cons (.refl _) (.nil _))))) rfl⟩
   rintro ⟨y52, t53, y54⟩ H;replace H : cx y8 (bG F a1 n10) y52 y54 = some r3 := H
   unfold cx at H
   obtain ⟨g56, H⟩ := aF H;refine ab ?_;show AR _ _ _ _ _ [0, 1, 2] _;refine zm rfl <| zS rfl (bC rfl rfl g56) <| za rfl <| ai ?_;exact Exists.intro (n10, y52, t53, y54, y8 + 1) ⟨H, Nat.lt_succ_self _, ba [0] (.cons (.refl _) (.cons (.refl _) (.cons (.refl _) (.cons (.refl _) (.nil _))))) rfl⟩
  ·replace H := bl c11 H;refine bQ ?_;exact Exists.intro (y5, t6) ⟨H, ba [0] (.cons (.refl _) (.nil _)) rfl⟩
 rintro ⟨y57, t58⟩ H;replace H : dr y57 = some r3 := H
 unfold dr at H
 refine ah <| ab ?_;show AR _ _ _ _ _ [0, 1] _;refine zS rfl (ac (av := slE _ _ _) rfl) <| zS rfl (ao (av := slE _ _ _) rfl) <| ai <| aP ?_;obtain rfl := ap H;exact And.intro rfl (Exists.intro _ (Exists.intro _ ⟨aR rfl (.tok _ _ _), aM [] rfl, rfl, rfl⟩))
end Go.Proofs.YtdaafnaokdigbaaGreatDoor
namespace Go.Pv
def dJ (F : Nat) (a1 : List (List UInt8)) (a3 : List (List UInt8)) (a5 : List UInt8) (a6 : List UInt8) : Option Bool :=
bnd (fJ F) fun x9 =>
grd (bw a1.length) <|
grd (bw (a1.length + ([a5] : List (List UInt8)).length)) <|
lt (a1 ++ ([a5] : List (List UInt8))) fun x15 =>
grd (bw a3.length) <|
grd (bw (a3.length + ([a6] : List (List UInt8)).length)) <|
lt (a3 ++ ([a6] : List (List UInt8))) fun x21 =>
bnd (ie F x15 x21) fun x23 =>
mC (eH F a1 a3) fun x25 x26 x27 =>
grd (bw a1.length) <|
grd (bw (a1.length + ([a5] : List (List UInt8)).length)) <|
lt (a1 ++ ([a5] : List (List UInt8))) fun x33 =>
grd (bw a3.length) <|
grd (bw (a3.length + ([a6] : List (List UInt8)).length)) <|
lt (a3 ++ ([a6] : List (List UInt8))) fun x39 =>
mC (eH F x33 x39) fun x41 x42 x43 =>
bif (((((!x9) || (!x23)) || (!decide (x27 = 0))) || (!decide (x43 = 0))) || (!decide (x26 = x42))) || (decide (6 < (a3.length : Int))) then
  some x9
else
  grd (okI ((x25.length : Int) - (x26.length : Int))) <|
  grd (okI (((x25.length : Int) - (x26.length : Int)) - 6)) <|
  gt (!(decide (((x25.length : Int) - (x26.length : Int)) - 6 < 0))) (okI ((((x25.length : Int) - (x26.length : Int)) - 6) + 2)) <|
  gt (!(decide (((x25.length : Int) - (x26.length : Int)) - 6 < 0))) (okI (((((x25.length : Int) - (x26.length : Int)) - 6) + 2) + (x26.length : Int))) <|
  gt (!((decide (((x25.length : Int) - (x26.length : Int)) - 6 < 0)) || (decide ((x41.length : Int) < ((((x25.length : Int) - (x26.length : Int)) - 6) + 2) + (x26.length : Int))))) (fP (((x25.length : Int) - (x26.length : Int)) - 6) x41.length) <|
  lt (to_ x41 (((x25.length : Int) - (x26.length : Int)) - 6)) fun x58 =>
  gt (!((decide (((x25.length : Int) - (x26.length : Int)) - 6 < 0)) || (decide ((x41.length : Int) < ((((x25.length : Int) - (x26.length : Int)) - 6) + 2) + (x26.length : Int))))) (fP (((x25.length : Int) - (x26.length : Int)) - 6) x25.length) <|
  lt (to_ x25 (((x25.length : Int) - (x26.length : Int)) - 6)) fun x61 =>
  bif ((decide (((x25.length : Int) - (x26.length : Int)) - 6 < 0)) || (decide ((x41.length : Int) < ((((x25.length : Int) - (x26.length : Int)) - 6) + 2) + (x26.length : Int)))) || (!decide (x58 = x61)) then
    some false
  else
    bnd (fQ F a6) fun x64 =>
    grd (okI ((((x25.length : Int) - (x26.length : Int)) - 6) + 2)) <|
    grd (okI (((((x25.length : Int) - (x26.length : Int)) - 6) + 2) + (x26.length : Int))) <|
    grd (kq (((x25.length : Int) - (x26.length : Int)) - 6) (((((x25.length : Int) - (x26.length : Int)) - 6) + 2) + (x26.length : Int)) x41.length) <|
    lt (sub x41 (((x25.length : Int) - (x26.length : Int)) - 6) (((((x25.length : Int) - (x26.length : Int)) - 6) + 2) + (x26.length : Int))) fun x69 =>
    grd (bw (([45, 45] : List UInt8).length + x26.length)) <|
    lt (([45, 45] : List UInt8) ++ x26) fun x72 =>
    gt (decide (x69 = x72)) (okI ((((x25.length : Int) - (x26.length : Int)) - 6) + (x64.length : Int))) <|
    some ((decide (x69 = x72)) && (decide ((((x25.length : Int) - (x26.length : Int)) - 6) + (x64.length : Int) < (x41.length : Int))))
end Go.Pv
namespace Go.Proofs.YtdaafnaokdigbaaGreatDoor
open Go.RowKit Go.Av Go.Pv
theorem mz : ∀ (args : Array Value) (w : World), (callFunc 8 args).run Tryz.prog w = .ok (.enter 8 args) w := fun _ _ => by kernel_rfl
theorem my : ∀ (args : Array Value) (w : World), (callFunc 9 args).run Tryz.prog w = .ok (.enter 9 args) w := fun _ _ => by kernel_rfl
theorem jc : ∀ (args : Array Value) (w : World), (callFunc 10 args).run Tryz.prog w = .ok (.enter 10 args) w := fun _ _ => by kernel_rfl
theorem lm : ∀ (args : Array Value) (w : World), (callFunc 19 args).run Tryz.prog w = .ok (.enter 19 args) w := fun _ _ => by kernel_rfl
set_option maxRecDepth 100000 in
set_option maxHeartbeats 1000000 in
theorem kl (F : Nat) (a1 : List (List UInt8)) (q2 : Option Nat) (a3 : List (List UInt8)) (q4 : Option Nat) (a5 : List UInt8) (a6 : List UInt8) (q7 : Option Nat) (r8 : Bool) (H : dJ F a1 a3 a5 a6 = some r8) : ACalls Tryz.prog 7 [slE Enc.str a1 q2, slE (Enc.sl Enc.byte) a3 q4, S a5, slE Enc.byte a6 q7] [] (Ret (B r8) []) := by
 unfold dJ at H
 refine ax Tryz.func7 rfl rfl ?_;show AW _ _ 130 _ _ _;refine ah <| ab ?_;show AR _ _ _ _ _ [0] _;refine za rfl <| ai <| ah ?_;obtain ⟨x9, e10, H⟩ := dz H;refine ab ?_;show AR _ _ _ _ _ [0, 1] _;refine am rfl rfl (aN rfl mz rfl (me F x9 e10) ?_);refine za rfl <| ai <| ah ?_;obtain ⟨g12, H⟩ := aF H;obtain ⟨g14, H⟩ := aF H;obtain ⟨x15, e16, H⟩ := bi H;obtain ⟨g18, H⟩ := aF H;obtain ⟨g20, H⟩ := aF H;obtain ⟨x21, e22, H⟩ := bi H;obtain ⟨x23, e24, H⟩ := dz H;refine ab ?_;show AR _ _ _ _ _ [0, 1, 2, 3, 4, 5, 6, 7, 8, 9, 10, 11] _;refine zS rfl (ac (av := slE _ _ _) rfl) <| zX rfl (fS (E := Enc.str) (bytes := 16) ar ar rfl (by kernel_rfl) rfl rfl rfl g12) ?_;rintro _ _ ⟨t11, rfl, rfl⟩;refine zm rfl <| zR rfl (bm (E := Enc.str) (bytes := 16) (xs := [.tmp 22]) (l := ([a5] : List (List UInt8))) ar (by kernel_rfl) rfl rfl (by decide) rfl rfl) <| zX rfl (bA (E := Enc.str) (bytes := 16) 0 ar ar rfl (by kernel_rfl) rfl rfl rfl rfl g14 e16) ?_;rintro _ _ ⟨t13, rfl, rfl⟩;refine zS rfl (ac (av := slE _ _ _) rfl) <| zX rfl (fS (E := (Enc.sl Enc.byte)) (bytes := 24) aq aq rfl (by kernel_rfl) rfl rfl rfl g18) ?_;rintro _ _ ⟨t17, rfl, rfl⟩
 refine zS rfl (ac (av := slE _ _ _) rfl) <| zR rfl (kB 27 (.tok _ _ _) <| bm (E := (Enc.sl Enc.byte)) (bytes := 24) (xs := [.tmp 27]) (l := ([a6] : List (List UInt8))) aq (by kernel_rfl) rfl rfl (by decide) rfl rfl) <| zX rfl (bA (E := (Enc.sl Enc.byte)) (bytes := 24) 0 aq aq rfl (by kernel_rfl) rfl rfl rfl rfl g20 e22) ?_;rintro _ _ ⟨t19, rfl, rfl⟩;refine am rfl rfl (aN rfl my rfl (nM F x15 (some t13) x21 (some t19) x23 e24) ?_);refine za rfl <| ai <| ah ?_;obtain ⟨x25, x26, x27, e28, H⟩ := iR H;refine ab ?_;show AR _ _ _ _ _ [0, 1, 2, 3, 4, 5, 6, 7, 8, 9] _;refine zS rfl (ac (av := slE _ _ _) rfl) <| zS rfl (ac (av := slE _ _ _) rfl) <| am rfl rfl (aN rfl jc rfl (gx F a1 q2 a3 q4 x25 x26 x27 e28) ?_);refine zS rfl (ac (av := .tup _) rfl) <| zS rfl (aE (av := slE _ _ _) rfl rfl) <| zS rfl (aE (av := .v _) rfl rfl) <| zS rfl (aE (av := .v _) rfl rfl) <| zS rfl (ao (av := slE _ _ _) rfl) <| za rfl <| za rfl <| ai <| ah ?_;obtain ⟨g30, H⟩ := aF H;obtain ⟨g32, H⟩ := aF H;obtain ⟨x33, e34, H⟩ := bi H;obtain ⟨g36, H⟩ := aF H;obtain ⟨g38, H⟩ := aF H;obtain ⟨x39, e40, H⟩ := bi H;obtain ⟨x41, x42, x43, e44, H⟩ := iR H;refine ab ?_;show AR _ _ _ _ _ [0, 1, 2, 3, 4, 5, 6, 7, 8, 9, 10, 11, 12, 13, 14, 15, 16, 17] _
 refine zS rfl (ac (av := slE _ _ _) rfl) <| zX rfl (fS (E := Enc.str) (bytes := 16) ar ar rfl (by kernel_rfl) rfl rfl rfl g30) ?_;rintro _ _ ⟨t29, rfl, rfl⟩;refine zm rfl <| zR rfl (bm (E := Enc.str) (bytes := 16) (xs := [.tmp 41]) (l := ([a5] : List (List UInt8))) ar (by kernel_rfl) rfl rfl (by decide) rfl rfl) <| zX rfl (bA (E := Enc.str) (bytes := 16) 0 ar ar rfl (by kernel_rfl) rfl rfl rfl rfl g32 e34) ?_;rintro _ _ ⟨t31, rfl, rfl⟩;refine zS rfl (ac (av := slE _ _ _) rfl) <| zX rfl (fS (E := (Enc.sl Enc.byte)) (bytes := 24) aq aq rfl (by kernel_rfl) rfl rfl rfl g36) ?_;rintro _ _ ⟨t35, rfl, rfl⟩;refine zS rfl (ac (av := slE _ _ _) rfl) <| zR rfl (kB 46 (.tok _ _ _) <| bm (E := (Enc.sl Enc.byte)) (bytes := 24) (xs := [.tmp 46]) (l := ([a6] : List (List UInt8))) aq (by kernel_rfl) rfl rfl (by decide) rfl rfl) <| zX rfl (bA (E := (Enc.sl Enc.byte)) (bytes := 24) 0 aq aq rfl (by kernel_rfl) rfl rfl rfl rfl g38 e40) ?_;rintro _ _ ⟨t37, rfl, rfl⟩;refine am rfl rfl (aN rfl jc rfl (gx F x33 (some t31) x39 (some t37) x41 x42 x43 e44) ?_);refine zS rfl (ac (av := .tup _) rfl) <| zS rfl (aE (av := slE _ _ _) rfl rfl) <| zS rfl (aE (av := .v _) rfl rfl) <| zS rfl (aE (av := .v _) rfl rfl) <| zS rfl (ao (av := slE _ _ _) rfl) <| za rfl <| za rfl <| ai <| ah <| ah <| ab ?_
 show AR _ _ _ _ _ [0, 1, 2, 3, 4, 5, 6, 7, 8, 9, 10, 11, 12, 13, 14, 15, 16, 17, 18, 19, 20, 21, 22, 23] _;refine zm rfl <| zS rfl (ck rfl) <| zm rfl <| aZ (l := [6, 7, 8, 9, 10, 11, 12, 13, 14, 15, 16, 17, 18, 19, 20, 21, 22, 23]) 58 (B ((!x9) || (!x23))) (fun K => ?_) ?_
 ·rcases aj (!x9) with h45 | h45
  ·refine zF h45 rfl <| zF h45 rfl <| zS rfl (aC (av := .v _) rfl h45 rfl) ?_;exact K _ 2 _ (ay (fE h45)) rfl rfl
  ·refine zM h45 rfl <| zU h45 rfl (ck rfl) <| zS rfl (aD (av := .v _) rfl h45 rfl) ?_;exact K _ 2 _ (ay (fF h45)) rfl rfl
 refine zm rfl <| aZ (l := [10, 11, 12, 13, 14, 15, 16, 17, 18, 19, 20, 21, 22, 23]) 62 (B (((!x9) || (!x23)) || (!decide (x27 = 0)))) (fun K => ?_) ?_
 ·rcases aj ((!x9) || (!x23)) with h46 | h46
  ·refine zF h46 rfl <| zF h46 rfl <| zS rfl (aC (av := .v _) rfl h46 rfl) ?_;exact K _ 2 _ (ay (fE h46)) rfl rfl
  ·refine zM h46 rfl <| zU h46 rfl (eE rfl rfl) <| zS rfl (aD (av := .v _) rfl h46 rfl) ?_;exact K _ 2 _ (ay (fF h46)) rfl rfl
 refine zm rfl <| aZ (l := [14, 15, 16, 17, 18, 19, 20, 21, 22, 23]) 66 (B ((((!x9) || (!x23)) || (!decide (x27 = 0))) || (!decide (x43 = 0)))) (fun K => ?_) ?_
 ·rcases aj (((!x9) || (!x23)) || (!decide (x27 = 0))) with h47 | h47
  ·refine zF h47 rfl <| zF h47 rfl <| zS rfl (aC (av := .v _) rfl h47 rfl) ?_;exact K _ 2 _ (ay (fE h47)) rfl rfl
  ·refine zM h47 rfl <| zU h47 rfl (eE rfl rfl) <| zS rfl (aD (av := .v _) rfl h47 rfl) ?_;exact K _ 2 _ (ay (fF h47)) rfl rfl
 refine zm rfl <| aZ (l := [19, 20, 21, 22, 23]) 71 (B (((((!x9) || (!x23)) || (!decide (x27 = 0))) || (!decide (x43 = 0))) || (!decide (x26 = x42)))) (fun K => ?_) ?_
 ·rcases aj ((((!x9) || (!x23)) || (!decide (x27 = 0))) || (!decide (x43 = 0))) with h48 | h48
  ·refine zF h48 rfl <| zF h48 rfl <| zF h48 rfl <| zS rfl (aC (av := .v _) rfl h48 rfl) ?_;exact K _ 3 _ (ay (fE h48)) rfl rfl
  ·refine zM h48 rfl <| zM h48 rfl <| zU h48 rfl (fX rfl rfl) <| zS rfl (aD (av := .v _) rfl h48 rfl) ?_;exact K _ 3 _ (ay (fF h48)) rfl rfl
 refine zm rfl <| aZ (l := []) 76 (B ((((((!x9) || (!x23)) || (!decide (x27 = 0))) || (!decide (x43 = 0))) || (!decide (x26 = x42))) || (decide (6 < (a3.length : Int))))) (fun K => ?_) ?_
 ·rcases aj (((((!x9) || (!x23)) || (!decide (x27 = 0))) || (!decide (x43 = 0))) || (!decide (x26 = x42))) with h49 | h49
  ·refine zF h49 rfl <| zF h49 rfl <| zF h49 rfl <| zS rfl (aC (av := .v _) rfl h49 rfl) ?_;exact K _ 3 _ (ay (fE h49)) rfl rfl
  ·refine zU h49 rfl (ac (av := slE _ _ _) rfl) <| zU h49 rfl (aG aq rfl) <| zU h49 rfl (cF rfl rfl) <| zS rfl (aD (av := .v _) rfl h49 rfl) ?_;exact K _ 3 _ (ay (fF h49)) rfl rfl
 refine ai <| aH rfl (fun c50 => ?_) (fun c50 => ?_)
 ·replace H := bk c50 H;refine ah <| ab ?_;show AR _ _ _ _ _ [0, 1] _;refine zm rfl <| za rfl <| ai <| aP ?_;obtain rfl := ap H;exact And.intro rfl (Exists.intro _ (Exists.intro _ ⟨aR rfl (.refl _), aM [] rfl, rfl, rfl⟩))
 ·replace H := bl c50 H;refine aJ <| ah ?_;obtain ⟨g51, H⟩ := aF H;obtain ⟨g52, H⟩ := aF H;refine ab ?_;show AR _ _ _ _ _ [0, 1, 2, 3, 4, 5, 6] _;refine zS rfl (ac (av := slE _ _ _) rfl) <| zS rfl (aG aa rfl) <| zm rfl <| zS rfl (bg af rfl) <| zS rfl (kt rfl rfl g51) <| zS rfl (kt rfl rfl g52) <| za rfl <| ai <| ah <| ah ?_;obtain ⟨g54, H⟩ := eA H;obtain ⟨g55, H⟩ := eA H;obtain ⟨g57, H⟩ := eA H;obtain ⟨x58, e59, H⟩ := bi H;obtain ⟨g60, H⟩ := eA H;obtain ⟨x61, e62, H⟩ := bi H;refine bH (by kernel_rfl) ?_;show AI _ _ _ _ _ 23 (Array.replicate 23 false) _;refine zk 0 rfl (mv rfl) ?_;show AI _ _ _ _ _ _ #[true, false, false, false, false, false, false, false, false, false, false, false, false, false, false, false, false, false, false, false, false, false, false] _;refine zk 1 rfl (bI rfl rfl) ?_;show AI _ _ _ _ _ _ #[true, true, false, false, false, false, false, false, false, false, false, false, false, false, false, false, false, false, false, false, false, false, false] _;refine zk 2 rfl (mv rfl) ?_;show AI _ _ _ _ _ _ #[true, true, true, false, false, false, false, false, false, false, false, false, false, false, false, false, false, false, false, false, false, false, false] _
  refine AI.meet 11 #[true, true, true, true, true, true, true, true, true, true, true, true, false, false, false, false, false, false, false, false, false, false, false] 95 (B ((decide (((x25.length : Int) - (x26.length : Int)) - 6 < 0)) || (decide ((x41.length : Int) < ((((x25.length : Int) - (x26.length : Int)) - 6) + 2) + (x26.length : Int))))) (fun K11 => ?_) ?_
  ·refine mR (t := 86) rfl (fun h53 => ?_) (fun h53 => ?_)
   ·refine cu (i := 3) rfl rfl (by kernel_rfl) (by kernel_rfl) (by kernel_rfl) rfl rfl rfl (fun _ _ h => h) h53 ?_;show AI _ _ _ _ _ _ #[true, true, true, true, false, false, false, false, false, false, false, false, false, false, false, false, false, false, false, false, false, false, false] _;refine cu (i := 4) rfl rfl (by kernel_rfl) (by kernel_rfl) (by kernel_rfl) rfl rfl rfl (fun _ _ h => h) h53 ?_;show AI _ _ _ _ _ _ #[true, true, true, true, true, false, false, false, false, false, false, false, false, false, false, false, false, false, false, false, false, false, false] _;refine cu (i := 5) rfl rfl (by kernel_rfl) (by kernel_rfl) (by kernel_rfl) rfl rfl rfl (fun _ _ h => h) h53 ?_;show AI _ _ _ _ _ _ #[true, true, true, true, true, true, false, false, false, false, false, false, false, false, false, false, false, false, false, false, false, false, false] _;refine cu (i := 6) rfl rfl (by kernel_rfl) (by kernel_rfl) (by kernel_rfl) rfl rfl rfl (fun _ _ h => h) h53 ?_;show AI _ _ _ _ _ _ #[true, true, true, true, true, true, true, false, false, false, false, false, false, false, false, false, false, false, false, false, false, false, false] _;refine cu (i := 7) rfl rfl (by kernel_rfl) (by kernel_rfl) (by kernel_rfl) rfl rfl rfl (fun _ _ h => h) h53 ?_;show AI _ _ _ _ _ _ #[true, true, true, true, true, true, true, true, false, false, false, false, false, false, false, false, false, false, false, false, false, false, false] _;refine cu (i := 8) rfl rfl (by kernel_rfl) (by kernel_rfl) (by kernel_rfl) rfl rfl rfl (fun _ _ h => h) h53 ?_
    show AI _ _ _ _ _ _ #[true, true, true, true, true, true, true, true, true, false, false, false, false, false, false, false, false, false, false, false, false, false, false] _;refine cu (i := 9) rfl rfl (by kernel_rfl) (by kernel_rfl) (by kernel_rfl) rfl rfl rfl (fun _ _ h => h) h53 ?_;show AI _ _ _ _ _ _ #[true, true, true, true, true, true, true, true, true, true, false, false, false, false, false, false, false, false, false, false, false, false, false] _;refine cu (i := 10) rfl rfl (by kernel_rfl) (by kernel_rfl) (by kernel_rfl) rfl rfl rfl (fun _ _ h => h) h53 ?_;show AI _ _ _ _ _ _ #[true, true, true, true, true, true, true, true, true, true, true, false, false, false, false, false, false, false, false, false, false, false, false] _;refine zk 11 rfl (cM (av' := B ((decide (((x25.length : Int) - (x26.length : Int)) - 6 < 0)) || (decide ((x41.length : Int) < ((((x25.length : Int) - (x26.length : Int)) - 6) + 2) + (x26.length : Int))))) (aC (av := .v _) rfl h53 rfl) (ay (fE h53))) ?_;show AI _ _ _ _ _ _ #[true, true, true, true, true, true, true, true, true, true, true, true, false, false, false, false, false, false, false, false, false, false, false] _;exact K11 _ 8 rfl rfl
   ·refine cr (i := 3) rfl rfl (by kernel_rfl) (by kernel_rfl) (by kernel_rfl) rfl rfl rfl (fun _ _ h => h) h53 (ac (av := slE _ _ _) rfl) ?_;show AI _ _ _ _ _ _ #[true, true, true, true, false, false, false, false, false, false, false, false, false, false, false, false, false, false, false, false, false, false, false] _;refine cr (i := 4) rfl rfl (by kernel_rfl) (by kernel_rfl) (by kernel_rfl) rfl rfl rfl (fun _ _ h => h) h53 (aG aa rfl) ?_;show AI _ _ _ _ _ _ #[true, true, true, true, true, false, false, false, false, false, false, false, false, false, false, false, false, false, false, false, false, false, false] _;refine cr (i := 5) rfl rfl (by kernel_rfl) (by kernel_rfl) (by kernel_rfl) rfl rfl rfl (fun _ _ h => h) h53 (mv rfl) ?_;show AI _ _ _ _ _ _ #[true, true, true, true, true, true, false, false, false, false, false, false, false, false, false, false, false, false, false, false, false, false, false] _;refine cr (i := 6) rfl rfl (by kernel_rfl) (by kernel_rfl) (by kernel_rfl) rfl rfl rfl (fun _ _ h => h) h53 (bC rfl rfl (g54 (nf h53))) ?_;show AI _ _ _ _ _ _ #[true, true, true, true, true, true, true, false, false, false, false, false, false, false, false, false, false, false, false, false, false, false, false] _;refine cr (i := 7) rfl rfl (by kernel_rfl) (by kernel_rfl) (by kernel_rfl) rfl rfl rfl (fun _ _ h => h) h53 (mv rfl) ?_;show AI _ _ _ _ _ _ #[true, true, true, true, true, true, true, true, false, false, false, false, false, false, false, false, false, false, false, false, false, false, false] _
    refine cr (i := 8) rfl rfl (by kernel_rfl) (by kernel_rfl) (by kernel_rfl) rfl rfl rfl (fun _ _ h => h) h53 (bg af rfl) ?_;show AI _ _ _ _ _ _ #[true, true, true, true, true, true, true, true, true, false, false, false, false, false, false, false, false, false, false, false, false, false, false] _;refine cr (i := 9) rfl rfl (by kernel_rfl) (by kernel_rfl) (by kernel_rfl) rfl rfl rfl (fun _ _ h => h) h53 (bC rfl rfl (g55 (nf h53))) ?_;show AI _ _ _ _ _ _ #[true, true, true, true, true, true, true, true, true, true, false, false, false, false, false, false, false, false, false, false, false, false, false] _;refine cr (i := 10) rfl rfl (by kernel_rfl) (by kernel_rfl) (by kernel_rfl) rfl rfl rfl (fun _ _ h => h) h53 (bI rfl rfl) ?_;show AI _ _ _ _ _ _ #[true, true, true, true, true, true, true, true, true, true, true, false, false, false, false, false, false, false, false, false, false, false, false] _;refine zk 11 rfl (cM (av' := B ((decide (((x25.length : Int) - (x26.length : Int)) - 6 < 0)) || (decide ((x41.length : Int) < ((((x25.length : Int) - (x26.length : Int)) - 6) + 2) + (x26.length : Int))))) (aD (av := .v _) rfl h53 rfl) (ay (fF h53))) ?_;show AI _ _ _ _ _ _ #[true, true, true, true, true, true, true, true, true, true, true, true, false, false, false, false, false, false, false, false, false, false, false] _;exact K11 _ 8 rfl rfl
  refine zk 12 rfl (mv rfl) ?_;show AI _ _ _ _ _ _ #[true, true, true, true, true, true, true, true, true, true, true, true, true, false, false, false, false, false, false, false, false, false, false] _;refine AI.meet 0 #[true, true, true, true, true, true, true, true, true, true, true, true, true, true, true, true, true, true, true, true, true, true, true] 106 (B (((decide (((x25.length : Int) - (x26.length : Int)) - 6 < 0)) || (decide ((x41.length : Int) < ((((x25.length : Int) - (x26.length : Int)) - 6) + 2) + (x26.length : Int)))) || (!decide (x58 = x61)))) (fun K22 => ?_) ?_
  ·refine mR (t := 96) rfl (fun h56 => ?_) (fun h56 => ?_)
   ·refine cu (i := 13) rfl rfl (by kernel_rfl) (by kernel_rfl) (by kernel_rfl) rfl rfl rfl (fun _ _ h => h) h56 ?_;show AI _ _ _ _ _ _ #[true, true, true, true, true, true, true, true, true, true, true, true, true, true, false, false, false, false, false, false, false, false, false] _;refine cu (i := 14) rfl rfl (by kernel_rfl) (by kernel_rfl) (by kernel_rfl) rfl rfl rfl (fun _ _ h => h) h56 ?_;show AI _ _ _ _ _ _ #[true, true, true, true, true, true, true, true, true, true, true, true, true, true, true, false, false, false, false, false, false, false, false] _;refine cu (i := 15) rfl rfl (by kernel_rfl) (by kernel_rfl) (by kernel_rfl) rfl rfl rfl (fun _ _ h => h) h56 ?_;show AI _ _ _ _ _ _ #[true, true, true, true, true, true, true, true, true, true, true, true, true, true, true, true, false, false, false, false, false, false, false] _;refine cu (i := 16) rfl rfl (by kernel_rfl) (by kernel_rfl) (by kernel_rfl) rfl rfl rfl (fun _ _ h => h) h56 ?_;show AI _ _ _ _ _ _ #[true, true, true, true, true, true, true, true, true, true, true, true, true, true, true, true, true, false, false, false, false, false, false] _;refine cu (i := 17) rfl rfl (by kernel_rfl) (by kernel_rfl) (by kernel_rfl) rfl rfl rfl (fun _ _ h => h) h56 ?_;show AI _ _ _ _ _ _ #[true, true, true, true, true, true, true, true, true, true, true, true, true, true, true, true, true, true, false, false, false, false, false] _;refine cu (i := 18) rfl rfl (by kernel_rfl) (by kernel_rfl) (by kernel_rfl) rfl rfl rfl (fun _ _ h => h) h56 ?_
    show AI _ _ _ _ _ _ #[true, true, true, true, true, true, true, true, true, true, true, true, true, true, true, true, true, true, true, false, false, false, false] _;refine cu (i := 19) rfl rfl (by kernel_rfl) (by kernel_rfl) (by kernel_rfl) rfl rfl rfl (fun _ _ h => h) h56 ?_;show AI _ _ _ _ _ _ #[true, true, true, true, true, true, true, true, true, true, true, true, true, true, true, true, true, true, true, true, false, false, false] _;refine cu (i := 20) rfl rfl (by kernel_rfl) (by kernel_rfl) (by kernel_rfl) rfl rfl rfl (fun _ _ h => h) h56 ?_;show AI _ _ _ _ _ _ #[true, true, true, true, true, true, true, true, true, true, true, true, true, true, true, true, true, true, true, true, true, false, false] _;refine cu (i := 21) rfl rfl (by kernel_rfl) (by kernel_rfl) (by kernel_rfl) rfl rfl rfl (fun _ _ h => h) h56 ?_;show AI _ _ _ _ _ _ #[true, true, true, true, true, true, true, true, true, true, true, true, true, true, true, true, true, true, true, true, true, true, false] _;refine zk 22 rfl (cM (av' := B (((decide (((x25.length : Int) - (x26.length : Int)) - 6 < 0)) || (decide ((x41.length : Int) < ((((x25.length : Int) - (x26.length : Int)) - 6) + 2) + (x26.length : Int)))) || (!decide (x58 = x61)))) (aC (av := .v _) rfl h56 rfl) (ay (fE h56))) ?_;show AI _ _ _ _ _ _ #[true, true, true, true, true, true, true, true, true, true, true, true, true, true, true, true, true, true, true, true, true, true, true] _;exact K22 _ 9 rfl rfl
   ·refine cr (i := 13) rfl rfl (by kernel_rfl) (by kernel_rfl) (by kernel_rfl) rfl rfl rfl (fun _ _ h => h) h56 (ac (av := slE _ _ _) rfl) ?_;show AI _ _ _ _ _ _ #[true, true, true, true, true, true, true, true, true, true, true, true, true, true, false, false, false, false, false, false, false, false, false] _;refine cr (i := 14) rfl rfl (by kernel_rfl) (by kernel_rfl) (by kernel_rfl) rfl rfl rfl (fun _ _ h => h) h56 (mv rfl) ?_;show AI _ _ _ _ _ _ #[true, true, true, true, true, true, true, true, true, true, true, true, true, true, true, false, false, false, false, false, false, false, false] _;refine cr (i := 15) rfl rfl (by kernel_rfl) (by kernel_rfl) (by kernel_rfl) rfl rfl rfl (fun _ _ h => h) h56 (jw (E := Enc.byte) aa (by kernel_rfl) rfl rfl (g57 (nf h56)) e59) ?_;show AI _ _ _ _ _ _ #[true, true, true, true, true, true, true, true, true, true, true, true, true, true, true, true, false, false, false, false, false, false, false] _;refine cr (i := 16) rfl rfl (by kernel_rfl) (by kernel_rfl) (by kernel_rfl) rfl rfl rfl (fun _ _ h => h) h56 (bD aa aB af rfl) ?_;show AI _ _ _ _ _ _ #[true, true, true, true, true, true, true, true, true, true, true, true, true, true, true, true, true, false, false, false, false, false, false] _;refine cr (i := 17) rfl rfl (by kernel_rfl) (by kernel_rfl) (by kernel_rfl) rfl rfl rfl (fun _ _ h => h) h56 (ac (av := slE _ _ _) rfl) ?_
    show AI _ _ _ _ _ _ #[true, true, true, true, true, true, true, true, true, true, true, true, true, true, true, true, true, true, false, false, false, false, false] _;refine cr (i := 18) rfl rfl (by kernel_rfl) (by kernel_rfl) (by kernel_rfl) rfl rfl rfl (fun _ _ h => h) h56 (mv rfl) ?_;show AI _ _ _ _ _ _ #[true, true, true, true, true, true, true, true, true, true, true, true, true, true, true, true, true, true, true, false, false, false, false] _;refine cr (i := 19) rfl rfl (by kernel_rfl) (by kernel_rfl) (by kernel_rfl) rfl rfl rfl (fun _ _ h => h) h56 (jw (E := Enc.byte) aa (by kernel_rfl) rfl rfl (g60 (nf h56)) e62) ?_;show AI _ _ _ _ _ _ #[true, true, true, true, true, true, true, true, true, true, true, true, true, true, true, true, true, true, true, true, false, false, false] _;refine cr (i := 20) rfl rfl (by kernel_rfl) (by kernel_rfl) (by kernel_rfl) rfl rfl rfl (fun _ _ h => h) h56 (bD aa aB af rfl) ?_;show AI _ _ _ _ _ _ #[true, true, true, true, true, true, true, true, true, true, true, true, true, true, true, true, true, true, true, true, true, false, false] _;refine cr (i := 21) rfl rfl (by kernel_rfl) (by kernel_rfl) (by kernel_rfl) rfl rfl rfl (fun _ _ h => h) h56 (fX rfl rfl) ?_;show AI _ _ _ _ _ _ #[true, true, true, true, true, true, true, true, true, true, true, true, true, true, true, true, true, true, true, true, true, true, false] _
    refine zk 22 rfl (cM (av' := B (((decide (((x25.length : Int) - (x26.length : Int)) - 6 < 0)) || (decide ((x41.length : Int) < ((((x25.length : Int) - (x26.length : Int)) - 6) + 2) + (x26.length : Int)))) || (!decide (x58 = x61)))) (aD (av := .v _) rfl h56 rfl) (ay (fF h56))) ?_;show AI _ _ _ _ _ _ #[true, true, true, true, true, true, true, true, true, true, true, true, true, true, true, true, true, true, true, true, true, true, true] _;exact K22 _ 9 rfl rfl
  refine br rfl <| aH rfl (fun c63 => ?_) (fun c63 => ?_)
  ·replace H := bk c63 H;refine ah <| ab ?_;show AR _ _ _ _ _ [0] _;refine za rfl <| ai <| aP ?_;obtain rfl := ap H;exact And.intro rfl (Exists.intro _ (Exists.intro _ ⟨aR rfl (.refl _), aM [] rfl, rfl, rfl⟩))
  ·replace H := bl c63 H;refine aJ <| ah ?_;obtain ⟨x64, e65, H⟩ := dz H;refine ab ?_;show AR _ _ _ _ _ [0, 1, 2] _;refine zS rfl (ac (av := slE _ _ _) rfl) <| am rfl rfl (aN rfl lm rfl (lf F a6 q7 x64 e65) ?_);refine zS rfl (ao (av := slE _ _ _) rfl) <| ai <| ah ?_;obtain ⟨g66, H⟩ := aF H;obtain ⟨g67, H⟩ := aF H;obtain ⟨g68, H⟩ := aF H;obtain ⟨x69, e70, H⟩ := bi H;obtain ⟨g71, H⟩ := aF H;obtain ⟨x72, e73, H⟩ := bi H;obtain ⟨g75, H⟩ := eA H;refine ab ?_;show AR _ _ _ _ _ [0, 1, 2, 3, 4, 5, 6, 7, 8, 9, 10, 11, 12, 13, 14, 15, 16, 17, 18, 19, 20, 21] _;refine zS rfl (ac (av := slE _ _ _) rfl) <| zm rfl <| zm rfl <| zS rfl (bC rfl rfl g66) <| zm rfl <| zS rfl (bg af rfl) <| zS rfl (bC rfl rfl g67) <| zS rfl (lD (E := Enc.byte) aa (by kernel_rfl) rfl rfl rfl g68 e70) <| zS rfl (bD aa aB af rfl) <| zm rfl <| zS rfl (da rfl rfl g71 e73) <| zS rfl (iO rfl rfl) <| zm rfl <| aZ (l := [21]) 129 (B ((decide (x69 = x72)) && (decide ((((x25.length : Int) - (x26.length : Int)) - 6) + (x64.length : Int) < (x41.length : Int))))) (fun K => ?_) ?_
   ·rcases aj (decide (x69 = x72)) with h74 | h74
    ·refine zU h74 rfl (ac (av := slE _ _ _) rfl) <| zU h74 rfl (aG aa rfl) <| zM h74 rfl <| zU h74 rfl (ac (av := slE _ _ _) rfl) <| zU h74 rfl (aG aa rfl) <| zU h74 rfl (bC rfl rfl (g75 h74)) <| zU h74 rfl (cF rfl rfl) <| zS rfl (aC (av := .v _) rfl h74 rfl) ?_;exact K _ 7 _ (ay (cH h74)) rfl rfl
    ·refine zF h74 rfl <| zF h74 rfl <| zF h74 rfl <| zF h74 rfl <| zF h74 rfl <| zF h74 rfl <| zF h74 rfl <| zS rfl (aD (av := .v _) rfl h74 rfl) ?_;exact K _ 7 _ (ay (cI h74)) rfl rfl
   refine za rfl <| ai <| aP ?_;obtain rfl := ap H;exact And.intro rfl (Exists.intro _ (Exists.intro _ ⟨aR rfl (.refl _), aM [] rfl, rfl, rfl⟩))
end Go.Proofs.YtdaafnaokdigbaaGreatDoor
namespace Go.Hd
open Go.Pv Go.Av
abbrev Bs := List UInt8
def sp (c : UInt8) : Bs → List Bs
  | [] => [[]]
  | b :: r => if b = c then [] :: sp c r else match sp c r with
    | [] => [[b]]
    | p :: ps => (b :: p) :: ps
theorem sp_ne (c : UInt8) (s : Bs) : sp c s ≠ [] := by
  cases s with
  | nil => simp [sp]
  | cons b r => unfold sp; split; simp; split <;> simp
theorem ll (b c : UInt8) (l : Bs) : Go.Lib.index (b :: l) [c] = if b = c then 0 else if Go.Lib.index l [c] = -1 then -1 else Go.Lib.index l [c] + 1 := by
  by_cases h : b = c
  · subst h; simp [Go.Lib.index]
  · simp [Go.Lib.index, h, Ne.symm h]
def prep (cur : Bs) : List Bs → List Bs
  | [] => [cur]
  | p :: ps => (cur ++ p) :: ps
theorem jJ {b c : UInt8} (h : ¬ b = c) (r : Bs) : sp c (b :: r) = prep [b] (sp c r) := by
  simp only [sp, h, if_false]
  cases sp c r <;> rfl
theorem jK (c : UInt8) (r : Bs) : sp c (c :: r) = [] :: sp c r := by simp [sp]
theorem mG (c : UInt8) : ∀ (s : Bs), Go.Lib.splitK [c] 0 (s.count c) s = sp c s
  | [] => rfl
  | b :: l => by
    have ih := mG c l
    have hi := ll b c l
    have hge := Go.Lib.index_ge l [c]
    by_cases h : b = c
    · subst h
      rw [List.count_cons_self, jK, Go.Lib.splitK, hi]
      simp [ih]
    · rw [List.count_cons_of_ne h, jJ h, ← ih]
      cases hk : l.count c with
      | zero => simp [Go.Lib.splitK, prep]
      | succ k =>
        rw [Go.Lib.splitK, Go.Lib.splitK, hi]
        simp only [h, if_false]
        by_cases hm : Go.Lib.index l [c] = -1
        · simp [hm, prep]
        · obtain ⟨j, hj⟩ := Int.eq_ofNat_of_zero_le (show 0 ≤ Go.Lib.index l [c] by omega)
          have h2 : ¬ (Go.Lib.index l [c] + 1 = -1) := by omega
          have h3 : (Go.Lib.index l [c] + 1).toNat = j + 1 := by omega
          have h4 : (Go.Lib.index l [c]).toNat = j := by omega
          simp [hm, h2, h3, h4, prep]
theorem qQ (s : Bs) (c : UInt8) : Go.Lib.split s [c] = sp c s := by
  unfold Go.Lib.split
  rw [Go.Lib.count_one, mG]
theorem mH (c : UInt8) (s : Bs) : (sp c s).length ≤ s.length + 1 := by
  induction s with
  | nil => simp [sp]
  | cons b r ih =>
    by_cases h : b = c
    · subst h; rw [jK]; simp; omega
    · rw [jJ h]
      cases hs : sp c r with
      | nil => simp [prep]
      | cons p ps => rw [hs] at ih; simp [prep] at ih ⊢; omega
theorem oH (c : UInt8) (s : Bs) : Str.total (sp c s) + (sp c s).length = s.length + 1 := by
  induction s with
  | nil => simp [sp, Str.total]
  | cons b r ih =>
    by_cases h : b = c
    · subst h; rw [jK]; simp [Str.total]; omega
    · rw [jJ h]
      cases hs : sp c r with
      | nil => exact absurd hs (sp_ne c r)
      | cons p ps => rw [hs] at ih; simp [prep, Str.total] at ih ⊢; omega
end Go.Hd
namespace Go.Hd
open Go.Pv Go.Av
theorem ee (p : UInt8 → Bool) (h : ∀ k : Fin 256, p (UInt8.ofNat k.val) = true) (b : UInt8) : p b = true := by
  have := h ⟨b.toNat, b.toNat_lt⟩
  simpa using this
theorem jq (x : Int) (h0 : 0 ≤ x) (h1 : x < 18446744073709551616) : IntKind.u64.wrap x = x := by
  have : IntKind.u64.wrap x = x % 18446744073709551616 := rfl
  rw [this]; omega
theorem bvn (n : Nat) (h : n < 2 ^ 64) : (BitVec.ofInt 64 (n : Int)).toNat = n := by
  rw [BitVec.ofInt_natCast, BitVec.toNat_ofNat]; exact Nat.mod_eq_of_lt h
theorem or_two (a b k : Nat) (ha : a * 2 ^ k < 2 ^ 64) (hb : b < 2 ^ k) (hk : b < 2 ^ 64) : (BitVec.ofInt IntKind.u64.bits ((a * 2 ^ k : Nat) : Int) ||| BitVec.ofInt IntKind.u64.bits (b : Int)).toNat = a * 2 ^ k + b := by
  show (BitVec.ofInt 64 ((a * 2 ^ k : Nat) : Int) ||| BitVec.ofInt 64 (b : Int)).toNat = _
  rw [BitVec.toNat_or, bvn _ ha, bvn _ hk, ← Nat.shiftLeft_eq, Nat.shiftLeft_add_eq_or_of_lt hb]
theorem and_63 (a : Nat) (ha : a < 2 ^ 64) : (BitVec.ofInt IntKind.u64.bits (a : Int) &&& BitVec.ofInt IntKind.u64.bits 63).toNat = a % 64 := by
  show (BitVec.ofInt 64 (a : Int) &&& BitVec.ofInt 64 ((63 : Nat) : Int)).toNat = _
  rw [BitVec.toNat_and, bvn _ ha, bvn _ (by decide)]
  exact Nat.and_two_pow_sub_one_eq_mod a 6
def q3 (a b c : Nat) : Nat := a * 65536 + b * 256 + c
def ch (n : Nat) : UInt8 := b64_k1.getD n default
theorem val3 (a b c : UInt8) : IntKind.u64.wrap ((BitVec.ofInt IntKind.u64.bits (IntKind.u64.wrap ((BitVec.ofInt IntKind.u64.bits (IntKind.u64.wrap ((IntKind.u64.wrap (a.toNat : Int)) * 2 ^ min (Int.toNat 16) IntKind.u64.bits)) ||| BitVec.ofInt IntKind.u64.bits (IntKind.u64.wrap ((IntKind.u64.wrap (b.toNat : Int)) * 2 ^ min (Int.toNat 8) IntKind.u64.bits))).toNat)) ||| BitVec.ofInt IntKind.u64.bits (IntKind.u64.wrap (c.toNat : Int))).toNat) = (q3 a.toNat b.toNat c.toNat : Int) := by
  have ha := a.toNat_lt
  have hb := b.toNat_lt
  have hc := c.toNat_lt
  have e16 : (2 : Int) ^ min (Int.toNat 16) IntKind.u64.bits = 65536 := by decide +kernel
  have e8 : (2 : Int) ^ min (Int.toNat 8) IntKind.u64.bits = 256 := by decide +kernel
  rw [e16, e8, jq a.toNat (by omega) (by omega), jq b.toNat (by omega) (by omega), jq c.toNat (by omega) (by omega)]
  rw [jq ((a.toNat : Int) * 65536) (by omega) (by omega), jq ((b.toNat : Int) * 256) (by omega) (by omega)]
  have e1 : (a.toNat : Int) * 65536 = ((a.toNat * 2 ^ 16 : Nat) : Int) := by omega
  have e2 : (b.toNat : Int) * 256 = ((b.toNat * 256 : Nat) : Int) := by omega
  rw [e1, e2, or_two a.toNat (b.toNat * 256) 16 (by omega) (by omega) (by omega)]
  rw [jq ((a.toNat * 2 ^ 16 + b.toNat * 256 : Nat) : Int) (by omega) (by omega)]
  have e3 : a.toNat * 2 ^ 16 + b.toNat * 256 = (a.toNat * 256 + b.toNat) * 2 ^ 8 := by omega
  rw [e3, or_two (a.toNat * 256 + b.toNat) c.toNat 8 (by omega) (by omega) (by omega)]
  rw [jq (((a.toNat * 256 + b.toNat) * 2 ^ 8 + c.toNat : Nat) : Int) (by omega) (by omega)]
  unfold q3; omega
theorem idx6 (s : Nat) (v : Nat) (hv : v < 16777216) (hs : s ≤ 18) : IntKind.u64.wrap ((BitVec.ofInt IntKind.u64.bits (Int.fdiv (v : Int) (2 ^ min s IntKind.u64.bits)) &&& BitVec.ofInt IntKind.u64.bits 63).toNat) = ((v / 2 ^ s % 64 : Nat) : Int) := by
  have e : min s IntKind.u64.bits = s := by show min s 64 = s; omega
  have e2 : Int.fdiv (v : Int) (2 ^ s) = ((v / 2 ^ s : Nat) : Int) := by
    have : ((2 : Int) ^ s) = ((2 ^ s : Nat) : Int) := by simp
    rw [this, Int.fdiv_eq_ediv_of_nonneg _ (Int.natCast_nonneg _)]; rfl
  have h1 : v / 2 ^ s ≤ v := Nat.div_le_self _ _
  rw [e, e2, and_63 _ (by omega), jq _ (by omega) (by omega)]
theorem qq : b64_k1.length = 64 := by decide +kernel
theorem rk_eq : headr_k1 = b64_k1 := by decide +kernel
theorem at_ch (n : Nat) : at_ b64_k1 (n : Int) = ch n := by
  unfold at_ ch; rw [Int.toNat_natCast]
def four (a b c : UInt8) : Bs := let v := q3 a.toNat b.toNat c.toNat; [ch (v / 262144), ch (v / 4096 % 64), ch (v / 64 % 64), ch (v % 64)]
def enc : Bs → Bs
  | a :: b :: c :: r => four a b c ++ enc r
  | [a, b] => (four a b 0).take 3 ++ [61]
  | [a] => (four a 0 0).take 2 ++ [61, 61]
  | [] => []
theorem nw : ∀ s : Bs, (enc s).length ≤ 2 * s.length + 2
  | a :: b :: c :: r => by
    have := nw r
    simp [enc, four]; omega
  | [a, b] => by simp [enc, four]
  | [a] => by simp [enc, four]
  | [] => by simp [enc]
theorem q3_lt (a b c : UInt8) : q3 a.toNat b.toNat c.toNat < 16777216 := by
  have ha := a.toNat_lt
  have hb := b.toNat_lt
  have hc := c.toNat_lt
  unfold q3; omega
theorem lO (F : Nat) (s : Bs) (a b c : UInt8) (hs : s.length ≤ 3) (h : cpyB [0, 0, 0] s = [a, b, c]) :
    fv F s = some (ch (q3 a.toNat b.toNat c.toNat / 262144), bif decide ((s.length : Int) < 1) then 61 else ch (q3 a.toNat b.toNat c.toNat / 4096 % 64), bif decide ((s.length : Int) < 2) then 61 else ch (q3 a.toNat b.toNat c.toNat / 64 % 64), bif decide ((s.length : Int) < 3) then 61 else ch (q3 a.toNat b.toNat c.toNat % 64)) := by
  have hq := q3_lt a b c
  unfold fv
  rw [grd_D hs, bj, h]
  have g0 : ([a, b, c].getD 0 0) = a := rfl
  have g1 : ([a, b, c].getD 1 0) = b := rfl
  have g2 : ([a, b, c].getD 2 0) = c := rfl
  unfold dW dX dY dZ fi
  rw [g0, g1, g2, val3]
  have d16 : (decide ((0 : Int) ≤ 16)) = true := rfl
  have i18 := idx6 (Int.toNat 18) _ hq (by decide)
  have i12 := idx6 (Int.toNat 12) _ hq (by decide)
  have i6 := idx6 (Int.toNat 6) _ hq (by decide)
  have i0 := idx6 (Int.toNat 0) _ hq (by decide)
  rw [i18, i12, i6, i0]
  have k : ∀ n : Nat, cE ((n % 64 : Nat) : Int) b64_k1.length = true := fun n => by rw [qq]; exact decide_eq_true (by omega)
  have e18 : q3 a.toNat b.toNat c.toNat / 2 ^ Int.toNat 18 % 64 = q3 a.toNat b.toNat c.toNat / 262144 := by
    show q3 a.toNat b.toNat c.toNat / 262144 % 64 = _; omega
  have e12 : q3 a.toNat b.toNat c.toNat / 2 ^ Int.toNat 12 % 64 = q3 a.toNat b.toNat c.toNat / 4096 % 64 := rfl
  have e6 : q3 a.toNat b.toNat c.toNat / 2 ^ Int.toNat 6 % 64 = q3 a.toNat b.toNat c.toNat / 64 % 64 := rfl
  have e0 : q3 a.toNat b.toNat c.toNat / 2 ^ Int.toNat 0 % 64 = q3 a.toNat b.toNat c.toNat % 64 := by
    show q3 a.toNat b.toNat c.toNat / 1 % 64 = _; omega
  have k2 : cE ((q3 a.toNat b.toNat c.toNat / 262144 : Nat) : Int) b64_k1.length = true := by rw [qq]; exact decide_eq_true (by omega)
  simp (disch := first | omega | decide) only [grd_D, k, lZ, bj, at_ch, e18, e12, e6, e0, k2]
  rw [bF (by omega)]
  by_cases h1 : (s.length : Int) < 1
  · simp (disch := omega) only [bT]
  · by_cases h2 : (s.length : Int) < 2
    · simp (disch := omega) only [bT, bF]
    · by_cases h3 : (s.length : Int) < 3
      · simp (disch := omega) only [bT, bF]
      · simp (disch := omega) only [bF]
theorem raw_loop (F : Nat) : ∀ (n : Nat) (s out : Bs), s.length < n → out.length + 4 * s.length + 10 ≤ 100000000 → fr F n (s, out) = some (out ++ enc s) := by
  intro n
  induction n with
  | zero => intro s out h; omega
  | succ n ih =>
    intro s out hn hl;show gj F (fr F n) s out = _
    unfold gj
    have key : ∀ (p r g : Bs) (a b c : UInt8) (x y z w : UInt8), s = p ++ r → (min 3 (s.length : Int)) = (p.length : Int) → 1 ≤ p.length → p.length ≤ 3 → cpyB [0, 0, 0] p = [a, b, c] →
        fv F p = some (x, y, z, w) → enc s = [x, y, z, w] ++ enc r →
        (bif decide (0 < (s.length : Int)) then grd (fP (min 3 (s.length : Int)) s.length) <| lt (to_ s (min 3 (s.length : Int))) fun x14 => bnd4 (fv F x14) fun x16 x17 x18 x19 => grd (okW out ([x16, x17, x18, x19] : List UInt8)) <| lt (out ++ ([x16, x17, x18, x19] : List UInt8)) fun x23 => grd (fP (min 3 (s.length : Int)) s.length) <| lt (hZ s (min 3 (s.length : Int))) fun x27 => fr F n (x27, x23) else fq out) = some (out ++ enc s) := by
      intro p r g a b c x y z w hs hm h1 h3 hc hg he
      have hlen : s.length = p.length + r.length := by rw [hs]; simp
      rw [bT (by omega), kR (by omega), bj, hm, to_nat]
      have e1 : s.take p.length = p := by rw [hs]; simp
      have e2 : s.drop p.length = r := by rw [hs]; simp
      rw [e1, hg]
      show grd (okW out [x, y, z, w]) _ = _
      rw [grd_W (by simp; omega), bj, kR (by omega), bj, lP, e2, ih _ _ (by omega) (by simp; omega), he]
      simp
    match s with
    | a :: b :: c :: r =>
      refine key [a, b, c] r [] a b c _ _ _ _ rfl (by simp; omega) (by simp) (by simp) rfl (lO F _ a b c (by simp) rfl) ?_
      rw [bF (by simp), bF (by simp), bF (by simp)]; rfl
    | [a, b] =>
      refine key [a, b] [] [] a b 0 _ _ _ _ rfl (by simp; try omega) (by simp) (by simp) rfl (lO F _ a b 0 (by simp) rfl) ?_
      rw [bF (by simp), bF (by simp), bT (by simp)]; rfl
    | [a] =>
      refine key [a] [] [] a 0 0 _ _ _ _ rfl (by simp; try omega) (by simp) (by simp) rfl (lO F _ a 0 0 (by simp) rfl) ?_
      rw [bF (by simp), bT (by simp), bT (by simp)]; rfl
    | [] =>
      rw [bF (by simp)]
      unfold fq
      rw [grd_W (by simp at hl ⊢; omega)]; simp [enc]
theorem Raw_eq (F : Nat) (s : Bs) (hF : s.length < F) (hs : s.length ≤ 1000000) : kh F s = some (enc s) := by
  have := raw_loop F F s [] hF (by simp; omega)
  rw [List.nil_append] at this
  exact this
theorem nB (n : Nat) : at_ headr_k1 (n : Int) = ch n := by rw [rk_eq]; exact at_ch n
theorem rk_len : headr_k1.length = 64 := by rw [rk_eq]; exact qq
theorem okc (n : Nat) (h : n < 64) : cE (n : Int) headr_k1.length = true := by rw [rk_len]; exact decide_eq_true (by omega)
def gb (s : Bs) (i : Nat) : UInt8 := s.getD i 0
theorem j4_eq (s out : Bs) (i v : Nat) (rec8 : (Bs × Int) → Option Bs) (hs : s.length ≤ 1000000) (hi : i < s.length) (hv : v < 16777216) (ho : out.length ≤ 100000000) :
    jU s out (i : Int) rec8 (v : Int) = rec8 (out ++ [ch (v / 262144), ch (v / 4096 % 64), bif decide (i + 1 < s.length) then ch (v / 64 % 64) else 61, bif decide (i + 2 < s.length) then ch (v % 64) else 61], ((i + 3 : Nat) : Int)) := by
  unfold jU
  have a1 : ((v : Int) / 262144) = ((v / 262144 : Nat) : Int) := by omega
  have a2 : ((v : Int) / 4096 % 64) = ((v / 4096 % 64 : Nat) : Int) := by omega
  have a3 : ((v : Int) / 64 % 64) = ((v / 64 % 64 : Nat) : Int) := by omega
  have a4 : ((v : Int) % 64) = ((v % 64 : Nat) : Int) := by omega
  have a5 : ((i : Int) + 3) = ((i + 3 : Nat) : Int) := by omega
  have hq : ∀ n : Nat, cE ((n % 64 : Nat) : Int) headr_k1.length = true := fun n => okc _ (by omega)
  rw [jv (by omega), a1, okc _ (by omega), lZ, bj, nB, jv (by omega), jv (by omega), a2, hq, lZ, bj, nB, bp (by simp; omega), bj, ce (by omega)]
  unfold ip iq
  by_cases h1 : i + 1 < s.length
  · rw [bT (show (i : Int) + 1 < s.length by omega), bT h1, jv (by omega), jv (by omega), a3, hq, lZ, bj, nB, bp (by simp; omega), bj, ce (by omega)]
    by_cases h2 : i + 2 < s.length
    · rw [bT (show (i : Int) + 2 < s.length by omega), bT h2, jv (by omega), a4, hq, lZ, bj, nB, bp (by simp; omega), bj, ce (by omega), a5]
      simp
    · rw [bF (show ¬ (i : Int) + 2 < s.length by omega), bF h2, bp (by simp; omega), bj, ce (by omega), a5]
      simp
  · rw [bF (show ¬ (i : Int) + 1 < s.length by omega), bF h1, bp (by simp; omega), bj, ce (by omega)]
    rw [bF (show ¬ (i : Int) + 2 < s.length by omega), bF (show ¬ i + 2 < s.length by omega), bp (by simp; omega), bj, ce (by omega), a5]
    simp
end Go.Hd
namespace Go.Hd
open Go.Pv Go.Av
def num (c : UInt8) : Int := if c = 61 then 0 else Go.Lib.indexByte b64_k1 c
def stp (acc n : Int) (c : UInt8) : Option (Int × Int) :=
  if num c < 0 ∨ (if c = 61 then n - 1 else n) < 1 then none
  else some (IntKind.u64.wrap ((BitVec.ofInt IntKind.u64.bits (IntKind.u64.wrap (acc * 2 ^ min (Int.toNat 6) IntKind.u64.bits)) ||| BitVec.ofInt IntKind.u64.bits (IntKind.u64.wrap (num c))).toNat), (if c = 61 then n - 1 else n))
def g4 (c0 c1 c2 c3 : UInt8) : Option (Int × Int) :=
  match stp 0 3 c0 with
  | none => none
  | some (a, n) => match stp a n c1 with
    | none => none
    | some (a, n) => match stp a n c2 with
      | none => none
      | some (a, n) => stp a n c3
def three (v n : Int) : Bs := to_ ([Go.Av.toB (Int.fdiv v (2 ^ min (Int.toNat 16) IntKind.u64.bits)), Go.Av.toB (Int.fdiv v (2 ^ min (Int.toNat 8) IntKind.u64.bits)), Go.Av.toB v] : Bs) n
theorem fd (v k : Nat) : Int.fdiv (v : Int) ((k : Nat) : Int) = ((v / k : Nat) : Int) := by
  rw [Int.fdiv_eq_ediv_of_nonneg _ (Int.natCast_nonneg _)]; rfl
open Classical in
noncomputable def dec (s : Bs) : Bs × Int := if h : ∃ b, enc b = s then (h.choose, 0) else ([], 2)
end Go.Hd
namespace Go.Hd
open Go.Pv Go.Av
def oU (c : UInt8) : Bool := ((((decide (97 ≤ (c.toNat : Int))) && (decide ((c.toNat : Int) ≤ 122))) || ((decide (65 ≤ (c.toNat : Int))) && (decide ((c.toNat : Int) ≤ 90)))) || ((decide (48 ≤ (c.toNat : Int))) && (decide ((c.toNat : Int) ≤ 57)))) || (decide (c = 45))
def okb (c : UInt8) : Bool := (decide (32 ≤ (c.toNat : Int))) && (decide ((c.toNat : Int) < 127))
theorem pk (F : Nat) (s : Bs) (hs : s.length ≤ 1000000) : ∀ (n i : Nat), s.length - i < n → i ≤ s.length → ep F s n (i : Int) = some ((s.drop i).all oU && !decide (s = [])) := by
  intro n
  induction n with
  | zero => intro i h; omega
  | succ n ih =>
    intro i hn hi;show er F s (ep F s n) (i : Int) = _
    unfold er eo
    by_cases h : i < s.length
    · have hd : s.drop i = s[i] :: s.drop (i + 1) := aK h
      have hc : iC F s[i] = some (oU s[i]) := rfl
      rw [bT (by omega), dA (by omega), bj, ec h, hc, bK, hd, List.all_cons]
      cases hp : oU s[i] with
      | false => rfl
      | true => rw [Bool.not_true, cond_false, ce (by omega), bV, ih (i + 1) (by omega) (by omega), Bool.true_and]
    · rw [bF (by omega), aI (by omega)]; simp
theorem onlyN_eq (F : Nat) (s : Bs) (hs : s.length ≤ 1000000) (hF : s.length < F) : iB F s = some (s.all oU && !decide (s = [])) := pk F s hs F 0 (by omega) (by omega)
theorem pj (F : Nat) (s : Bs) (hs : s.length ≤ 1000000) : ∀ (n i : Nat), s.length - i < n → i ≤ s.length → el F s n (i : Int) = some ((s.drop i).all okb && !decide (s = [])) := by
  intro n
  induction n with
  | zero => intro i h; omega
  | succ n ih =>
    intro i hn hi;show em F s (el F s n) (i : Int) = _
    unfold em ek
    by_cases h : i < s.length
    · have hd : s.drop i = s[i] :: s.drop (i + 1) := aK h
      have hc : gA F s[i] = some (okb s[i]) := rfl
      rw [bT (by omega), dA (by omega), bj, ec h, hc, bK, hd, List.all_cons]
      cases hp : okb s[i] with
      | false => rfl
      | true => rw [Bool.not_true, cond_false, ce (by omega), bV, ih (i + 1) (by omega) (by omega), Bool.true_and]
    · rw [bF (by omega), aI (by omega)]; simp
theorem onlyP_eq (F : Nat) (s : Bs) (hs : s.length ≤ 1000000) (hF : s.length < F) : iA F s = some (s.all okb && !decide (s = [])) := pj F s hs F 0 (by omega) (by omega)
def lX (s : Bs) : Bool := (s.all oU && !decide (s = [])) && decide (s.length ≤ 40)
theorem name_eq (F : Nat) (s : Bs) (hs : s.length ≤ 1000000) (hF : s.length < F) : gc F s = some (lX s) := by
  unfold gc lX
  rw [onlyN_eq F s hs hF]
  by_cases h : s.length ≤ 40
  · rw [decide_eq_true (show (s.length : Int) ≤ 40 by omega), decide_eq_true h, qs, bK, Bool.true_and, Bool.and_true]
  · rw [decide_eq_false (show ¬ (s.length : Int) ≤ 40 by omega), decide_eq_false h, qt, Bool.false_and, Bool.and_false]
def bad (x y : UInt8) : Bool := (x == 32 && y == 32) || (x == 61 && y == 63)
def iQ (p : UInt8 → UInt8 → Bool) : Bs → Bool
  | x :: y :: r => p x y || iQ p (y :: r)
  | _ => false
theorem ez (x : UInt8) (r sub : Bs) : Go.Lib.contains (x :: r) sub = (sub.isPrefixOf (x :: r) || Go.Lib.contains r sub) := by
  unfold Go.Lib.contains
  have hg := Go.Lib.index_ge r sub
  rw [Go.Lib.index]
  cases hp : sub.isPrefixOf (x :: r) with
  | true => simp
  | false =>
    rw [if_neg (by simp), Bool.false_or]
    by_cases h : Go.Lib.index r sub = -1
    · rw [h]; rfl
    · rw [if_neg (by simpa using h)]
      exact decide_eq_decide.2 (by omega)
theorem fh (a b : UInt8) : ∀ s : Bs, Go.Lib.contains s [a, b] = iQ (fun x y => x == a && y == b) s
  | [] => rfl
  | [x] => by rw [ez]; simp [iQ, List.isPrefixOf, Go.Lib.contains, Go.Lib.index]
  | x :: y :: r => by
    rw [ez, fh a b (y :: r), iQ]
    simp only [List.isPrefixOf, Bool.and_true]
    rw [Bool.beq_comm (a := x), Bool.beq_comm (a := y)]
theorem qE (p q : UInt8 → UInt8 → Bool) : ∀ s : Bs, iQ (fun x y => p x y || q x y) s = (iQ p s || iQ q s)
  | [] => rfl
  | [x] => rfl
  | x :: y :: r => by
    rw [iQ, iQ, iQ, qE p q (y :: r)]
    cases p x y <;> cases q x y <;> cases iQ p (y :: r) <;> rfl
theorem nD (p : UInt8 → Bool) : ∀ s : Bs, (s.dropWhile p).length ≤ s.length
  | [] => Nat.le_refl _
  | x :: r => by
    rw [List.dropWhile_cons]
    have := nD p r
    split
    · simp; omega
    · exact Nat.le_refl _
theorem dw_id (c : UInt8) (s : Bs) : s.dropWhile (· == c) = s ↔ s.head? ≠ some c := by
  cases s with
  | nil => simp
  | cons x r =>
    rw [List.dropWhile_cons]
    have := nD (· == c) r
    by_cases h : x = c
    · subst h
      simp only [beq_self_eq_true, if_true, List.head?_cons, ne_eq, not_true_eq_false, iff_false]
      intro he
      rw [he] at this
      simp at this
      omega
    · simp [h]
theorem nr (c : UInt8) (s : Bs) : Go.Lib.trimB s c = s ↔ s.head? ≠ some c ∧ s.getLast? ≠ some c := by
  have hr : Go.Lib.trimRightB s c = s ↔ s.getLast? ≠ some c := by
    unfold Go.Lib.trimRightB
    rw [← List.head?_reverse, ← dw_id, ← List.reverse_inj, List.reverse_reverse]
  have hl : (Go.Lib.trimRightB s c).length ≤ s.length := by
    have := nD (· == c) s.reverse
    unfold Go.Lib.trimRightB
    simpa using this
  unfold Go.Lib.trimB
  constructor
  · intro h
    have h1 := nD (· == c) (Go.Lib.trimRightB s c)
    have h2 : (Go.Lib.trimRightB s c) = s := by
      have e : (Go.Lib.trimRightB s c).length = s.length := by
        have := congrArg List.length h
        unfold Go.Lib.trimLeftB at this
        omega
      have p : Go.Lib.trimRightB s c <+: s := by
        unfold Go.Lib.trimRightB
        rw [← List.reverse_suffix, List.reverse_reverse]
        exact List.dropWhile_suffix _
      exact p.eq_of_length e
    rw [h2] at h
    exact ⟨(dw_id c s).1 h, hr.1 h2⟩
  · intro ⟨h1, h2⟩
    rw [hr.2 h2]
    exact (dw_id c s).2 h1
def plainB (s : Bs) : Bool := (((s.all okb && !decide (s = [])) && (decide (s.head? ≠ some 32) && decide (s.getLast? ≠ some 32))) && !iQ bad s)
theorem Plain_eq (F : Nat) (s : Bs) (hs : s.length ≤ 1000000) (hF : s.length < F) : gi F s = some (plainB s) := by
  unfold gi
  have hS : ∀ (c : Bool) (k : Option Bool), gt c (okS s.length) k = k := fun c k => by
    rw [show okS s.length = true from decide_eq_true (by omega)]; cases c <;> rfl
  rw [onlyP_eq F s hs hF, bK, hS, bj, hS, bj, hS, bj, fh, fh]
  have e1 : iQ bad s = (iQ (fun x y => x == 32 && y == 32) s || iQ (fun x y => x == 61 && y == 63) s) := qE _ _ s
  have e2 : decide (Go.Lib.trimB s 32 = s) = (decide (s.head? ≠ some 32) && decide (s.getLast? ≠ some 32)) := by
    rw [← Bool.decide_and]; exact decide_eq_decide.2 (nr 32 s)
  unfold plainB
  rw [e1, e2, Bool.not_or, Bool.and_assoc _ (!_) (!_)]
theorem bq (a b : UInt8) : decide (a = b) = (a == b) := by by_cases h : a = b <;> simp [h]
theorem lW (x : Bool) : (false && x) = false := Eq.symm (Eq.symm rfl)
theorem kX (x : Bool) : (true && x) = x := Eq.symm (Eq.symm rfl)
theorem nfl : (!false) = true := Eq.symm (Eq.symm rfl)
theorem ntr : (!true) = false := Eq.symm (Eq.symm rfl)
theorem cfl {α : Type} (a b : α) : (bif false then a else b) = b := Eq.symm (Eq.symm rfl)
theorem ctr {α : Type} (a b : α) : (bif true then a else b) = a := Eq.symm (Eq.symm rfl)
def insb (c : UInt8) : Bool := decide (Go.Av.shr8 c 6 = 2)
def dn (s : Bs) : Nat → Nat
  | 0 => 45
  | k + 1 => bif insb (gb s (42 + k)) then dn s k else 42 + k
theorem gb_at {s : Bs} {i : Nat} (h : i < s.length) : gb s i = s[i] := by simp [gb, h]
theorem qW (F : Nat) (s : Bs) (hs : 45 < s.length) : ∀ (n k : Nat), k < n → k ≤ 4 → fe F s n ((41 + k : Nat) : Int) = some ((dn s k : Nat) : Int) := by
  intro n
  induction n with
  | zero => intro k h; omega
  | succ n ih =>
    intro k hk h4;show ff F s (fe F s n) ((41 + k : Nat) : Int) = _
    unfold ff
    cases k with
    | zero => rfl
    | succ k =>
      have e : 41 + (k + 1) = 42 + k := by omega
      have hb : gB F s[42 + k] = some (insb (gb s (42 + k))) := by rw [gb_at (by omega)]; rfl
      rw [e, decide_eq_true (show (41 : Int) < ((42 + k : Nat) : Int) by omega), lU, dA (by omega), bj, ec (by omega), hb, qs, bK, Bool.true_and]
      unfold dn
      cases insb (gb s (42 + k)) with
      | true =>
        have e2 : ((42 + k : Nat) : Int) - 1 = ((41 + k : Nat) : Int) := by omega
        rw [cond_true, cond_true, ce (by omega), e2, ih k (by omega) (by omega)]
      | false =>
        rw [cond_false, cond_false]
        unfold fc
        rw [bF (by omega)]
def pt (s : Bs) : Nat := if s.length ≤ 45 then s.length else dn s 4
theorem dn_le (s : Bs) : ∀ k, k ≤ 4 → 42 ≤ dn s k ∧ dn s k ≤ 45
  | 0, _ => by simp [dn]
  | k + 1, h => by
    have := dn_le s k (by omega)
    unfold dn
    cases insb (gb s (42 + k)) with
    | true => exact this
    | false => rw [cond_false]; omega
theorem oT (s : Bs) : pt s ≤ s.length ∧ pt s ≤ 45 ∧ (s ≠ [] → 1 ≤ pt s) := by
  have := dn_le s 4 (by omega)
  unfold pt
  split
  · exact ⟨Nat.le_refl _, by omega, fun h => List.length_pos_iff.2 h⟩
  · exact ⟨by omega, by omega, fun h => by omega⟩
theorem part_eq (F : Nat) (hF : 5 ≤ F) (s : Bs) : ig F s = some ((pt s : Nat) : Int) := by
  unfold ig pt
  by_cases h : s.length ≤ 45
  · rw [bT (by omega), if_pos h]
  · rw [bF (by omega), if_neg h]; exact qW F s (by omega) F 4 (by omega) (by omega)
def ahead : Bs := [61, 63, 117, 116, 102, 45, 56, 63, 66, 63]
def behind : Bs := [63, 61]
def word (p : Bs) : Bs := ahead ++ enc p ++ behind
def pcs : Nat → Bs → List Bs
  | 0, _ => []
  | n + 1, s => if s = [] then [] else word (s.take (pt s)) :: pcs n (s.drop (pt s))
theorem kZ (n : Nat) : pcs n [] = [] := by cases n <;> rfl
theorem pcs_more : ∀ (n m : Nat) (s : Bs), s.length ≤ n → s.length ≤ m → pcs n s = pcs m s := by
  intro n
  induction n with
  | zero => intro m s h1 h2; have : s = [] := List.eq_nil_of_length_eq_zero (by omega); subst this; rw [kZ, kZ]
  | succ n ih =>
    intro m s h1 h2
    by_cases h : s = []
    · subst h; rw [kZ, kZ]
    · have hp := oT s
      have hl := List.length_pos_iff.2 h
      have h3 := hp.2.2 h
      obtain ⟨m, rfl⟩ : ∃ k, m = k + 1 := ⟨m - 1, by omega⟩
      rw [pcs, pcs, if_neg h, if_neg h, ih m (s.drop (pt s)) (by simp; omega) (by simp; omega)]
def hM (s : Bs) : List Bs := pcs s.length s
theorem jd {s : Bs} (h : s ≠ []) : hM s = word (s.take (pt s)) :: hM (s.drop (pt s)) := by
  have hp := oT s
  have hl := List.length_pos_iff.2 h
  have h3 := hp.2.2 h
  unfold hM
  obtain ⟨m, hm⟩ : ∃ k, s.length = k + 1 := ⟨s.length - 1, by omega⟩
  rw [hm, pcs, if_neg h, pcs_more m (s.drop (pt s)).length _ (by simp; omega) (by simp)]
theorem ge : hM [] = [] := rfl
def ed (s : Bs) : List Bs := bif plainB s then sp 32 s else hM s
def np {σ : Type} (k : σ → Bs → Option (σ × Bool)) (st : σ) (w : Bs) : Option σ := match k st w with
  | some (st', true) => some st'
  | _ => none
def ku {σ : Type} (k : σ → Bs → Option (σ × Bool)) : σ → List Bs → Option σ
  | st, [] => some st
  | st, w :: ws => match np k st w with
    | none => none
    | some st' => ku k st' ws
theorem fold1_s {σ : Type} {k : σ → Bs → Option (σ × Bool)} {st st' : σ} {w : Bs} (h : np k st w = some st') : k st w = some (st', true) := by
  unfold np at h
  split at h
  · rename_i h1; cases h; exact h1
  · cases h
theorem qH {σ : Type} {k : σ → Bs → Option (σ × Bool)} {st st' : σ} {w : Bs} {ws : List Bs} (h : ku k st (w :: ws) = some st') : ∃ m, k st w = some (m, true) ∧ ku k m ws = some st' := by
  rw [ku] at h
  cases hf : np k st w with
  | none => rw [hf] at h; cases h
  | some m => rw [hf] at h; exact ⟨m, fold1_s hf, h⟩
theorem wI_loop {σ : Type} (F : Nat) (k : σ → Bs → Option (σ × Bool)) (hF : 60 ≤ F) : ∀ (n : Nat) (s : Bs) (st st' : σ), s.length < n → s.length ≤ 1000000 → ku k st (hM s) = some st' → ∃ r, cY F k n (s, st) = some (st', r) := by
  intro n
  induction n with
  | zero => intro s st st' h; omega
  | succ n ih =>
    intro s st st' hn hs H
    have e : cY F k (n + 1) (s, st) = dL F k (cY F k n) s st := rfl
    rw [e]
    unfold dL
    by_cases h : s = []
    · subst h
      cases H
      exact ⟨[], rfl⟩
    · have hp := oT s
      have hl := List.length_pos_iff.2 h
      have h3 := hp.2.2 h
      rw [jd h] at H
      obtain ⟨m, h1, h2⟩ := qH H;obtain ⟨r, hr⟩ := ih (s.drop (pt s)) m st' (by simp; omega) (by simp; omega) h2;refine ⟨r, ?_⟩
      have he := nw (s.take (pt s))
      have ht : (s.take (pt s)).length ≤ 45 := by simp; omega
      rw [decide_eq_false h, Bool.not_false, cond_true, part_eq F (by omega), bK, kR (by omega), bj, to_nat, bp (by omega), Raw_eq F _ (by omega) (by omega), bK]
      rw [bp (by simp; omega), bj, bp (by simp; omega), bj]
      have hk : k st (([61, 63, 117, 116, 102, 45, 56, 63, 66, 63] : Bs) ++ enc (s.take (pt s)) ++ [63, 61]) = some (m, true) := h1
      rw [hk, ea, Bool.not_true, cond_false, kR (by omega), bj, lP]
      exact hr
theorem wS_loop {σ : Type} (a : Bs) (k : σ → Bs → Option (σ × Bool)) (l : List Bs) (hl : l.length ≤ 10000000) : ∀ (n i : Nat) (st st' : σ), l.length - i < n → i ≤ l.length → ku k st (l.drop i) = some st' → cX a k l n ((i : Int), st) = some (st', a) := by
  intro n
  induction n with
  | zero => intro i st st' h; omega
  | succ n ih =>
    intro i st st' hn hi H
    have e : cX a k l (n + 1) ((i : Int), st) = dK a k l (cX a k l n) (i : Int) st := rfl
    rw [e]
    unfold dK
    by_cases h : i < l.length
    · rw [aK h] at H
      obtain ⟨m, h1, h2⟩ := qH H
      rw [bT (by omega), dA (by omega), bj, ec h, h1, ea, Bool.not_true, cond_false, ce (by omega), bV]
      exact ih (i + 1) m st' (by omega) (by omega) h2
    · rw [aI (by omega)] at H
      cases H
      rw [bF (by omega)]
theorem qO {σ : Type} (F : Nat) (k : σ → Bs → Option (σ × Bool)) (s : Bs) (st st' : σ) (hs : s.length ≤ 1000000) (hF : s.length + 100 < F) (H : ku k st (ed s) = some st') : ∃ r, fK F k st s = some (st', r) := by
  unfold fK
  rw [Plain_eq F s hs (by omega), bK]
  unfold ed at H
  cases hp : plainB s with
  | true =>
    rw [hp, cond_true] at H
    have hl := mH 32 s
    rw [cond_true, grd_S (by omega), grd_D (by simp), bj, qQ]
    exact ⟨s, wS_loop s k (sp 32 s) (by omega) F 0 st st' (by omega) (by omega) H⟩
  | false =>
    rw [hp, cond_false] at H
    rw [cond_false]
    exact wI_loop F k (by omega) F s st st' (by omega) hs H
theorem lB (s : Bs) : ∀ n, s.length ≤ n → (hM s).length ≤ s.length ∧ ∀ w ∈ hM s, w.length ≤ 104 := by
  intro n
  induction n generalizing s with
  | zero => intro h; have : s = [] := List.eq_nil_of_length_eq_zero (by omega); subst this; simp [ge]
  | succ n ih =>
    intro h
    by_cases h0 : s = []
    · subst h0; simp [ge]
    · have hp := oT s
      have hl := List.length_pos_iff.2 h0
      have h3 := hp.2.2 h0
      have ⟨i1, i2⟩ := ih (s.drop (pt s)) (by simp; omega)
      have he := nw (s.take (pt s))
      have ht : (s.take (pt s)).length ≤ 45 := by simp; omega
      rw [jd h0]
      refine ⟨by simp at i1 ⊢; omega, fun w hw => ?_⟩
      rcases List.mem_cons.1 hw with rfl | hw
      · simp [word, ahead, behind]; omega
      · exact i2 w hw
theorem rb {l : List Bs} {w : Bs} (h : w ∈ l) : w.length ≤ Str.total l := by
  induction l with
  | nil => cases h
  | cons x r ih =>
    rcases List.mem_cons.1 h with rfl | h
    · simp [Str.total]
    · have := ih h; simp [Str.total]; omega
theorem kD (s : Bs) : (ed s).length ≤ s.length + 1 ∧ ∀ w ∈ ed s, w.length ≤ s.length + 104 := by
  unfold ed
  cases plainB s with
  | true =>
    rw [cond_true]
    have h1 := oH 32 s
    have h2 := mH 32 s
    exact ⟨h2, fun w hw => by have := rb hw; have := List.length_pos_iff.2 (List.ne_nil_of_mem hw); omega⟩
  | false =>
    rw [cond_false]
    have ⟨h1, h2⟩ := lB s s.length (by omega)
    exact ⟨by omega, fun w hw => by have := h2 w hw; omega⟩
end Go.Hd
namespace Go.Hd
open Go.Pv Go.Av
def cL (st : Int × Bs) (x : Bs) : Int × Bs := if 76 < st.1 + 1 + (x.length : Int) then (0 + 1 + (x.length : Int), st.2 ++ [13, 10] ++ [32] ++ x) else (st.1 + 1 + (x.length : Int), st.2 ++ [32] ++ x)
def gp (a b : Bs) : Bs := ((ed b).foldl cL (((a.length + 1 : Nat) : Int), a ++ [58])).2 ++ [13, 10]
theorem lC (st : Int × Bs) (x : Bs) : (cL st x).2.length ≤ st.2.length + x.length + 3 := by
  unfold cL; split <;> simp <;> omega
theorem lnStep_n (st : Int × Bs) (x : Bs) (h : 0 ≤ st.1) (hx : x.length ≤ 2000000) : 0 ≤ (cL st x).1 ∧ (cL st x).1 ≤ 2000001 := by
  unfold cL; split <;> simp <;> omega
theorem k1_eq (st : Int × Bs) (x : Bs) (h0 : 0 ≤ st.1) (h1 : st.1 ≤ 10000000) (hx : x.length ≤ 2000000) (ho : st.2.length + x.length + 3 ≤ 50000000000) :
    np (fun s x => cO s.1 s.2 x) st x = some (cL st x) := by
  have hk : cO st.1 st.2 x = some (cL st x, true) := by
    unfold cO dV cL
    by_cases h : 76 < st.1 + 1 + (x.length : Int)
    · rw [bT h, if_pos h]
      simp (disch := (first | omega | (simp; omega))) only [ce, bp, bj]
    · rw [bF h, if_neg h]
      simp (disch := (first | omega | (simp; omega))) only [ce, bp, bj]
  unfold np
  simp only [hk]
theorem kx : ∀ (ws : List Bs) (st : Int × Bs), (∀ w ∈ ws, w.length ≤ 2000000) → 0 ≤ st.1 → st.1 ≤ 10000000 → st.2.length + ws.length * 2000003 ≤ 50000000000 →
    ku (fun s x => cO s.1 s.2 x) st ws = some (ws.foldl cL st) ∧ (ws.foldl cL st).2.length ≤ st.2.length + ws.length * 2000003
  | [], st, _, _, _, _ => ⟨rfl, by simp⟩
  | w :: ws, st, hw, h0, h1, hl => by
    have hx := hw w (by simp)
    have hn := lnStep_n st w h0 hx
    have hs := lC st w
    simp only [List.length_cons] at hl
    have ⟨i1, i2⟩ := kx ws (cL st w) (fun v hv => hw v (by simp [hv])) hn.1 (by omega) (by omega)
    rw [ku, k1_eq st w h0 h1 hx (by omega)]
    refine ⟨i1, ?_⟩
    rw [List.foldl_cons, List.length_cons]; omega
def gn (a b : Bs) : Bool := lX a && decide (b.length ≤ 4000)
theorem ka {a b : Bs} (h : gn a b = true) : lX a = true ∧ b.length ≤ 4000 ∧ a.length ≤ 40 := by
  unfold gn at h
  rw [Bool.and_eq_true] at h
  refine ⟨h.1, of_decide_eq_true h.2, ?_⟩
  have := h.1
  unfold lX at this
  rw [Bool.and_eq_true] at this
  exact of_decide_eq_true this.2
theorem pn (a b : Bs) (h : gn a b = true) : (gp a b).length ≤ 50000000000 ∧ (a.length : Int) + 1 + (ed b).length ≤ 10000 := by
  have ⟨h1, h2, h3⟩ := ka h
  have ⟨w1, w2⟩ := kD b
  have := (kx (ed b) (((a.length + 1 : Nat) : Int), a ++ [58]) (fun w hw => by have := w2 w hw; omega) (by simp; omega) (by simp; omega) (by simp; omega)).2
  refine ⟨?_, by omega⟩
  unfold gp
  simp at this ⊢; omega
theorem Line_eq (F : Nat) (a b : Bs) (ha : a.length ≤ 1000000) (hFa : a.length < F) (hF : 4200 < F) : eI F a b = some (if gn a b = true then (gp a b, 0) else ([], 1)) := by
  unfold eI fg
  rw [name_eq F a ha hFa, bK]
  by_cases h : gn a b = true
  · have ⟨h1, h2, h3⟩ := ka h
    have ⟨w1, w2⟩ := kD b
    have hlen := (pn a b h).1
    have ⟨f1, f2⟩ := kx (ed b) (((a.length + 1 : Nat) : Int), a ++ [58]) (fun w hw => by have := w2 w hw; omega) (by simp; omega) (by simp; omega) (by simp; omega)
    obtain ⟨r, hr⟩ := qO F _ b _ _ (by omega) (by omega) f1
    rw [if_pos h, h1, Bool.not_true, Bool.false_or, bF (by omega), bp (by simp; omega), bj, bp (by simp; omega)]
    unfold iz
    rw [bK]
    have e : (((a ++ [58] : Bs).length : Int), a ++ [58]) = (((a.length + 1 : Nat) : Int), a ++ [58]) := by simp
    rw [e, hr, ea, bp (by simp at f2 ⊢; omega), bj]
    rfl
  · rw [if_neg h]
    have : ((!lX a) || (decide (4000 < (b.length : Int)))) = true := by
      unfold gn at h
      cases hn : lX a with
      | false => rfl
      | true =>
        rw [hn, Bool.true_and, decide_eq_true_eq] at h
        rw [decide_eq_true (show 4000 < (b.length : Int) by omega)]; rfl
    rw [this, cond_true]
end Go.Hd
namespace Go.Hd
open Go.Pv Go.Av
def spb (c : UInt8) : Bool := ((decide (c = 32)) || (decide (c = 13))) || (decide (c = 10))
def wf : Bs → Bs → List Bs
  | cur, [] => if cur = [] then [] else [cur]
  | cur, c :: r => if spb c = true then (if cur = [] then wf [] r else cur :: wf [] r) else wf (cur ++ [c]) r
end Go.Hd
namespace Go.Hd
open Go.Pv Go.Av
theorem bql (a b : Bs) : decide (a = b) = (a == b) := by by_cases h : a = b <;> simp [h]
theorem qD {w p : Bs} : Go.Lib.hasPrefix w p = (decide (p.length ≤ w.length) && decide (w.take p.length = p)) := by
  rw [← Go.Lib.hasPrefix_of_take, bql]
end Go.Hd
namespace Go.Av.Qp
def dg (n : Nat) : UInt8 := [48, 49, 50, 51, 52, 53, 54, 55, 56, 57, 65, 66, 67, 68, 69, 70].getD n 0
def plainB (c : UInt8) (r : List UInt8) : Bool :=
  if c.toNat = 32 ∨ c.toNat = 9 then (match r with | [] => false | d :: _ => decide (d.toNat ≠ 10)) else decide (33 ≤ c.toNat ∧ c.toNat ≤ 126 ∧ c.toNat ≠ 61)
theorem lA (c : UInt8) : plainB c [] = decide (c.toNat ≠ 32 ∧ c.toNat ≠ 9 ∧ 33 ≤ c.toNat ∧ c.toNat ≤ 126 ∧ c.toNat ≠ 61) := by
  unfold plainB; split
  · rename_i h; rw [eq_comm, decide_eq_false_iff_not]; omega
  · rename_i h; rw [decide_eq_decide]; omega
theorem plainB_cons (c d : UInt8) (r : List UInt8) : plainB c (d :: r) = decide (((c.toNat = 32 ∨ c.toNat = 9) ∧ d.toNat ≠ 10) ∨ (c.toNat ≠ 32 ∧ c.toNat ≠ 9 ∧ 33 ≤ c.toNat ∧ c.toNat ≤ 126 ∧ c.toNat ≠ 61)) := by
  unfold plainB; split
  · rename_i h; simp only; rw [decide_eq_decide]; omega
  · rename_i h; rw [decide_eq_decide]; omega
def code (c : UInt8) (r : List UInt8) : List UInt8 := if plainB c r then [c] else [61, dg (c.toNat / 16), dg (c.toNat % 16)]
def put (line : Nat) (s : List UInt8) : List UInt8 × Nat := if line + s.length > 75 then ([61, 13, 10] ++ s, s.length) else (s, line + s.length)
def enc : Nat → List UInt8 → List UInt8
  | _, [] => []
  | n, c :: r => if c.toNat = 10 then [13, 10] ++ enc 0 r else (put n (code c r)).1 ++ enc (put n (code c r)).2 r
def dig (c : UInt8) : Option Nat :=
  if 48 ≤ c.toNat ∧ c.toNat ≤ 57 then some (c.toNat - 48) else if 65 ≤ c.toNat ∧ c.toNat ≤ 70 then some (c.toNat - 55) else if 97 ≤ c.toNat ∧ c.toNat ≤ 102 then some (c.toNat - 87) else none
def tok : List UInt8 → Option (List UInt8 × Nat)
  | [] => none
  | c :: r =>
    if c.toNat = 13 ∧ (r.map UInt8.toNat).head? = some 10 then some ([10], 2)
    else if c.toNat = 61 then
      (match r with
       | a :: b :: _ => if a.toNat = 13 ∧ b.toNat = 10 then some ([], 3) else (match dig a, dig b with | some x, some y => some ([UInt8.ofNat (16 * x + y)], 3) | _, _ => none)
       | _ => none)
    else if c.toNat = 9 ∨ (32 ≤ c.toNat ∧ c.toNat ≤ 126) then some ([c], 1) else none
def dec : Nat → List UInt8 → Option (List UInt8)
  | _, [] => some []
  | 0, _ :: _ => none
  | k + 1, b => match tok b with
    | none => none
    | some (x, n) => (dec k (b.drop n)).map (x ++ ·)
theorem code_length (c : UInt8) (r : List UInt8) : (code c r).length ≤ 3 := by unfold code; split <;> simp
theorem put_bounds (n : Nat) (s : List UInt8) (hn : n ≤ 75) (hs : s.length ≤ 3) : (put n s).2 ≤ 75 ∧ (put n s).1.length ≤ 6 := by
  unfold put; split
  · simp; omega
  · simp; omega
theorem enc_step (n : Nat) (b : List UInt8) (i : Nat) (h : i < b.length) : enc n (b.drop i) =
    if b[i].toNat = 10 then [13, 10] ++ enc 0 (b.drop (i + 1)) else (put n (code b[i] (b.drop (i + 1)))).1 ++ enc (put n (code b[i] (b.drop (i + 1)))).2 (b.drop (i + 1)) := by
  rw [aK h, enc]
theorem qu {b x : List UInt8} {n : Nat} (h : tok b = some (x, n)) : 1 ≤ n ∧ n ≤ b.length ∧ x.length ≤ 1 := by
  unfold tok at h
  cases b with
  | nil => cases h
  | cons c r =>
    simp only at h
    split at h
    · rename_i h1
      cases h
      have : r ≠ [] := by intro e; subst e; simp at h1
      have := List.length_pos_iff.2 this
      simp; omega
    · split at h
      · split at h
        · rename_i a b' r'
          split at h
          · cases h; simp
          · split at h
            · cases h; simp
            · cases h
        · cases h
      · split at h
        · cases h; simp
        · cases h
def gr (b : List UInt8) : Option (List UInt8) := dec b.length b
theorem dec_more : ∀ (k : Nat) (b : List UInt8), b.length ≤ k → dec k b = dec b.length b := by
  intro k
  induction k using Nat.strongRecOn with
  | _ k ih =>
    intro b hb
    cases b with
    | nil => cases k <;> rfl
    | cons c r =>
      obtain ⟨k, rfl⟩ : ∃ m, k = m + 1 := ⟨k - 1, by simp at hb; omega⟩
      simp only [dec, List.length_cons]
      cases ht : tok (c :: r) with
      | none => rfl
      | some p =>
        obtain ⟨x, n⟩ := p;obtain ⟨h1, h2, _⟩ := qu ht
        simp only
        simp at hb h2
        have hl : ((c :: r).drop n).length ≤ r.length := by simp; omega
        rw [ih k (by omega) _ (by omega)]
        by_cases hk : r.length < k + 1
        · rw [ih r.length hk _ hl]
        · omega
theorem oC {b : List UInt8} (hb : b ≠ []) : gr b = match tok b with
    | none => none
    | some (x, n) => (gr (b.drop n)).map (x ++ ·) := by
  cases b with
  | nil => exact absurd rfl hb
  | cons c r =>
    unfold gr
    simp only [List.length_cons, dec]
    cases ht : tok (c :: r) with
    | none => rfl
    | some p =>
      obtain ⟨x, n⟩ := p;obtain ⟨h1, h2, _⟩ := qu ht
      simp only
      simp at h2
      rw [dec_more r.length _ (by simp; omega)]
theorem nat10 {c : UInt8} : c = 10 ↔ c.toNat = 10 := ⟨fun h => by rw [h]; rfl, fun h => UInt8.toNat_inj.1 h⟩
theorem gE {b x : List UInt8} {n : Nat} (h0 : 0 < b.length) (h : tok b = some (x, n)) : gr b = (gr (b.drop n)).map (x ++ ·) := by
  rw [oC (by intro e; subst e; simp at h0), h]
theorem plainB_in (c : UInt8) (b : List UInt8) (k : Nat) (h : k < b.length) : plainB c (b.drop k) = decide (((c.toNat = 32 ∨ c.toNat = 9) ∧ b[k].toNat ≠ 10) ∨ (c.toNat ≠ 32 ∧ c.toNat ≠ 9 ∧ 33 ≤ c.toNat ∧ c.toNat ≤ 126 ∧ c.toNat ≠ 61)) := by
  rw [aK h, plainB_cons]
theorem plainB_out (c : UInt8) (b : List UInt8) (k : Nat) (h : ¬ k < b.length) : plainB c (b.drop k) = decide (c.toNat ≠ 32 ∧ c.toNat ≠ 9 ∧ 33 ≤ c.toNat ∧ c.toNat ≤ 126 ∧ c.toNat ≠ 61) := by
  rw [aI (by omega), lA]
theorem plainB_other (c : UInt8) (r : List UInt8) (h : ¬ (c.toNat = 32 ∨ c.toNat = 9)) : plainB c r = decide (33 ≤ c.toNat ∧ c.toNat ≤ 126 ∧ c.toNat ≠ 61) := by
  unfold plainB; rw [if_neg h]
theorem put_long (n : Nat) (s : List UInt8) (h : 75 < n + s.length) : put n s = ([61, 13, 10] ++ s, s.length) := if_pos h
theorem put_short (n : Nat) (s : List UInt8) (h : ¬ 75 < n + s.length) : put n s = (s, n + s.length) := if_neg h
end Go.Av.Qp
namespace Go.Av.Qp
theorem pc (b : List UInt8) : gr ([61, 13, 10] ++ b) = gr b := by
  rw [gE (x := []) (n := 3) (by simp) (by rfl)]
  simp
theorem dig_dg : ∀ n : Nat, n < 16 → dig (dg n) = some n ∧ (dg n).toNat ≠ 13 ∧ (dg n).toNat ≠ 10 ∧ 48 ≤ (dg n).toNat ∧ (dg n).toNat ≤ 70 := by decide +kernel
theorem dg_byte : ∀ n : Nat, n < 256 → UInt8.ofNat (16 * (n / 16) + n % 16) = UInt8.ofNat n := by decide +kernel
theorem code_cases (c : UInt8) (r : List UInt8) : (plainB c r = true ∧ code c r = [c] ∧ c.toNat ≠ 61 ∧ c.toNat ≠ 13 ∧ c.toNat ≠ 10 ∧ (c.toNat = 9 ∨ (32 ≤ c.toNat ∧ c.toNat ≤ 126))) ∨ code c r = [61, dg (c.toNat / 16), dg (c.toNat % 16)] := by
  unfold code
  by_cases h : plainB c r = true
  · left
    rw [if_pos h]
    refine ⟨h, rfl, ?_⟩
    cases r with
    | nil => rw [lA] at h; simp at h; omega
    | cons d r => rw [plainB_cons] at h; simp at h; omega
  · right; rw [if_neg h]
theorem mP (c : UInt8) (r x : List UInt8) : gr (code c r ++ x) = (gr x).map ([c] ++ ·) := by
  rcases code_cases c r with ⟨_, h, h1, h2, h3, h4⟩ | h
  · rw [h, gE (x := [c]) (n := 1) (by simp) (by simp only [List.cons_append, tok]; rw [if_neg (by omega), if_neg h1, if_pos h4])]
    rfl
  · rw [h]
    have a1 := dig_dg (c.toNat / 16) (by have := c.toNat_lt; omega)
    have a2 := dig_dg (c.toNat % 16) (by omega)
    have ht : tok ([61, dg (c.toNat / 16), dg (c.toNat % 16)] ++ x) = some ([c], 3) := by
      simp only [List.cons_append, tok]
      have e : (61 : UInt8).toNat = 61 := rfl
      rw [if_neg (by rw [e]; omega), if_pos e, if_neg (by omega), a1.1, a2.1]
      simp only
      rw [dg_byte _ c.toNat_lt, UInt8.ofNat_toNat]
    rw [gE (by simp) ht]
    rfl
theorem back : ∀ (b : List UInt8) (n : Nat), gr (enc n b) = some b := by
  intro b
  induction b with
  | nil => intro n; rfl
  | cons c r ih =>
    intro n
    unfold enc
    by_cases h : c.toNat = 10
    · rw [if_pos h, gE (x := [10]) (n := 2) (by simp) (by rfl)]
      show (gr (enc 0 r)).map ([10] ++ ·) = _; rw [ih]
      have : c = 10 := nat10.2 h
      rw [this]; rfl
    · rw [if_neg h]
      unfold put
      split
      · simp only [List.append_assoc]
        rw [pc, mP, ih]; rfl
      · simp only
        rw [mP, ih]; rfl
theorem enc_length : ∀ (b : List UInt8) (n : Nat), (enc n b).length ≤ 6 * b.length := by
  intro b
  induction b with
  | nil => intro n; simp [enc]
  | cons c r ih =>
    intro n
    have hl := code_length c r
    have h1 := ih 0
    unfold enc put
    split
    · simp; omega
    · split
      · have := ih (code c r).length; simp; omega
      · have := ih (n + (code c r).length); simp; omega
end Go.Av.Qp
namespace Go.Pt
open Go.Pv Go.Av
open Go.Hd (lW kX nfl ntr cfl ctr bq ee Bs qD)
theorem fo (x : Bool) : (false || x) = x := Eq.symm (Eq.symm rfl)
theorem pl_nil (c : UInt8) (x : Bool) : ((((((decide (c = 32)) || (decide (c = 9))) && false)) && x) || (((decide (32 < (c.toNat : Int))) && (decide ((c.toNat : Int) < 127))) && (!decide (c = 61)))) = Qp.plainB c [] := by
  have := ee (fun c => (((((((decide (c = 32)) || (decide (c = 9))) && false)) && true) || (((decide (32 < (c.toNat : Int))) && (decide ((c.toNat : Int) < 127))) && (!decide (c = 61)))) == Qp.plainB c []) && ((((((decide (c = 32)) || (decide (c = 9))) && false)) && false) || (((decide (32 < (c.toNat : Int))) && (decide ((c.toNat : Int) < 127))) && (!decide (c = 61)))) == Qp.plainB c []) (by decide +kernel) c
  rw [Bool.and_eq_true, beq_iff_eq, beq_iff_eq] at this
  cases x
  · exact this.2
  · exact this.1
theorem pl_ten (c : UInt8) : ((((((decide (c = 32)) || (decide (c = 9))) && true)) && false) || (((decide (32 < (c.toNat : Int))) && (decide ((c.toNat : Int) < 127))) && (!decide (c = 61)))) = Qp.plainB c [10] := by
  have := ee (fun c => ((((((decide (c = 32)) || (decide (c = 9))) && true)) && false) || (((decide (32 < (c.toNat : Int))) && (decide ((c.toNat : Int) < 127))) && (!decide (c = 61)))) == Qp.plainB c [10]) (by decide +kernel) c
  exact eq_of_beq this
theorem pl_one (c : UInt8) : ((((((decide (c = 32)) || (decide (c = 9))) && true)) && true) || (((decide (32 < (c.toNat : Int))) && (decide ((c.toNat : Int) < 127))) && (!decide (c = 61)))) = Qp.plainB c [0] := by
  have := ee (fun c => ((((((decide (c = 32)) || (decide (c = 9))) && true)) && true) || (((decide (32 < (c.toNat : Int))) && (decide ((c.toNat : Int) < 127))) && (!decide (c = 61)))) == Qp.plainB c [0]) (by decide +kernel) c
  exact eq_of_beq this
theorem qy (c d e : UInt8) (r s : Bs) (h : (d.toNat ≠ 10) ↔ (e.toNat ≠ 10)) : Qp.plainB c (d :: r) = Qp.plainB c (e :: s) := by
  rw [Qp.plainB_cons, Qp.plainB_cons]
  exact decide_eq_decide.2 (by rw [h])
theorem hexA (c : UInt8) : cE ((Go.Av.shr8 c 4).toNat : Int) ([48, 49, 50, 51, 52, 53, 54, 55, 56, 57, 65, 66, 67, 68, 69, 70] : Bs).length = true ∧ at_ ([48, 49, 50, 51, 52, 53, 54, 55, 56, 57, 65, 66, 67, 68, 69, 70] : Bs) ((Go.Av.shr8 c 4).toNat : Int) = Qp.dg (c.toNat / 16) := by
  have := ee (fun c => decide (cE ((Go.Av.shr8 c 4).toNat : Int) ([48, 49, 50, 51, 52, 53, 54, 55, 56, 57, 65, 66, 67, 68, 69, 70] : Bs).length = true ∧ at_ ([48, 49, 50, 51, 52, 53, 54, 55, 56, 57, 65, 66, 67, 68, 69, 70] : Bs) ((Go.Av.shr8 c 4).toNat : Int) = Qp.dg (c.toNat / 16))) (by decide +kernel) c
  exact of_decide_eq_true this
theorem hexB (c : UInt8) : cE ((c &&& 15).toNat : Int) ([48, 49, 50, 51, 52, 53, 54, 55, 56, 57, 65, 66, 67, 68, 69, 70] : Bs).length = true ∧ at_ ([48, 49, 50, 51, 52, 53, 54, 55, 56, 57, 65, 66, 67, 68, 69, 70] : Bs) ((c &&& 15).toNat : Int) = Qp.dg (c.toNat % 16) := by
  have := ee (fun c => decide (cE ((c &&& 15).toNat : Int) ([48, 49, 50, 51, 52, 53, 54, 55, 56, 57, 65, 66, 67, 68, 69, 70] : Bs).length = true ∧ at_ ([48, 49, 50, 51, 52, 53, 54, 55, 56, 57, 65, 66, 67, 68, 69, 70] : Bs) ((c &&& 15).toNat : Int) = Qp.dg (c.toNat % 16))) (by decide +kernel) c
  exact of_decide_eq_true this
theorem code_eq (F : Nat) (c : UInt8) (r : Bs) : kd F c r = some (Qp.code c r) := by
  unfold kd
  have ⟨a1, a2⟩ := hexA c
  have ⟨b1, b2⟩ := hexB c
  simp only [a1, a2, b1, b2, lZ, bj]
  have fin : ∀ b : Bool, b = Qp.plainB c r → (bif b then some ([c] : Bs) else some ([61, Qp.dg (c.toNat / 16), Qp.dg (c.toNat % 16)] : Bs)) = some (Qp.code c r) := by
    intro b hb;subst hb
    unfold Qp.code
    cases Qp.plainB c r <;> rfl
  cases r with
  | nil =>
    have h0 : decide ((0 : Int) < (([] : Bs).length : Int)) = false := rfl
    rw [h0, Bool.and_false, kQ]
    apply fin
    have := pl_nil c (!decide (at_ ([] : Bs) 0 = 10))
    rw [Bool.and_false] at this
    exact this
  | cons d t =>
    have h0 : decide ((0 : Int) < ((d :: t).length : Int)) = true := decide_eq_true (by simp)
    have hA : ∀ (b : Bool) (k : Option Bs), gt b (cE 0 (d :: t).length) k = k := fun b k => by
      rw [show cE 0 (d :: t).length = true from decide_eq_true (by simp)]; cases b <;> rfl
    have h1 : at_ (d :: t) 0 = d := rfl
    rw [h0, hA, h1]
    apply fin
    by_cases hd : d = 10
    · subst hd
      have := pl_ten c
      rw [qy c 10 10 t [] Iff.rfl, ← this]; rfl
    · have hd2 : d.toNat ≠ 10 := fun h => hd (UInt8.toNat_inj.1 h)
      have := pl_one c
      rw [qy c d 0 t [] ⟨fun _ => by decide, fun _ => hd2⟩, ← this, decide_eq_false hd]; rfl
theorem put_eq (F : Nat) (o s : Bs) (n : Nat) (hn : n ≤ 75) (hs : s.length ≤ 3) (ho : o.length ≤ 10000000000) : lR F o (n : Int) s = some (o ++ (Qp.put n s).1, ((Qp.put n s).2 : Int)) := by
  unfold lR ga
  by_cases h : 75 < n + s.length
  · rw [Qp.put_long n s h, ce (by omega), bT (by omega), bp (by simp; omega), bj, bp (by simp; omega), bj, ce (by omega)]
    simp
  · rw [Qp.put_short n s h, ce (by omega), bF (by omega), bp (by omega), bj, ce (by omega)]
    simp
theorem enc_loop (F : Nat) (b : Bs) (hb : b.length ≤ 20000000) : ∀ (m i : Nat) (o : Bs) (n : Nat), b.length - i < m → i ≤ b.length → n ≤ 75 → o.length ≤ 6 * i →
    dl F b m ((i : Int), o, (n : Int)) = some (o ++ Qp.enc n (b.drop i)) := by
  intro m
  induction m with
  | zero => intro i o n h; omega
  | succ m ih =>
    intro i o n hm hi hn ho;show eN F b (dl F b m) (i : Int) o (n : Int) = _
    unfold eN dR eM
    by_cases h : i < b.length
    · rw [bT (by omega), dA (by omega), bj, ec h, Qp.enc_step n b i h]
      by_cases hc : b[i] = 10
      · rw [bT hc, if_pos (by rw [hc]; rfl), bp (by simp; omega), bj, ce (by omega), bV, show (0 : Int) = ((0 : Nat) : Int) from rfl, ih (i + 1) _ 0 (by omega) (by omega) (by omega) (by simp; omega), List.append_assoc]
      · have hc2 : ¬ b[i].toNat = 10 := fun h => hc (UInt8.toNat_inj.1 h)
        have hcl := Qp.code_length b[i] (b.drop (i + 1))
        have hpb := Qp.put_bounds n (Qp.code b[i] (b.drop (i + 1))) hn hcl
        rw [bF hc, if_neg hc2, ce (by omega), kR (by omega), bj, bV, lP, code_eq, bK, put_eq F o _ n hn hcl (by omega), ea, ce (by omega), ih (i + 1) _ _ (by omega) (by omega) hpb.1 (by simp; omega), List.append_assoc]
    · rw [bF (by omega), aI (by omega)]
      simp [Qp.enc]
theorem rA (F : Nat) (b : Bs) (hb : b.length ≤ 20000000) (hF : b.length < F) : jk F b = some (Qp.enc 0 b) := by
  have := enc_loop F b hb F 0 [] 0 (by omega) (by omega) (by omega) (by simp)
  rw [List.drop_zero, List.nil_append] at this
  exact this
theorem Hex_eq (F : Nat) (c : UInt8) : ib F c = some [Qp.dg (c.toNat / 16), Qp.dg (c.toNat % 16)] := by
  have := ee (fun c => decide (ib 0 c = some [Qp.dg (c.toNat / 16), Qp.dg (c.toNat % 16)])) (by decide +kernel) c
  exact of_decide_eq_true this
theorem qS (F : Nat) (b : Bs) (i : Nat) (hb : b.length ≤ 20000000) (h : i < b.length) : fG F b (i : Int) = some (Qp.plainB b[i] (b.drop (i + 1))) := by
  unfold fG
  rw [dA (by omega), bj, ec h]
  have e1 : (decide (b[i] = 32) || decide (b[i] = 9)) = decide (b[i].toNat = 32 ∨ b[i].toNat = 9) := by
    have := ee (fun c => ((decide (c = 32)) || (decide (c = 9))) == decide (c.toNat = 32 ∨ c.toNat = 9)) (by decide +kernel) b[i]
    exact eq_of_beq this
  rw [e1]
  by_cases hc : b[i].toNat = 32 ∨ b[i].toNat = 9
  · rw [bT hc, ce (by omega)]
    by_cases hl : i + 1 < b.length
    · have hten : decide (b[i + 1] = 10) = decide (b[i + 1].toNat = 10) := decide_eq_decide.2 ⟨fun h => by rw [h]; rfl, fun h => UInt8.toNat_inj.1 h⟩
      rw [decide_eq_true (show (i : Int) + 1 < b.length by omega), lU, ce (by omega), lU, dA (by omega), bj, bV, ec hl, kX, hten, Qp.plainB_in _ b (i + 1) hl]
      by_cases h10 : b[i + 1].toNat = 10
      · rw [decide_eq_true h10, decide_eq_false (by omega)]; rfl
      · rw [decide_eq_false h10, decide_eq_true (by omega)]; rfl
    · rw [decide_eq_false (show ¬ (i : Int) + 1 < b.length by omega), kQ, kQ, bj, lW, Qp.plainB_out _ b (i + 1) hl, decide_eq_false (by omega)]
  · rw [bF hc, Qp.plainB_other _ _ hc]
    congr 1
    have := ee (fun c => (((decide (33 ≤ (c.toNat : Int))) && (decide ((c.toNat : Int) ≤ 126))) && (!decide (c = 61))) == decide (33 ≤ c.toNat ∧ c.toNat ≤ 126 ∧ c.toNat ≠ 61)) (by decide +kernel) b[i]
    exact eq_of_beq this
theorem j4_eq (o s : Bs) (n i : Nat) (rec9 : (Bs × Int × Int) → Option Bs) (hn : n ≤ 75) (hs : s.length ≤ 3) (ho : o.length ≤ 10000000000) (hi : i ≤ 20000000) :
    cf o (n : Int) (i : Int) rec9 s = rec9 (o ++ (Qp.put n s).1, ((Qp.put n s).2 : Int), ((i + 1 : Nat) : Int)) := by
  unfold cf cK cx
  by_cases h : 75 < n + s.length
  · rw [Qp.put_long n s h, ce (by omega), bT (by omega), bp (by simp; omega), bj, bp (by simp; omega), bj, ce (by omega), ce (by omega), bV]
    simp
  · rw [Qp.put_short n s h, ce (by omega), bF (by omega), bp (by omega), bj, ce (by omega), ce (by omega), bV]
    simp
theorem qT (F : Nat) (b : Bs) (hb : b.length ≤ 20000000) : ∀ (m i : Nat) (o : Bs) (n : Nat), b.length - i < m → i ≤ b.length → n ≤ 75 → o.length ≤ 6 * i →
    bG F b m (o, (n : Int), (i : Int)) = some (o ++ Qp.enc n (b.drop i)) := by
  intro m
  induction m with
  | zero => intro i o n h; omega
  | succ m ih =>
    intro i o n hm hi hn ho;show dt F b (bG F b m) o (n : Int) (i : Int) = _
    unfold dt dr
    by_cases h : i < b.length
    · rw [bT (by omega), dA (by omega), bj, ec h, Qp.enc_step n b i h]
      by_cases hc : b[i] = 10
      · unfold cx
        rw [bT hc, if_pos (by rw [hc]; rfl), bp (by simp; omega), bj, ce (by omega), bV, show (0 : Int) = ((0 : Nat) : Int) from rfl, ih (i + 1) _ 0 (by omega) (by omega) (by omega) (by simp; omega), List.append_assoc]
      · have hc2 : ¬ b[i].toNat = 10 := fun h => hc (UInt8.toNat_inj.1 h)
        have hcl := Qp.code_length b[i] (b.drop (i + 1))
        have hpb := Qp.put_bounds n (Qp.code b[i] (b.drop (i + 1))) hn hcl
        have key : cf o (n : Int) (i : Int) (bG F b m) (Qp.code b[i] (b.drop (i + 1))) = some (o ++ ((Qp.put n (Qp.code b[i] (b.drop (i + 1)))).1 ++ Qp.enc (Qp.put n (Qp.code b[i] (b.drop (i + 1)))).2 (b.drop (i + 1)))) := by
          rw [j4_eq o _ n i _ hn hcl (by omega) (by omega), ih (i + 1) _ _ (by omega) (by omega) hpb.1 (by simp; omega), List.append_assoc]
        rw [bF hc, if_neg hc2, dA (by omega), bj, Hex_eq, bK, bp (by simp), bj, qS F b i hb h, bK, ← key]
        cases hp : Qp.plainB b[i] (b.drop (i + 1)) with
        | true =>
          have e : Qp.code b[i] (b.drop (i + 1)) = [b[i]] := by unfold Qp.code; rw [hp]; rfl
          have e1 : sub b (i : Int) ((i : Int) + 1) = [b[i]] := by
            rw [bV, sub_nat, List.take_succ_eq_append_getElem h, List.drop_left' (by simp; omega)]
          rw [ctr, ce (by omega), qF (by omega), bj, e1, e]
        | false =>
          have e : Qp.code b[i] (b.drop (i + 1)) = [61, Qp.dg (b[i].toNat / 16), Qp.dg (b[i].toNat % 16)] := by unfold Qp.code; rw [hp]; rfl
          rw [cfl, e]; rfl
    · rw [bF (by omega), aI (by omega)]
      simp [Qp.enc]
theorem pf (F : Nat) (b : Bs) (hb : b.length ≤ 20000000) (hF : b.length < F) : fQ F b = some (Qp.enc 0 b) := by
  have := qT F b hb F 0 [] 0 (by omega) (by omega) (by omega) (by simp)
  rw [List.drop_zero, List.nil_append] at this
  exact this
end Go.Pt
namespace Go.Hd
open Go.Pv Go.Av
def nz : Int → List Bs → Bs
  | _, [] => [13, 10]
  | n, w :: ws => (cL (n, []) w).2 ++ nz (cL (n, []) w).1 ws
theorem pl (n : Int) (o : Bs) (w : Bs) : cL (n, o) w = ((cL (n, []) w).1, o ++ (cL (n, []) w).2) := by
  unfold cL
  by_cases h : 76 < n + 1 + (w.length : Int)
  · rw [if_pos h, if_pos h]; simp
  · rw [if_neg h, if_neg h]; simp
theorem mL : ∀ (ws : List Bs) (n : Int) (o : Bs), (ws.foldl cL (n, o)).2 ++ [13, 10] = o ++ nz n ws
  | [], n, o => rfl
  | w :: ws, n, o => by
    rw [List.foldl_cons, pl n o w, mL ws _ _, nz, List.append_assoc]
theorem rc (a b : Bs) : gp a b = a ++ 58 :: nz ((a.length + 1 : Nat) : Int) (ed b) := by
  unfold gp
  rw [mL]; simp
theorem rk {p : UInt8 → UInt8 → Bool} {c : UInt8} {r : Bs} (h : iQ p (c :: r) = false) : iQ p r = false := by
  cases r with
  | nil => rfl
  | cons d r => rw [iQ, Bool.or_eq_false_iff] at h; exact h.2
def wsum : List Bs → Nat
  | [] => 0
  | w :: ws => w.length + 3 + wsum ws
theorem oO : ∀ (ws : List Bs) (st : Int × Bs), (ws.foldl cL st).2.length ≤ st.2.length + wsum ws
  | [], st => by simp [wsum]
  | w :: ws, st => by
    have h1 := lC st w
    have h2 := oO ws (cL st w)
    rw [List.foldl_cons, wsum]; omega
theorem lv : ∀ ws : List Bs, wsum ws = Str.total ws + 3 * ws.length
  | [] => rfl
  | w :: ws => by rw [wsum, lv ws]; simp [Str.total]; omega
theorem ph (s : Bs) : ∀ n, s.length ≤ n → 42 * (hM s).length ≤ s.length + 42 := by
  intro n
  induction n generalizing s with
  | zero => intro h; have : s = [] := List.eq_nil_of_length_eq_zero (by omega); subst this; simp [ge]
  | succ n ih =>
    intro h
    by_cases h0 : s = []
    · subst h0; simp [ge]
    · have hp := oT s
      have hl := List.length_pos_iff.2 h0
      have h3 := hp.2.2 h0
      have hi := ih (s.drop (pt s)) (by simp; omega)
      rw [jd h0, List.length_cons]
      by_cases h45 : s.length ≤ 45
      · have : pt s = s.length := by unfold pt; rw [if_pos h45]
        rw [this, List.drop_length, ge]; simp
      · have h42 : 42 ≤ pt s := by unfold pt; rw [if_neg h45]; exact (dn_le s 4 (by omega)).1
        rw [List.length_drop] at hi
        omega
theorem kC : ∀ l : List Bs, (∀ w ∈ l, w.length ≤ 104) → wsum l ≤ 107 * l.length
  | [], _ => by simp [wsum]
  | w :: ws, h => by
    have := kC ws (fun x hx => h x (by simp [hx]))
    have := h w (by simp)
    rw [wsum, List.length_cons]; omega
theorem pm (a b : Bs) (h : gn a b = true) (hb : b.length ≤ 600) : (gp a b).length ≤ 1900 := by
  have ha := (ka h).2.2
  have hf := oO (ed b) (((a.length + 1 : Nat) : Int), a ++ [58])
  have hw : wsum (ed b) ≤ 1803 := by
    unfold ed
    cases plainB b with
    | true =>
      have h1 := oH 32 b
      rw [ctr, lv]; omega
    | false =>
      have h1 := ph b b.length (by omega)
      have h2 := kC (hM b) (lB b b.length (by omega)).2
      rw [cfl]; omega
  unfold gp
  rw [List.length_append]
  simp at hf ⊢; omega
end Go.Hd
namespace Go.Hd
open Go.Pv Go.Av
def en : Bs → Option Nat
  | [] => none
  | c :: r => if (c = 13 ∧ r.head? = some 10) ∧ (r.drop 1).head? ≠ some 32 then some 2 else match en r with
    | none => none
    | some n => some (n + 1)
theorem po (x : UInt8) (r sub : Bs) : Go.Lib.index (x :: r) sub = if sub.isPrefixOf (x :: r) = true then 0 else if Go.Lib.index r sub = -1 then -1 else Go.Lib.index r sub + 1 := by
  rw [Go.Lib.index]
  simp only [beq_iff_eq]
theorem fo (x : Bool) : (false || x) = x := Eq.symm (Eq.symm rfl)
theorem hp2 (s : Bs) : Go.Lib.hasPrefix s [13, 10] = (decide (2 ≤ s.length) && (decide (gb s 0 = 13) && decide (gb s 1 = 10))) := by
  unfold Go.Lib.hasPrefix
  match s with
  | [] => rfl
  | [x] => simp [List.isPrefixOf]
  | x :: y :: r =>
    simp only [List.isPrefixOf, List.length_cons, Bool.and_true]
    rw [decide_eq_true (show 2 ≤ r.length + 1 + 1 by omega), kX]
    show (13 == x && 10 == y) = (decide (x = 13) && decide (y = 10))
    rw [bq, bq, Bool.beq_comm, Bool.beq_comm (a := (10 : UInt8))]
end Go.Hd
namespace Go.Pt
open Go.Pv Go.Av
open Go.Hd (lW kX nfl ntr cfl ctr bq ee Bs qD po ez)
open Go.Lib (decDigits)
theorem oQ {n : Nat} (h : n < 10) : decDigits n = [UInt8.ofNat (48 + n)] := by rw [decDigits, dif_pos h]
theorem dd_big {n : Nat} (h : ¬ n < 10) : decDigits n = decDigits (n / 10) ++ [UInt8.ofNat (48 + n % 10)] := by rw [decDigits, dif_neg h]
theorem dd_len : ∀ (m n : Nat), n < m → (decDigits n).length ≤ n + 1 := by
  intro m
  induction m with
  | zero => intro n h; omega
  | succ m ih =>
    intro n h
    by_cases hn : n < 10
    · rw [oQ hn]; simp
    · have := ih (n / 10) (by omega)
      rw [dd_big hn, List.length_append, List.length_singleton]; omega
theorem itoa_eq (n : Nat) : Go.Lib.itoa (n : Int) = decDigits n := by
  unfold Go.Lib.itoa
  rw [if_neg (by omega), Int.toNat_natCast]
theorem rh {r x : Bs} (h : r.length < x.length) : Go.Lib.index r x = -1 := Go.Lib.index_long (Nat.le_of_lt h) (fun e => by rw [e] at h; omega)
def bd (n : Nat) : Bs := [61, 95] ++ decDigits n
def fnd (l : List Bs) (n : Nat) : Bool := l.any fun b => Go.Lib.contains b (bd n)
theorem bd_len (n : Nat) (h : n ≤ 2000000) : 2 ≤ (bd n).length ∧ (bd n).length ≤ 4000000 := by
  have := dd_len (n + 1) n (by omega)
  unfold bd
  rw [List.length_append]
  constructor
  · simp
  · simp; omega
theorem hasC_eq (F : Nat) (b x : Bs) (hb : b.length ≤ 20000000) (h2 : 2 ≤ x.length) (hx : x.length ≤ 20000000) : ic F b x = some (Go.Lib.contains b x) := by
  unfold ic
  rw [bp (by omega), grd_S (by omega), grd_D h2, grd_S (by omega), bj]
theorem rj (F : Nat) (l : List Bs) (x : Bs) (hl : l.length ≤ 20000000) (hb : ∀ b ∈ l, b.length ≤ 20000000) (h2 : 2 ≤ x.length) (hx : x.length ≤ 20000000) : ∀ (m i : Nat), l.length - i < m → i ≤ l.length →
    ∃ r : Int, dF F l x m (i : Int) = some r ∧ decide (0 ≤ r) = (l.drop i).any (fun b => Go.Lib.contains b x) := by
  intro m
  induction m with
  | zero => intro i h; omega
  | succ m ih =>
    intro i hm hi;show ∃ r : Int, dG F l x (dF F l x m) (i : Int) = some r ∧ _
    unfold dG dE
    by_cases h : i < l.length
    · have hd : l.drop i = l[i] :: l.drop (i + 1) := aK h
      rw [bT (by omega), dA (by omega), bj, ec h, hasC_eq F _ x (hb _ (List.getElem_mem h)) h2 hx, bK, hd, List.any_cons]
      cases hc : Go.Lib.contains l[i] x with
      | true => exact ⟨(i : Int), rfl, by rw [decide_eq_true (by omega)]; rfl⟩
      | false =>
        obtain ⟨r, h1, h3⟩ := ih (i + 1) (by omega) (by omega);exact ⟨r, by rw [cfl, ce (by omega), bV, h1], by rw [h3, fo]⟩
    · rw [bF (by omega), aI (by omega)]
      exact ⟨-1, rfl, rfl⟩
theorem nm (F : Nat) (l : List Bs) (x : Bs) (hl : l.length ≤ 20000000) (hF : l.length < F) (hb : ∀ b ∈ l, b.length ≤ 20000000) (h2 : 2 ≤ x.length) (hx : x.length ≤ 20000000) : cW F l x = some (l.any fun b => Go.Lib.contains b x) := by
  obtain ⟨r, h1, h3⟩ := rj F l x hl hb h2 hx F 0 (by omega) (by omega)
  rw [List.drop_zero] at h3
  unfold cW
  have h1' : gz F l x = some r := h1
  rw [h1', bK, h3]
theorem bnd_loop (F : Nat) (l : List Bs) (hl : l.length ≤ 20000000) (hF : l.length < F) (hb : ∀ b ∈ l, b.length ≤ 20000000) (N : Nat) (hN : N ≤ 2000000) (h0 : fnd l N = false) : ∀ (m i : Nat), N - i < m → i ≤ N → (∀ k, i ≤ k → k < N → fnd l k = true) → cS F l m (i : Int) = some (bd N) := by
  intro m
  induction m with
  | zero => intro i h; omega
  | succ m ih =>
    intro i hm hi hk;show cT F l (cS F l m) (i : Int) = _
    unfold cT
    have ⟨b1, b2⟩ := bd_len i (by omega)
    have hd := dd_len (i + 1) i (by omega)
    rw [ce (by omega), bj, itoa_eq, bp (by simp; omega), bj]
    show bnd (cW F l (bd i)) _ = _
    rw [nm F l (bd i) hl hF hb b1 (by omega), bK]
    show (bif !(fnd l i) then some (bd i) else _) = _
    by_cases he : i = N
    · subst he; rw [h0]; rfl
    · rw [hk i (by omega) (by omega), ntr, cfl, ce (by omega), bV, ih (i + 1) (by omega) (by omega) (fun k h1 h2 => hk k (by omega) h2)]
theorem oG (F : Nat) (l : List Bs) (hl : l.length ≤ 20000000) (hF : l.length < F) (hb : ∀ b ∈ l, b.length ≤ 20000000) (N : Nat) (hN : N ≤ 2000000) (hNF : N < F) (h0 : fnd l N = false) (hk : ∀ k, k < N → fnd l k = true) : ei F l = some (bd N) :=
  bnd_loop F l hl hF hb N hN h0 F 0 (by omega) (by omega) (fun k _ h => hk k h)
def val (l : Bs) : Nat := l.foldl (fun a c => 10 * a + (c.toNat - 48)) 0
end Go.Pt
namespace Go.Pt
open Go.Pv Go.Av
open Go.Hd (lW kX nfl ntr cfl ctr bq ee Bs iQ fh nr rk)
def sg (c : UInt8) : Bool := (((((((decide ((97 : Int) ≤ (c.toNat : Int))) && (decide ((c.toNat : Int) ≤ (122 : Int)))) || ((decide ((48 : Int) ≤ (c.toNat : Int))) && (decide ((c.toNat : Int) ≤ (57 : Int))))) || (decide (c = 47))) || (decide (c = 45))) || (decide (c = 61))) || (decide (c = 59)))
def sgb (c : UInt8) : Bool := sg c || decide (c = 32)
theorem sgb_idx (c : UInt8) : decide (Go.Lib.indexByte jZ c < 0) = !sgb c := by
  have := ee (fun c => decide (Go.Lib.indexByte jZ c < 0) == !sgb c) (by decide +kernel) c
  exact eq_of_beq this
def dbl (x y : UInt8) : Bool := x == 32 && y == 32
def kr (s : Bs) : Bool := (s.all sgb && (!decide (s = []) && decide (s.length ≤ 60))) && ((decide (s.head? ≠ some 32) && decide (s.getLast? ≠ some 32)) && !iQ dbl s)
theorem kind_j (s : Bs) : dp s = some ((!decide (s = []) && decide (s.length ≤ 60)) && ((decide (s.head? ≠ some 32) && decide (s.getLast? ≠ some 32)) && !iQ dbl s)) := by
  unfold dp
  have e1 : decide ((s.length : Int) ≤ 60) = decide (s.length ≤ 60) := decide_eq_decide.2 (by omega)
  have hS : ∀ (x : Bool) (k : Option Bool), gt (((!decide (s = ([] : Bs))) && (decide ((s.length : Int) ≤ 60))) && x) (okS s.length) k = k := fun x k => by
    by_cases h : s.length ≤ 60
    · rw [show okS s.length = true from decide_eq_true (by omega)]; cases ((!decide (s = ([] : Bs))) && (decide ((s.length : Int) ≤ 60))) && x <;> rfl
    · rw [decide_eq_false (show ¬ (s.length : Int) ≤ 60 by omega), Bool.and_false, lW, kQ]
  have hS1 : ∀ (k : Option Bool), gt ((!decide (s = ([] : Bs))) && (decide ((s.length : Int) ≤ 60))) (okS s.length) k = k := fun k => by
    have := hS true k
    rwa [Bool.and_true] at this
  rw [hS1, bj, hS, bj, fh]
  have e2 : decide (Go.Lib.trimB s 32 = s) = (decide (s.head? ≠ some 32) && decide (s.getLast? ≠ some 32)) := by
    rw [← Bool.decide_and]; exact decide_eq_decide.2 (nr 32 s)
  rw [e1, e2, Bool.and_assoc ((!decide (s = ([] : Bs))) && (decide (s.length ≤ 60)))]
  rfl
theorem rf (s : Bs) (hs : s.length ≤ 20000000) : ∀ (n i : Nat), s.length - i < n → i ≤ s.length → eP s n (i : Int) = bif (s.drop i).all sgb then dp s else some false := by
  intro n
  induction n with
  | zero => intro i h; omega
  | succ n ih =>
    intro i hn hi;show eQ s (eP s n) (i : Int) = _
    unfold eQ
    by_cases h : i < s.length
    · have hd : s.drop i = s[i] :: s.drop (i + 1) := aK h
      rw [bT (by omega), dA (by omega), bj, ec h, bj, sgb_idx, hd, List.all_cons]
      cases hp : sgb s[i] with
      | false => rw [nfl, ctr, lW, cfl]
      | true => rw [ntr, cfl, ce (by omega), bV, ih (i + 1) (by omega) (by omega), kX]
    · rw [bF (by omega), aI (by omega), List.all_nil, ctr]
theorem kind_eq (F : Nat) (s : Bs) (hs : s.length ≤ 20000000) (hF : s.length < F) : jm F s = some (kr s) := by
  have := rf s hs F 0 (by omega) (by omega)
  rw [List.drop_zero] at this
  refine Eq.trans this ?_
  rw [kind_j]
  unfold kr
  cases s.all sgb <;> rfl
end Go.Pt
namespace Go.Hd
open Go.Pv Go.Av
theorem Line_all (F : Nat) (a b : Bs) (hF : 4200 < F) : eI F a b = some (if gn a b = true then (gp a b, 0) else ([], 1)) := by
  by_cases h : a.length ≤ 40
  · exact Line_eq F a b (by omega) (by omega) hF
  · have hn : gn a b ≠ true := fun ho => h (ka ho).2.2
    unfold eI gc
    rw [if_neg hn, decide_eq_false (show ¬ (a.length : Int) ≤ 40 by omega), qt, lW, bK]; rfl
def okX (x : Bs × Bs) : Bool := gn x.1 x.2
def lnX (x : Bs × Bs) : Bs := gp x.1 x.2
theorem qj (F : Nat) (hF : 900000 < F) (l : List (Bs × Bs)) (hl : l.length ≤ 1000000) : ∀ (m i : Nat) (ls : List Bs), l.length - i < m → i ≤ l.length → ls.length ≤ i →
    eu F l m (ls, (i : Int)) = some (bif (l.drop i).all okX then (ls ++ (l.drop i).map lnX, 0) else ([], 1)) := by
  intro m
  induction m with
  | zero => intro i ls h; omega
  | succ m ih =>
    intro i ls hm hi hh;show ew F l (eu F l m) ls (i : Int) = _
    unfold ew et
    by_cases h : i < l.length
    · have hd : l.drop i = l[i] :: l.drop (i + 1) := aK h
      rw [bT (by omega), dA (by omega), bj, ec h, Line_all F _ _ (by omega), hd, List.all_cons]
      by_cases ho : gn l[i].1 l[i].2 = true
      · have hb : okX l[i] = true := ho
        rw [if_pos ho, ea, decide_eq_true rfl, ntr, cfl, bp (by simp; omega), bj, ce (by omega), bV, ih (i + 1) _ (by omega) (by omega) (by simp; omega), hb, kX, List.map_cons, List.append_assoc]
        rfl
      · have hb : okX l[i] = false := by unfold okX; simpa using ho
        rw [if_neg ho, ea, decide_eq_false (show ¬ (1 : Int) = 0 by omega), nfl, ctr, hb, lW, cfl]
    · have hd : l.drop i = [] := aI (by omega)
      rw [bF (by omega), hd]; simp
def nq (l : List (Bs × Bs)) : Bs × Int := bif decide (l.length ≤ 50) then (bif l.all okX then ((l.map lnX).flatten ++ [13, 10], 0) else ([], 1)) else ([], 4)
theorem flat_len : ∀ (l : List (Bs × Bs)), (∀ x ∈ l, x.2.length ≤ 600) → l.all okX = true → ((l.map lnX).flatten).length ≤ 1900 * l.length
  | [], _, _ => by simp
  | x :: l, h, ha => by
    rw [List.all_cons, Bool.and_eq_true] at ha
    have := flat_len l (fun y hy => h y (by simp [hy])) ha.2
    have h1 := pm x.1 x.2 ha.1 (h x (by simp))
    rw [List.map_cons, List.flatten_cons, List.length_append, List.length_cons]
    have e : lnX x = gp x.1 x.2 := rfl
    rw [e]; omega
theorem All_eq (F : Nat) (hF : 900000 < F) (l : List (Bs × Bs)) (hx : ∀ x ∈ l, x.2.length ≤ 600) : ik F l = some (nq l) := by
  unfold ik nq
  by_cases h : l.length ≤ 50
  · have he : iD F l = _ := qj F hF l (by omega) F 0 [] (by omega) (by omega) (by simp)
    rw [bF (by omega), decide_eq_true h, ctr, he, List.drop_zero]
    cases ha : l.all okX with
    | false => rw [cfl, cfl, ea, decide_eq_false (show ¬ (1 : Int) = 0 by omega), nfl, ctr]
    | true =>
      have hfl := flat_len l hx ha
      rw [ctr, ctr, ea, decide_eq_true rfl, ntr, cfl, List.nil_append]
      have hj : jt (l.map lnX) = true := by
        unfold jt
        rw [decide_eq_true (show ((l.map lnX).flatten).length ≤ 1000000000 by omega), decide_eq_true (show (l.map lnX).length ≤ 1000000000 by simp; omega)]
        cases l with
        | nil => rfl
        | cons x l =>
          have e : lnX x = gp x.1 x.2 := rfl
          have : ((x :: l).map lnX).flatten ≠ [] := by
            rw [List.map_cons, List.flatten_cons, e, rc]; simp
          cases hf : ((x :: l).map lnX).flatten with
          | nil => exact absurd hf this
          | cons y r => simp
      rw [hj, lZ, bj, bp (by simp only [List.length_append, List.length_cons, List.length_nil]; omega), bj]
  · rw [bT (by omega), decide_eq_false h, cfl]
def body : Int → List Bs → Bs
  | _, [] => []
  | n, w :: ws => (cL (n, []) w).2 ++ body (cL (n, []) w).1 ws
end Go.Hd
namespace Go.Pt
open Go.Pv Go.Av
open Go.Hd (lW kX nfl ntr cfl ctr bq ee Bs ez nq)
def okn (c : UInt8) : Option UInt8 → Bool
  | none => decide (c ≠ 61)
  | some d => decide (c ≠ 61) || decide (d ≠ 95)
def sf : Bs → Bool
  | [] => true
  | c :: r => okn c r.head? && sf r
theorem nA : ∀ (a b : Bs), sf a = true → sf b = true → sf (a ++ b) = true
  | [], b, _, h => h
  | [c], b, h, g => by
    rw [sf, Bool.and_eq_true] at h
    have hc : c ≠ 61 := of_decide_eq_true h.1
    show sf (c :: b) = true
    rw [sf, g, Bool.and_true]
    cases b with
    | nil => exact decide_eq_true hc
    | cons d t => show (decide (c ≠ 61) || _) = true; rw [decide_eq_true hc]; rfl
  | c :: d :: r, b, h, g => by
    rw [sf, Bool.and_eq_true] at h
    show sf (c :: d :: (r ++ b)) = true
    rw [sf, Bool.and_eq_true]
    exact ⟨h.1, nA (d :: r) b h.2 g⟩
theorem qv (x : Bs) : ∀ s : Bs, sf s = true → Go.Lib.contains s ([61, 95] ++ x) = false
  | [], _ => by
    unfold Go.Lib.contains
    rw [rh (r := []) (by simp)]; rfl
  | c :: r, h => by
    rw [sf, Bool.and_eq_true] at h
    rw [ez, qv x r h.2, Bool.or_false]
    cases r with
    | nil => simp [List.isPrefixOf]
    | cons d t =>
      have h1 : (decide (c ≠ 61) || decide (d ≠ 95)) = true := h.1
      show ((61 == c) && ((95 == d) && _)) = false
      by_cases hc : c = 61
      · subst hc
        have hd : d ≠ 95 := by simpa using h1
        have : ((95 : UInt8) == d) = false := by simpa using fun e => hd e.symm
        rw [this]; simp
      · have : ((61 : UInt8) == c) = false := by simpa using fun e => hc e.symm
        rw [this]; rfl
theorem dg_ne (n : Nat) (h : n < 16) : Qp.dg n ≠ 95 ∧ Qp.dg n ≠ 61 := by
  have : ∀ k : Fin 16, Qp.dg k.val ≠ 95 ∧ Qp.dg k.val ≠ 61 := by decide +kernel
  exact this ⟨n, h⟩
theorem qw (c : UInt8) (r : Bs) : sf (Qp.code c r) = true := by
  rcases Qp.code_cases c r with ⟨_, e, h61, _⟩ | e
  · rw [e]
    have : c ≠ 61 := fun hh => h61 (by rw [hh]; rfl)
    simp [sf, okn, this]
  · rw [show Qp.code c r = [61, Qp.dg (c.toNat / 16), Qp.dg (c.toNat % 16)] from by first | exact e | exact e.1]
    have h8 := c.toNat_lt
    have ⟨a1, a2⟩ := dg_ne (c.toNat / 16) (by omega)
    have ⟨b1, b2⟩ := dg_ne (c.toNat % 16) (by omega)
    simp [sf, okn, a1, a2, b2]
theorem qo : ∀ (b : Bs) (n : Nat), sf (Qp.enc n b) = true
  | [], n => by simp [Qp.enc, sf]
  | c :: r, n => by
    rw [Qp.enc]
    split
    · exact nA _ _ (by decide) (qo r 0)
    · refine nA _ _ ?_ (qo r _)
      unfold Qp.put
      split
      · exact nA _ _ (by decide) (qw c r)
      · exact qw c r
theorem fnd_enc (l : List Bs) : fnd (l.map (Qp.enc 0)) 0 = false := by
  unfold fnd
  rw [List.any_map, List.any_eq_false]
  intro b hb
  have := qv (Go.Lib.decDigits 0) (Qp.enc 0 b) (qo b 0)
  show ¬ Go.Lib.contains (Qp.enc 0 b) (bd 0) = true
  rw [show bd 0 = [61, 95] ++ Go.Lib.decDigits 0 from rfl, this]; simp
theorem bd0 : bd 0 = [61, 95, 48] := by
  unfold bd
  rw [oQ (by omega)]; rfl
def ct : Bs := [67, 111, 110, 116, 101, 110, 116, 45, 84, 121, 112, 101]
def qpn : Bs := [113, 117, 111, 116, 101, 100, 45, 112, 114, 105, 110, 116, 97, 98, 108, 101]
def hs2 (k : Bs) : List (Bs × Bs) := [(ct, k), (parta_k2, qpn)]
def hdr (k : Bs) : Bs := (nq (hs2 k)).1
theorem hs2_in (k : Bs) (hk : k.length ≤ 600) : ∀ x ∈ hs2 k, x.1.length ≤ 100 ∧ x.2.length ≤ 600 := by
  have h2 : parta_k2.length = 25 := by decide +kernel
  intro x hx
  simp only [hs2, List.mem_cons, List.not_mem_nil, or_false] at hx
  rcases hx with rfl | rfl
  · exact ⟨by simp [ct], hk⟩
  · exact ⟨by rw [h2]; omega, by simp [qpn]⟩
theorem lc (k : Bs) (hk : k.length ≤ 600) : (hdr k).length ≤ 4000 := by
  unfold hdr nq
  have hf := Go.Hd.flat_len (hs2 k) (fun x hx => (hs2_in k hk x hx).2)
  cases h : (hs2 k).all Go.Hd.okX with
  | false => cases decide ((hs2 k).length ≤ 50) <;> simp
  | true =>
    have := hf h
    have h2 : (hs2 k).length = 2 := rfl
    cases decide ((hs2 k).length ≤ 50)
    · simp
    · rw [ctr, ctr]
      dsimp only
      simp only [List.length_append, List.length_cons, List.length_nil]
      omega
def mB (x k c : Bs) : Bs := ([45, 45] ++ x ++ [13, 10]) ++ hdr k ++ c ++ [13, 10]
theorem put_eq1 (F : Nat) (hF : 18000000 < F) (o x k c : Bs) (ho : o.length ≤ 200000000) (hx : x.length ≤ 20000000) (hk : k.length ≤ 600) (hc : c.length ≤ 200000000) : jh F o x k c = some (o ++ mB x k c) := by
  have hl := lc k hk
  have hA := Go.Hd.All_eq F (by omega) (hs2 k) (fun y hy => (hs2_in k hk y hy).2)
  unfold jh fI
  have e : ik F ([(([67, 111, 110, 116, 101, 110, 116, 45, 84, 121, 112, 101] : Bs), k), (parta_k2, ([113, 117, 111, 116, 101, 100, 45, 112, 114, 105, 110, 116, 97, 98, 108, 101] : Bs))] : List (Bs × Bs)) = some (hdr k, (nq (hs2 k)).2) := hA
  rw [e, ea]
  simp (disch := (first | omega | (simp only [List.length_append, List.length_cons, List.length_nil]; omega))) only [bp, bj]
  unfold mB
  simp
def kY (x : Bs) : Bs := [45, 45] ++ x ++ [45, 45] ++ [13, 10]
def body (x : Bs) : List Bs → List Bs → Bs
  | k :: ks, c :: cs => mB x k c ++ body x ks cs
  | _, _ => []
theorem rg (F : Nat) (hF : 18000000 < F) (ks cs : List Bs) (x : Bs) (hx : x.length ≤ 1000) (hl : ks.length = cs.length) (h8 : cs.length ≤ 8) (hk : ∀ k ∈ ks, k.length ≤ 600) (hc : ∀ c ∈ cs, c.length ≤ 12000000) : ∀ (m i : Nat) (o : Bs), cs.length - i < m → i ≤ cs.length → o.length ≤ 12200000 * i →
    eT F ks cs x m ((i : Int), o) = some (o ++ body x (ks.drop i) (cs.drop i) ++ kY x, x, 0) := by
  intro m
  induction m with
  | zero => intro i o h; omega
  | succ m ih =>
    intro i o hm hi ho;show eV F ks cs x (eT F ks cs x m) (i : Int) o = _
    unfold eV
    by_cases h : i < cs.length
    · have hd : cs.drop i = cs[i] :: cs.drop (i + 1) := aK h
      have hd2 : ks.drop i = ks[i]'(by omega) :: ks.drop (i + 1) := aK (by omega)
      have hkl := hk _ (List.getElem_mem (show i < ks.length by omega))
      have hcl := hc _ (List.getElem_mem h)
      have hh := lc _ hkl
      have hol : (mB x (ks[i]'(by omega)) cs[i]).length ≤ 12200000 := by unfold mB; simp only [List.length_append, List.length_cons, List.length_nil]; omega
      rw [bT (by omega), dA (by omega), bj, ec h, dA (by omega), bj, ec (by omega), put_eq1 F hF o x _ _ (by omega) (by omega) hkl (by omega), bK, ce (by omega), bV, ih (i + 1) _ (by omega) (by omega) (by rw [List.length_append]; omega), hd, hd2, body]
      simp only [List.append_assoc]
    · rw [bF (by omega), aI (show cs.length ≤ i by omega)]
      have hb : body x (ks.drop i) [] = [] := by cases ks.drop i <;> rfl
      unfold eR
      rw [hb]
      simp (disch := (first | omega | (simp only [List.length_append, List.length_cons, List.length_nil]; omega))) only [bp, bj]
      unfold kY
      simp
def lY (ks l : List Bs) : Bs := body (bd 0) ks (l.map (Qp.enc 0)) ++ kY (bd 0)
def okJ (ks l : List Bs) : Bool := (decide (ks.length = l.length) && (!decide (l.length = 0) && decide (l.length ≤ 8))) && ks.all kr
def gq (ks l : List Bs) : Bs × Bs × Int := bif okJ ks l then (lY ks l, bd 0, 0) else ([], [], 1)
theorem mK {k : Bs} (h : kr k = true) : k.length ≤ 60 := by
  unfold kr at h
  simp only [Bool.and_eq_true, decide_eq_true_eq] at h
  exact h.1.2.2
theorem ri (F : Nat) (l : List Bs) (hl : l.length ≤ 20000000) (hb : ∀ b ∈ l, b.length ≤ 20000000 ∧ b.length < F) : ∀ (m i : Nat), l.length - i < m → i ≤ l.length →
    ∃ r : Int, dC F l m (i : Int) = some r ∧ decide (0 ≤ r) = !(l.drop i).all kr := by
  intro m
  induction m with
  | zero => intro i h; omega
  | succ m ih =>
    intro i hm hi;show ∃ r : Int, dD F l (dC F l m) (i : Int) = some r ∧ _
    unfold dD dB jl
    by_cases h : i < l.length
    · have hd : l.drop i = l[i] :: l.drop (i + 1) := aK h
      have ⟨h1, h2⟩ := hb _ (List.getElem_mem h)
      rw [bT (by omega), dA (by omega), bj, ec h, kind_eq F _ h1 h2, bK, bK, hd, List.all_cons]
      cases hc : kr l[i] with
      | false => exact ⟨(i : Int), rfl, by rw [decide_eq_true (by omega)]; rfl⟩
      | true =>
        obtain ⟨r, h1, h3⟩ := ih (i + 1) (by omega) (by omega);exact ⟨r, by rw [ntr, cfl, ce (by omega), bV, h1], by rw [h3, kX]⟩
    · rw [bF (by omega), aI (by omega)]
      exact ⟨-1, rfl, rfl⟩
theorem nl (F : Nat) (l : List Bs) (hl : l.length ≤ 20000000) (hF : l.length < F) (hb : ∀ b ∈ l, b.length ≤ 20000000 ∧ b.length < F) : dH F l = some (!l.all kr) := by
  obtain ⟨r, h1, h3⟩ := ri F l hl hb F 0 (by omega) (by omega)
  rw [List.drop_zero] at h3
  unfold dH
  have h1' : gy F l = some r := h1
  rw [h1', bK, h3]
theorem rq (F : Nat) (hF : 20000000 < F) (ks l : List Bs) (hl : l.length ≤ 8) (hb : ∀ b ∈ l, b.length ≤ 2000000) : ∀ (m i : Nat) (cs : List Bs), l.length - i < m → i ≤ l.length → cs.length ≤ i →
    eS F ks l m (cs, (i : Int)) = dS F ks (cs ++ (l.drop i).map (Qp.enc 0)) := by
  intro m
  induction m with
  | zero => intro i cs h; omega
  | succ m ih =>
    intro i cs hm hi hc;show eU F ks l (eS F ks l m) cs (i : Int) = _
    unfold eU
    by_cases h : i < l.length
    · have hd : l.drop i = l[i] :: l.drop (i + 1) := aK h
      have := hb _ (List.getElem_mem h)
      rw [bT (by omega), dA (by omega), bj, ec h, rA F _ (by omega) (by omega), bK, bp (by simp; omega), bj, ce (by omega), bV, ih (i + 1) _ (by omega) (by omega) (by simp; omega), hd, List.map_cons, List.append_assoc]
      rfl
    · rw [bF (by omega), aI (by omega), List.map_nil, List.append_nil]
theorem qr (l : List Bs) (hb : ∀ b ∈ l, b.length ≤ 2000000) : ∀ c ∈ l.map (Qp.enc 0), c.length ≤ 12000000 := fun c hc => by
  obtain ⟨b, hb1, rfl⟩ := List.mem_map.1 hc
  have := Qp.enc_length b 0
  have := hb b hb1
  omega
theorem ny (F : Nat) (hF : 20000000 < F) (ks l : List Bs) (hk : ∀ k ∈ ks, k.length ≤ 2000000) (hb : ∀ b ∈ l, b.length ≤ 2000000) : eH F ks l = some (gq ks l) := by
  unfold eH gq okJ
  have e1 : decide ((ks.length : Int) = (l.length : Int)) = decide (ks.length = l.length) := decide_eq_decide.2 (by omega)
  have e2 : decide ((l.length : Int) = 0) = decide (l.length = 0) := decide_eq_decide.2 (by omega)
  have e3 : decide (8 < (l.length : Int)) = !decide (l.length ≤ 8) := by
    by_cases h : l.length ≤ 8
    · rw [decide_eq_true h, decide_eq_false (by omega)]; rfl
    · rw [decide_eq_false h, decide_eq_true (by omega)]; rfl
  rw [e1, e2, e3]
  by_cases hc : ks.length = l.length ∧ l.length ≠ 0 ∧ l.length ≤ 8
  · rw [decide_eq_true hc.1, decide_eq_false hc.2.1, decide_eq_true hc.2.2]
    have hK := nl F ks (by omega) (by omega) (fun k h => by have := hk k h; omega)
    simp only [ntr, nfl, fo, kX]
    rw [qs, hK, bK]
    cases ha : ks.all kr with
    | false => rfl
    | true =>
      rw [ntr, cfl, ctr]
      have h1 := rq F hF ks l hc.2.2 hb F 0 [] (by omega) (by omega) (by simp)
      refine Eq.trans h1 ?_
      rw [List.nil_append, List.drop_zero]
      unfold dS
      have hcs := qr l hb
      have hlen : (l.map (Qp.enc 0)).length = l.length := List.length_map _
      rw [oG F _ (by omega) (by omega) (fun b hb => by have := hcs b hb; omega) 0 (by omega) (by omega) (fnd_enc l) (fun k h => by omega), bK]
      have hkk : ∀ k ∈ ks, k.length ≤ 600 := fun k h => by have := mK (List.all_eq_true.1 ha k h); omega
      have hb0 : (bd 0).length ≤ 1000 := by rw [bd0]; simp
      have h2 := rg F (by omega) ks (l.map (Qp.enc 0)) (bd 0) hb0 (by omega) (by omega) hkk hcs F 0 [] (by omega) (by omega) (by simp)
      refine Eq.trans h2 ?_
      rw [List.nil_append, List.drop_zero, List.drop_zero]; rfl
  · have hf : (decide (ks.length = l.length) && (!decide (l.length = 0) && decide (l.length ≤ 8))) = false := by
      by_cases h1 : ks.length = l.length
      · by_cases h2 : l.length = 0
        · rw [decide_eq_true h2]; simp
        · rw [decide_eq_false (show ¬ l.length ≤ 8 from fun h3 => hc ⟨h1, h2, h3⟩)]; simp
      · rw [decide_eq_false h1]; rfl
    have hg : (((!decide (ks.length = l.length)) || (decide (l.length = 0))) || (!decide (l.length ≤ 8))) = true := by
      have : (((!decide (ks.length = l.length)) || (decide (l.length = 0))) || (!decide (l.length ≤ 8))) = !(decide (ks.length = l.length) && (!decide (l.length = 0) && decide (l.length ≤ 8))) := by
        cases decide (ks.length = l.length) <;> cases decide (l.length = 0) <;> cases decide (l.length ≤ 8) <;> rfl
      rw [this, hf]; rfl
    rw [hg, hf, ntr, qt, Bool.true_or, ctr, lW, cfl]
end Go.Pt
namespace Go.Pt
open Go.Pv Go.Av
open Go.Hd (lW kX nfl ntr cfl ctr Bs)
theorem few_in (l : List Bs) (hl : l.length ≤ 10) : ∀ (n i : Nat), l.length - i < n → i ≤ l.length → ∃ b, eZ l n (i : Int) = some b ∧ (b = true → ∀ x ∈ l.drop i, x.length ≤ 300) := by
  intro n
  induction n with
  | zero => intro i h; omega
  | succ n ih =>
    intro i hn hi;show ∃ b, fb l (eZ l n) (i : Int) = some b ∧ _
    unfold fb eX
    by_cases h : i < l.length
    · obtain ⟨b, h1, h2⟩ := ih (i + 1) (by omega) (by omega)
      rw [bT (by omega), dA (by omega), bj, ec h, aK h]
      by_cases hc : 300 < (l[i].length : Int)
      · rw [bT hc]; exact ⟨false, rfl, fun h => by cases h⟩
      · rw [bF hc]
        refine ⟨b, by rw [ce (by omega), bV, h1], fun hb x hx => ?_⟩
        rcases List.mem_cons.1 hx with rfl | hx
        · omega
        · exact h2 hb x hx
    · rw [bF (by omega), aI (by omega)]
      exact ⟨true, rfl, fun _ x hx => by cases hx⟩
theorem few_out (F : Nat) (hF : 100 < F) (k l : List Bs) (hk : k.length ≤ 10) (hl : l.length ≤ 10) : ∀ (n i : Nat), k.length - i < n → i ≤ k.length → ∃ b, eY F k l n (i : Int) = some b ∧ (b = true → (∀ x ∈ k.drop i, x.length ≤ 100) ∧ ∀ x ∈ l, x.length ≤ 300) := by
  intro n
  induction n with
  | zero => intro i h; omega
  | succ n ih =>
    intro i hn hi;show ∃ b, fa F k l (eY F k l n) (i : Int) = some b ∧ _
    unfold fa eW
    by_cases h : i < k.length
    · obtain ⟨b, h1, h2⟩ := ih (i + 1) (by omega) (by omega)
      rw [bT (by omega), dA (by omega), bj, ec h, aK h]
      by_cases hc : 100 < (k[i].length : Int)
      · rw [bT hc]; exact ⟨false, rfl, fun h => by cases h⟩
      · rw [bF hc]
        refine ⟨b, by rw [ce (by omega), bV, h1], fun hb => ⟨fun x hx => ?_, (h2 hb).2⟩⟩
        rcases List.mem_cons.1 hx with rfl | hx
        · omega
        · exact (h2 hb).1 x hx
    · rw [bF (by omega), aI (by omega)]
      obtain ⟨b, h1, h2⟩ := few_in l hl F 0 (by omega) (by omega)
      rw [List.drop_zero] at h2
      exact ⟨b, h1, fun hb => ⟨fun x hx => (by cases hx), h2 hb⟩⟩
theorem Few_eq (F : Nat) (hF : 100 < F) (k l : List Bs) : ∃ b, ie F k l = some b ∧ (b = true → (k.length ≤ 10 ∧ l.length ≤ 10) ∧ (∀ x ∈ k, x.length ≤ 100) ∧ ∀ x ∈ l, x.length ≤ 300) := by
  unfold ie
  by_cases h : k.length ≤ 10 ∧ l.length ≤ 10
  · obtain ⟨b, h1, h2⟩ := few_out F hF k l h.1 h.2 F 0 (by omega) (by omega)
    rw [decide_eq_false (show ¬ 10 < (k.length : Int) by omega), decide_eq_false (show ¬ 10 < (l.length : Int) by omega), fo, cfl]
    rw [List.drop_zero] at h2
    exact ⟨b, h1, fun hb => ⟨h, h2 hb⟩⟩
  · have : ((decide (10 < (k.length : Int))) || (decide (10 < (l.length : Int)))) = true := by
      simp only [Bool.or_eq_true, decide_eq_true_eq]; omega
    rw [this, ctr]
    exact ⟨false, rfl, fun h => by cases h⟩
end Go.Pt
namespace Go.Pt
open Go.Pv Go.Av
open Go.Hd (lW kX nfl ntr cfl ctr bq Bs)
theorem oS (x : Bs) : ∀ (ks cs : List Bs) (k c : Bs), ks.length = cs.length → body x (ks ++ [k]) (cs ++ [c]) = body x ks cs ++ mB x k c
  | [], [], k, c, _ => by simp [body]
  | k0 :: ks, c0 :: cs, k, c, h => by
    have := oS x ks cs k c (by simpa using h)
    simp only [List.cons_append, body, this, List.append_assoc]
  | [], c0 :: cs, k, c, h => by simp at h
  | k0 :: ks, [], k, c, h => by simp at h
theorem qL (x : Bs) (hx : x.length ≤ 1000) : ∀ ks cs : List Bs, (∀ k ∈ ks, k.length ≤ 600) → (∀ c ∈ cs, c.length ≤ 12000000) → (body x ks cs).length ≤ 12200000 * cs.length
  | k :: ks, c :: cs, hk, hc => by
    have := qL x hx ks cs (fun k h => hk k (List.mem_cons_of_mem _ h)) (fun c h => hc c (List.mem_cons_of_mem _ h))
    have h1 := lc k (hk k (List.mem_cons_self ..))
    have h2 := hc c (List.mem_cons_self ..)
    have h3 : (mB x k c).length ≤ 12200000 := by unfold mB; simp only [List.length_append, List.length_cons, List.length_nil]; omega
    rw [body, List.length_append, List.length_cons]; omega
  | [], cs, _, _ => by simp [body]
  | k :: ks, [], _, _ => by simp [body]
theorem qB {ks l : List Bs} (h : okJ ks l = true) : ks.length = l.length ∧ l.length ≤ 8 ∧ ∀ k ∈ ks, k.length ≤ 600 := by
  unfold okJ at h
  simp only [Bool.and_eq_true, decide_eq_true_eq] at h
  exact ⟨h.1.1, h.1.2.2, fun k hk => by have := mK (List.all_eq_true.1 h.2 k hk); omega⟩
theorem qk (F : Nat) (hF : 20000000 < F) (hw : fJ F = some true) (ks l : List Bs) (k b : Bs) (hks : ks.length ≤ 200000000) (hls : l.length ≤ 200000000)
    (hk1 : ∀ k ∈ ks, k.length ≤ 2000000) (hb1 : ∀ b ∈ l, b.length ≤ 2000000) (hk : k.length ≤ 2000000) (hb : b.length ≤ 2000000) : dJ F ks l k b = some true := by
  unfold dJ
  obtain ⟨f, h1, h2⟩ := Few_eq F (by omega) (ks ++ [k]) (l ++ [b])
  have hk2 : ∀ x ∈ ks ++ [k], x.length ≤ 2000000 := fun x hx => by
    rcases List.mem_append.1 hx with h | h
    · exact hk1 x h
    · rw [List.mem_singleton.1 h]; exact hk
  have hb2 : ∀ x ∈ l ++ [b], x.length ≤ 2000000 := fun x hx => by
    rcases List.mem_append.1 hx with h | h
    · exact hb1 x h
    · rw [List.mem_singleton.1 h]; exact hb
  rw [hw, bK, bp (by omega), bp (by simp; omega), bj, bp (by omega), bp (by simp; omega), bj, h1, bK, ny F hF ks l hk1 hb1]
  cases ho : okJ ks l with
  | false =>
    have e : gq ks l = ([], [], 1) := by unfold gq; rw [ho, cfl]
    rw [e, ij, bp (by omega), bp (by simp; omega), bj, bp (by omega), bp (by simp; omega), bj, ny F hF _ _ hk2 hb2]
    obtain ⟨p, q, r⟩ := gq (ks ++ [k]) (l ++ [b])
    rw [ij, decide_eq_false (show ¬ (1 : Int) = 0 by omega), nfl, Bool.or_true, Bool.true_or, Bool.true_or, Bool.true_or, ctr]
  | true =>
    have e : gq ks l = (lY ks l, bd 0, 0) := by unfold gq; rw [ho, ctr]
    rw [e, ij, bp (by omega), bp (by simp; omega), bj, bp (by omega), bp (by simp; omega), bj, ny F hF _ _ hk2 hb2]
    cases ho2 : okJ (ks ++ [k]) (l ++ [b]) with
    | false =>
      have e2 : gq (ks ++ [k]) (l ++ [b]) = ([], [], 1) := by unfold gq; rw [ho2, cfl]
      rw [e2, ij, decide_eq_false (show ¬ (1 : Int) = 0 by omega), nfl, Bool.or_true, Bool.true_or, Bool.true_or, ctr]
    | true =>
      have e2 : gq (ks ++ [k]) (l ++ [b]) = (lY (ks ++ [k]) (l ++ [b]), bd 0, 0) := by unfold gq; rw [ho2, ctr]
      obtain ⟨hl1, hl8, hkk⟩ := qB ho;obtain ⟨hm1, hm8, hkk2⟩ := qB ho2
      have hcs := qr l hb1
      have hcb : (Qp.enc 0 b).length ≤ 12000000 := qr [b] (fun x hx => by rw [List.mem_singleton.1 hx]; exact hb) _ (by simp)
      have hb0 : (bd 0).length = 3 := by rw [bd0]; rfl
      -- the texts
      obtain ⟨B, hB⟩ : ∃ B, B = body (bd 0) ks (l.map (Qp.enc 0)) := ⟨_, rfl⟩;obtain ⟨O, hO⟩ : ∃ O, O = mB (bd 0) k (Qp.enc 0 b) := ⟨_, rfl⟩
      have ex : lY ks l = B ++ kY (bd 0) := by unfold lY; rw [hB]
      have ey : lY (ks ++ [k]) (l ++ [b]) = (B ++ O) ++ kY (bd 0) := by unfold lY; rw [List.map_append, List.map_cons, List.map_nil, oS _ _ _ _ _ (by rw [List.length_map]; exact hl1), hB, hO]
      have hBl : B.length ≤ 160000000 := by
        have := qL (bd 0) (by omega) ks (l.map (Qp.enc 0)) hkk hcs
        rw [List.length_map] at this
        rw [hB]; omega
      have hel : (kY (bd 0)).length = 9 := by unfold kY; simp only [List.length_append, List.length_cons, List.length_nil, hb0]
      have hOl : O.length ≤ 14000000 ∧ (Qp.enc 0 b).length + 9 ≤ O.length := by
        have := lc k (hkk2 k (by simp))
        rw [hO]; unfold mB
        simp only [List.length_append, List.length_cons, List.length_nil, hb0]
        omega
      have hO2 : O.take 5 = [45, 45] ++ bd 0 := by
        have hc : ([45, 45] ++ bd 0 : Bs).length = 5 := by simp [hb0]
        rw [hO]; unfold mB
        rw [List.append_assoc, List.append_assoc, List.append_assoc, List.take_append_of_le_length (by omega), List.take_of_length_le (by omega)]
      rw [e2, ij, ex, ey]
      have n1 : (((B ++ kY (bd 0)).length : Int) - ((bd 0).length : Int)) - 6 = (B.length : Int) := by rw [List.length_append, hel, hb0]; omega
      have n2 : ((((B ++ O) ++ kY (bd 0)).length : Nat) : Int) = (B.length : Int) + (O.length : Int) + 9 := by rw [List.length_append, List.length_append, hel]; omega
      rw [decide_eq_true (rfl : (0 : Int) = 0), decide_eq_true (rfl : bd 0 = bd 0)]
      cases hf : (((((!true) || (!f)) || (!true)) || (!true)) || (!true)) || decide (6 < (l.length : Int)) with
      | true => rw [ctr]
      | false =>
        rw [cfl, n1]
        have ok1 : decide ((B.length : Int) < 0) = false := decide_eq_false (by omega)
        have ok2 : decide ((((B ++ O) ++ kY (bd 0)).length : Int) < ((B.length : Int) + 2) + ((bd 0).length : Int)) = false := decide_eq_false (by rw [n2, hb0]; omega)
        have t1 : to_ ((B ++ O) ++ kY (bd 0)) (B.length : Int) = B := by unfold to_; rw [Int.toNat_natCast, List.append_assoc, List.take_left]
        have t2 : to_ (B ++ kY (bd 0)) (B.length : Int) = B := by unfold to_; rw [Int.toNat_natCast, List.take_left]
        have t3 : sub ((B ++ O) ++ kY (bd 0)) (B.length : Int) (((B.length : Int) + 2) + ((bd 0).length : Int)) = [45, 45] ++ bd 0 := by
          unfold sub
          have : ((((B.length : Int) + 2) + ((bd 0).length : Int)).toNat) = B.length + 5 := by rw [hb0]; omega
          rw [this, Int.toNat_natCast, List.append_assoc]
          first
          | rw [List.drop_take, List.drop_left, Nat.add_sub_cancel_left, List.take_append_of_le_length (by omega), hO2]
          | (rw [List.take_drop, List.drop_take, List.drop_left, Nat.add_sub_cancel_left, List.take_append_of_le_length (by omega), hO2])
        have gI : ∀ (c : Bool) (n : Int) (x : Option Bool), -1000000000 ≤ n ∧ n ≤ 1000000000 → gt c (okI n) x = x := fun c n x h => by
          cases c with
          | false => exact kQ
          | true => rw [lU, ce (by omega)]
        have gT : ∀ (c : Bool) (n : Int) (m : Nat) (x : Option Bool), 0 ≤ n ∧ n ≤ m → gt c (fP n m) x = x := fun c n m x h => by
          cases c with
          | false => exact kQ
          | true => rw [lU, kR h]
        rw [ce (by rw [List.length_append, hel, hb0]; omega), ce (by omega), ok1, ok2, gI _ _ _ (by omega), gI _ _ _ (by rw [hb0]; omega), gT _ _ _ _ (by rw [n2]; omega), bj, gT _ _ _ _ (by rw [List.length_append]; omega), bj, t1, t2, decide_eq_true (rfl : B = B), ntr, fo, fo, cfl,
          pf F b (by omega) (by omega), bK, ce (by omega), ce (by rw [hb0]; omega), qF (by rw [n2, hb0]; omega), bj, t3, bp (by simp [hb0]), bj, decide_eq_true (rfl : ([45, 45] ++ bd 0 : Bs) = [45, 45] ++ bd 0), gI _ _ _ (by omega), kX, decide_eq_true (by rw [n2]; omega)]
theorem rz : fJ 40000000 = some true := by decide +kernel
theorem PartMore_t (ks l : List Bs) (k b : Bs) (h0 : ks.length ≤ 1048576 ∧ ∀ s ∈ ks, s.length ≤ 1048576) (h1 : l.length ≤ 1048576 ∧ ∀ y ∈ l, ∃ x, x = y ∧ x.length ≤ 1048576) (h2 : k.length ≤ 1048576) (h3 : b.length ≤ 1048576) : dJ 40000000 ks l k b = some true :=
  qk 40000000 (by omega) rz ks l k b (by omega) (by omega) (fun k h => by have := h0.2 k h; omega) (fun b h => by obtain ⟨x, rfl, h⟩ := h1.2 b h; omega) (by omega) (by omega)
end Go.Pt
namespace Go.Av
open Go.RowKit Go.ChangeShapes Go.WideShapes
section
variable {H : Type} {enc : TypeId × Value → H} {P : Program} {w : World}
theorem add_add (a : Addr) (m r : Nat) : (a.add m).add r = a.add (m + r) := by
  unfold Addr.add
  by_cases hm : m = 0
  · subst hm; simp
  · by_cases hr : r = 0
    · subst hr; simp
    · simp [hm, hr, Nat.add_assoc]
end
end Go.Av
namespace Go.Av
open Go.RowKit Go.ChangeShapes Go.WideShapes
open Go.Proofs.YtdaafnaokdigbaaGreatDoor (Rows.uptoBulk Rows.uptoBulkAll Rows.uptoSmall)
section
variable {H : Type}
theorem bulk_one (d : DataW H) : 1 ≤ Rows.uptoBulk d := by
  cases d with
  | lit l => cases l <;> simp [Rows.uptoBulk]
  | _ => simp [Rows.uptoBulk]
theorem bulk_part {d : DataW H} : ∀ {l : List (DataW H)}, d ∈ l → Rows.uptoBulk d ≤ Rows.uptoBulkAll l
  | x :: r, h => by
    simp only [Rows.uptoBulkAll]
    rcases List.mem_cons.1 h with rfl | h
    · omega
    · have := bulk_part h; omega
theorem gG : ∀ l : List (DataW H), l.length ≤ Rows.uptoBulkAll l
  | [] => by simp [Rows.uptoBulkAll]
  | x :: r => by have := bulk_one x; have := gG r; simp only [Rows.uptoBulkAll, List.length_cons]; omega
theorem iH (a b : List (DataW H)) : Rows.uptoBulk (.slice a b) = Rows.uptoBulkAll a + Rows.uptoBulkAll b + 1 := by simp only [Rows.uptoBulk]
theorem bulk_str (b : List UInt8) : Rows.uptoBulk (DataW.lit (H := H) (.string b)) = b.length + 1 := by simp [Rows.uptoBulk]
theorem bulk_le {l : List (DataW H)} (hk : Rows.uptoSmall H l = true) : Rows.uptoBulkAll l ≤ 1048576 := by simpa only [Rows.uptoSmall, decide_eq_true_eq] using hk
end
section
variable {M : Nat} {H : Type} {enc : TypeId × Value → H} {P : Program} {w : World}
def lV (M : Nat) {H : Type} (enc : TypeId × Value → H) (P : Program) (w : World) (t : TypeId) {α : Type} (E : α → List AV) (p : α → Prop) : Prop :=
  ∀ fuel cs d, DataW.trod enc P w 0 (fun _ => true) true fuel t cs = some d → Rows.uptoBulk d.1 ≤ M → ∃ x, p x ∧ RelL (Info.start w) w (E x) cs
theorem opensN_bytes {t e : TypeId} (ht : P.underlying t = some (.slice e)) (he : P.underlying e = some (.int .u8)) (hc : P.cellsOf e = 1) :
    lV M enc P w t (fun l : List UInt8 => [slE Enc.byte l none]) (fun l => l.length ≤ M) := by
  intro fuel cs d h hbk
  rcases open_ints ht he hc h with ⟨rfl, _⟩ | ⟨x, len, cap, zs, rfl, _, hl, hm, hz, hd, hcell, hw⟩
  · exact ⟨[], by simp, .cons (.slz _ _ _) .nil⟩
  · simp only [if_true] at hz
    obtain ⟨l, hl', hm', r⟩ := qV (w := w) (a := some x) (len := len) (cap := cap) (zs := zs) (.inr ⟨x, rfl, hl, hm, hz, hcell, hw⟩);refine ⟨l, ?_, .cons r .nil⟩
    have := gG (H := H) (lits .u8 (zs.take len))
    rw [hd, iH] at hbk
    have h2 : (lits (H := H) .u8 (zs.take len)).length = len := by simp [lits]; omega
    omega
theorem opensN_strs {t e : TypeId} (ht : P.underlying t = some (.slice e)) (he : P.underlying e = some .string) (hc : P.cellsOf e = 1) :
    lV M enc P w t (fun l : List (List UInt8) => [slE Enc.str l none]) (fun l => l.length ≤ M ∧ ∀ s ∈ l, s.length ≤ M) := by
  intro fuel cs d h hbk
  rcases open_strings ht he hc h with ⟨rfl, _⟩ | ⟨x, len, cap, zs, rfl, _, hl, hm, hz, hd, hcell, hw⟩
  · exact ⟨[], ⟨by simp, by simp⟩, .cons (.slz _ _ _) .nil⟩
  · simp only [if_true] at hz
    rw [hd, iH] at hbk
    have hll : ((zs.take len).map fun s => s.data.toList).length = len := by simp; omega
    have hsl : (strs (H := H) (zs.take len)).length = len := by simp [strs]; omega
    have := gG (H := H) (strs (zs.take len))
    refine ⟨(zs.take len).map fun s => s.data.toList, ⟨by rw [hll]; omega, fun n hn => ?_⟩, .cons ?_ .nil⟩
    · obtain ⟨s, hs, rfl⟩ := List.mem_map.1 hn
      have hm : (DataW.lit (H := H) (.string s.data.toList)) ∈ strs (zs.take len) := by simp only [strs, List.mem_map]; exact ⟨s, hs, rfl⟩
      have := bulk_part hm
      rw [bulk_str] at this
      omega
    have := qx (w := w) Enc.str (fun s => .string ⟨s.toArray⟩) (fun _ => rfl) ((zs.take len).map fun s => s.data.toList) x cap (by omega) (fun i hi => by
      rw [hll] at hi
      rw [hcell i (by omega)]
      simp [List.getD, show i < zs.length by omega])
    rw [hll] at this
    exact this
theorem opensN_slice {t e : TypeId} {α β : Type} {E : α → List AV} {p : α → Prop} (G : Enc β) (g : α → β) (ht : P.underlying t = some (.slice e)) (hc : P.cellsOf e = G.k)
    (h : lV M enc P w e E p) (hg : ∀ x, E x = G.f (g x)) : lV M enc P w t (fun l : List β => [slE G l none]) (fun l => l.length ≤ M ∧ ∀ y ∈ l, ∃ x, g x = y ∧ p x) := by
  intro fuel cs d hd hbk
  rcases DataW.trod_slice ht hd with ⟨rfl, _⟩ | ⟨a, len, cap, elems, rest, n, _, rfl, hd2, _, hl, hm, hlen, hel, _, _⟩
  · exact ⟨[], ⟨by simp, by simp⟩, .cons (.slz _ _ _) .nil⟩
  · have go : ∀ r i, i + r = len → ∃ (l : List β) (vs : List Value), (l.length = r ∧ ∀ y ∈ l, ∃ x, g x = y ∧ p x) ∧ RelL (Info.start w) w (G.fl l) vs ∧ ∀ j, j < vs.length → w.cell? (a.add (i * G.k + j)) = vs[j]? := by
      intro r
      induction r with
      | zero => intro i hi; exact ⟨[], [], ⟨rfl, by simp⟩, .nil, fun j hj => by simp at hj⟩
      | succ r ih =>
        intro i hi
        have hb := hel i (by omega)
        rw [aw (by omega), Option.bind_eq_some_iff] at hb
        obtain ⟨cs', hcs, hy⟩ := hb
        rw [hc] at hcs
        obtain ⟨_, hcl, hce⟩ := World.cells?_some hcs
        obtain ⟨x, hx, rx⟩ := h _ _ _ hy (by
          have hm : elems[i].1 ∈ elems.map (·.1) := List.mem_map.2 ⟨_, List.getElem_mem _, rfl⟩
          have := bulk_part hm
          rw [hd2, iH] at hbk
          omega)
        rw [hg] at rx
        obtain ⟨l, vs, ⟨l1, l2⟩, rl, hv⟩ := ih (i + 1) (by omega);refine ⟨g x :: l, cs' ++ vs, ⟨by simp [l1], fun y hy => ?_⟩, by rw [G.fl_cons]; exact rx.append rl, fun j hj => ?_⟩
        · rcases List.mem_cons.1 hy with rfl | hy
          · exact ⟨x, rfl, hx⟩
          · exact l2 y hy
        · by_cases hjk : j < G.k
          · have := hce j hjk
            rw [add_add] at this
            rw [this, List.getElem?_append_left (by omega)]
          · have := hv (j - G.k) (by simp at hj; omega)
            rw [List.getElem?_append_right (by omega), hcl, ← this, Nat.succ_mul]
            congr 2; omega
    obtain ⟨l, vs, ⟨l1, l2⟩, rl, hv⟩ := go len 0 (by omega)
    have hln : l.length ≤ M := by
      have := gG (elems.map (·.1))
      rw [hd2, iH] at hbk
      simp only [List.length_map] at this
      omega
    refine ⟨l, ⟨hln, l2⟩, .cons ?_ .nil⟩
    by_cases h0 : l = []
    · subst h0
      simp at l1
      subst l1;exact .slz _ _ _
    · have hlp := List.length_pos_iff.2 h0
      have hvl : vs.length = len * G.k := by rw [rl.1, G.fl_length, l1]
      have hpos := G.pos
      have hv0 : 0 < vs.length := by rw [hvl]; exact Nat.mul_pos (by omega) hpos
      have hx0 := hv 0 hv0
      rw [aw hv0, Nat.zero_mul] at hx0
      obtain ⟨hb, hs⟩ := nx hx0
      have hx : a = ⟨a.block, a.off, none⟩ := by
        have : a.add (0 + 0) = a := rfl
        rw [this] at hs
        cases a; simp at hs; subst hs; rfl
      have hb' : a.block < w.heap.size := hb
      rw [hx]
      have hadd : ∀ i, w.cell? ⟨a.block, a.off + i, none⟩ = w.cell? (a.add i) := fun i => by
        unfold Addr.add
        by_cases h : i = 0
        · rw [if_pos h]; subst h; rw [Nat.add_zero, ← hx]
        · rw [if_neg h]
      unfold slE
      have hfl : (G.fl l).length = vs.length := rl.1.symm
      refine .sl G.k (G.fl l) none a.block a.off len cap (fun j => vs.getD j undef) G.pos (by rw [hfl, hvl]) hl (jI hb') ?_ ?_ (fun _ h => by cases h)
      · intro j hj
        have := hv j (by omega)
        rw [Nat.zero_mul, Nat.zero_add] at this
        rw [hadd j, this, aw (by omega)]
        simp [List.getD, show j < vs.length by omega]
      · intro j hj
        have := rl.2 j hj
        simpa [List.getD, show j < vs.length by omega] using this
theorem oneN_of {t : TypeId} {v : Value} {d : DataW H} {ps : List MemPlace} {α : Type} {E : α → AV} {p : α → Prop} (hv : v.cells = #[v]) (hd : DataW.Trod enc P w 0 (fun _ => true) true t v d ps) (hk : Rows.uptoBulk d ≤ M) (h : lV M enc P w t (fun x => [E x]) p) :
    ∃ x, p x ∧ Rel (Info.start w) w (E x) v := by
  obtain ⟨fuel, hf⟩ := hd;obtain ⟨x, hx, rx⟩ := h _ _ _ hf hk
  rw [hv] at rx
  exact ⟨x, hx, rx.head⟩
end
end Go.Av
