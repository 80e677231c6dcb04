/-
  Texts in one (only what PartMore needs): QpW, B64P, B64W, HeadAP, HeadAW, HeadBP, HeadBW, PartAP, PartAW, PartLP.
-/
import Derived.Test.YtdaafnaokdigbaaGreatDoorZPartMore2
import Derived.Test.YtdaafnaokdigbaaGreatDoorShelf
import Derived.Test.YtdaafnaokdigbaaGreatDoorChecked
import Derived.Lib.ItoaNum
set_option linter.unusedVariables false
set_option linter.unusedSimpArgs false
namespace Go.Proofs.YtdaafnaokdigbaaGreatDoor
open Go.RowKit Go.Av Go.Pv
theorem en41_qp : ∀ (args : Array Value) (w : World), (callFunc 41 args).run Tryz.prog w = .ok (.enter 41 args) w := fun _ _ => by kernel_rfl
theorem en44_qp : ∀ (args : Array Value) (w : World), (callFunc 44 args).run Tryz.prog w = .ok (.enter 44 args) w := fun _ _ => by kernel_rfl
theorem en45_qp : ∀ (args : Array Value) (w : World), (callFunc 45 args).run Tryz.prog w = .ok (.enter 45 args) w := fun _ _ => by kernel_rfl
theorem qK : ∀ (args : Array Value) (w : World), (callFunc 50 args).run Tryz.prog w = .ok (.enter 50 args) w := fun _ _ => by kernel_rfl
theorem qJ : ∀ (args : Array Value) (w : World), (callFunc 79 args).run Tryz.prog w = .ok (.enter 79 args) w := fun _ _ => by kernel_rfl
abbrev _root_.Go.Av.aj := @Bool.eq_false_or_eq_true
abbrev _root_.Go.Av.aB := @Tryz.underlying5
set_option maxRecDepth 100000 in
set_option maxHeartbeats 1000000 in
theorem qP (F : Nat) (a1 : UInt8) (a2 : List UInt8) (q3 : Option Nat) (r4 : List UInt8) (H : kd F a1 a2 = some r4) : ACalls Tryz.prog 45 [u8 a1, slE Enc.byte a2 q3] [] (Ret (S r4) []) := by
 unfold kd at H
 refine ax Tryz.func45 rfl rfl ?_;show AW _ _ 47 _ _ _;refine ah <| ab ?_;show AR _ _ _ _ _ [0] _;refine za rfl <| ai <| ah <| ab ?_;show AR _ _ _ _ _ [0, 1, 2, 3, 4, 5, 6] _;refine zm rfl <| zS rfl (iV (a := a1) (b := 32) rfl rfl) <| zm rfl <| aZ (l := [6]) 11 (B ((decide (a1 = 32)) || (decide (a1 = 9)))) (fun K => ?_) ?_
 ·rcases aj (decide (a1 = 32)) with h5 | h5
  ·refine zF h5 rfl <| zF h5 rfl <| zS rfl (aC (av := .v _) rfl h5 rfl) ?_;exact K _ 2 _ (ay (fE h5)) rfl rfl
  ·refine zM h5 rfl <| zU h5 rfl (iV (a := a1) (b := 9) rfl rfl) <| zS rfl (aD (av := .v _) rfl h5 rfl) ?_;exact K _ 2 _ (ay (fF h5)) rfl rfl
 refine za rfl <| ai <| ah <| ah ?_;obtain ⟨g8, H⟩ := eA H;obtain ⟨x9, e10, H⟩ := bi H;refine ab ?_;show AR _ _ _ _ _ [0, 1, 2, 3, 4, 5, 6, 7, 8, 9, 10, 11, 12, 13, 14, 15, 16, 17, 18, 19, 20, 21, 22, 23] _;refine zm rfl <| zm rfl <| aZ (l := [6, 7, 8, 9, 10, 11, 12, 13, 14, 15, 16, 17, 18, 19, 20, 21, 22, 23]) 17 (B (((decide (a1 = 32)) || (decide (a1 = 9))) && (decide (0 < (a2.length : Int))))) (fun K => ?_) ?_
 ·rcases aj ((decide (a1 = 32)) || (decide (a1 = 9))) with h6 | h6
  ·refine zU h6 rfl (ac (av := slE _ _ _) rfl) <| zU h6 rfl (aG aa rfl) <| zU h6 rfl (cF rfl rfl) <| zS rfl (aC (av := .v _) rfl h6 rfl) ?_;exact K _ 3 _ (ay (cH h6)) rfl rfl
  ·refine zF h6 rfl <| zF h6 rfl <| zF h6 rfl <| zS rfl (aD (av := .v _) rfl h6 rfl) ?_;exact K _ 3 _ (ay (cI h6)) rfl rfl
 refine zm rfl <| aZ (l := [12, 13, 14, 15, 16, 17, 18, 19, 20, 21, 22, 23]) 23 (B ((((decide (a1 = 32)) || (decide (a1 = 9))) && (decide (0 < (a2.length : Int)))) && (!decide (x9 = 10)))) (fun K => ?_) ?_
 ·rcases aj (((decide (a1 = 32)) || (decide (a1 = 9))) && (decide (0 < (a2.length : Int)))) with h7 | h7
  ·refine zU h7 rfl (ac (av := slE _ _ _) rfl) <| zU h7 rfl (bn (E := Enc.byte) aa (by kernel_rfl) rfl rfl (g8 h7) e10) <| zU h7 rfl (aU aB rfl rfl) <| zU h7 rfl (oV (a := x9) (b := 10) rfl rfl) <| zS rfl (aC (av := .v _) rfl h7 rfl) ?_;exact K _ 4 _ (ay (cH h7)) rfl rfl
  ·refine zF h7 rfl <| zF h7 rfl <| zF h7 rfl <| zF h7 rfl <| zS rfl (aD (av := .v _) rfl h7 rfl) ?_;exact K _ 4 _ (ay (cI h7)) rfl rfl
 refine zm rfl <| aZ (l := []) 35 (B (((((decide (a1 = 32)) || (decide (a1 = 9))) && (decide (0 < (a2.length : Int)))) && (!decide (x9 = 10))) || (((decide (32 < (a1.toNat : Int))) && (decide ((a1.toNat : Int) < 127))) && (!decide (a1 = 61))))) (fun K => ?_) ?_
 ·rcases aj ((((decide (a1 = 32)) || (decide (a1 = 9))) && (decide (0 < (a2.length : Int)))) && (!decide (x9 = 10))) with h11 | h11
  ·refine zF h11 rfl <| zF h11 rfl <| zF h11 rfl <| gU rfl rfl rfl rfl rfl <| gU rfl rfl rfl rfl rfl <| zF h11 rfl <| zF h11 rfl <| gU rfl rfl rfl rfl rfl <| gU rfl rfl rfl rfl rfl <| zF h11 rfl <| zS rfl (aC (av := .v _) rfl h11 rfl) ?_;exact K _ 10 _ (ay (fE h11)) rfl rfl
  ·refine zM h11 rfl <| zU h11 rfl (cF rfl rfl) <| zM h11 rfl <| aZ (l := [19, 20, 21, 22, 23]) 30 (B ((decide (32 < (a1.toNat : Int))) && (decide ((a1.toNat : Int) < 127)))) (fun K => ?_) ?_
   ·rcases aj (decide (32 < (a1.toNat : Int))) with h12 | h12
    ·refine zM h12 rfl <| zU h12 rfl (bI rfl rfl) <| zU h11 rfl (aC (av := .v _) rfl h12 rfl) ?_;exact K _ 2 _ (ay (cH h12)) rfl rfl
    ·refine zF h12 rfl <| zF h12 rfl <| zU h11 rfl (aD (av := .v _) rfl h12 rfl) ?_;exact K _ 2 _ (ay (cI h12)) rfl rfl
   refine zM h11 rfl <| aZ (l := [23]) 34 (B (((decide (32 < (a1.toNat : Int))) && (decide ((a1.toNat : Int) < 127))) && (!decide (a1 = 61)))) (fun K => ?_) ?_
   ·rcases aj ((decide (32 < (a1.toNat : Int))) && (decide ((a1.toNat : Int) < 127))) with h13 | h13
    ·refine zM h13 rfl <| zU h13 rfl (oV (a := a1) (b := 61) rfl rfl) <| zU h11 rfl (aC (av := .v _) rfl h13 rfl) ?_;exact K _ 2 _ (ay (cH h13)) rfl rfl
    ·refine zF h13 rfl <| zF h13 rfl <| zU h11 rfl (aD (av := .v _) rfl h13 rfl) ?_;exact K _ 2 _ (ay (cI h13)) rfl rfl
   refine zS rfl (aD (av := .v _) rfl h11 rfl) ?_;exact K _ 6 _ (ay (fF h11)) rfl rfl
 refine ai <| aH rfl (fun c14 => ?_) (fun c14 => ?_)
 ·replace H := bk c14 H;refine ah <| ab ?_;show AR _ _ _ _ _ [0, 1, 2, 3] _;refine zm rfl <| zR rfl (bm (E := Enc.byte) (bytes := 1) (xs := [.tmp 36]) (l := ([a1] : List UInt8)) aa (by kernel_rfl) rfl rfl (by decide) rfl rfl) <| zS rfl (bD aa aB af rfl) <| za rfl <| ai <| aP ?_;obtain rfl := ap H;exact And.intro rfl (Exists.intro _ (Exists.intro _ ⟨aR rfl (.refl _), aM [] rfl, rfl, rfl⟩))
 ·replace H := bl c14 H;refine aJ <| ah ?_;obtain ⟨g15, H⟩ := aF H;obtain ⟨x16, e17, H⟩ := bi H;obtain ⟨g18, H⟩ := aF H;obtain ⟨x19, e20, H⟩ := bi H;refine bH (by kernel_rfl) ?_;show AI _ _ _ _ _ 9 (Array.replicate 9 false) _;refine zk 0 rfl (mv rfl) ?_;show AI _ _ _ _ _ _ #[true, false, false, false, false, false, false, false, false] _;refine zk 1 rfl (g_shr8 (n := 4) rfl rfl rfl) ?_;show AI _ _ _ _ _ _ #[true, true, false, false, false, false, false, false, false] _;refine zk 2 rfl (cj af rfl rfl g15 e17) ?_;show AI _ _ _ _ _ _ #[true, true, true, false, false, false, false, false, false] _;refine zk 3 rfl (mv rfl) ?_;show AI _ _ _ _ _ _ #[true, true, true, true, false, false, false, false, false] _;refine zk 4 rfl (g_and8 (a := a1) (b := 15) rfl rfl) ?_;show AI _ _ _ _ _ _ #[true, true, true, true, true, false, false, false, false] _;refine zk 5 rfl (cj af rfl rfl g18 e20) ?_;show AI _ _ _ _ _ _ #[true, true, true, true, true, true, false, false, false] _;refine aQ (i := 6) (by kernel_rfl) rfl rfl <| aL rfl (bm (E := Enc.byte) (bytes := 1) (xs := [.const _, .tmp 41, .tmp 44]) (l := ([61, x16, x19] : List UInt8)) aa (by kernel_rfl) rfl rfl (by decide) rfl rfl) ?_;show AI _ _ _ _ _ _ #[true, true, true, true, true, true, true, false, false] _;refine zk 7 rfl (bD aa aB af rfl) ?_;show AI _ _ _ _ _ _ #[true, true, true, true, true, true, true, true, false] _;refine zk 8 rfl (asg rfl) ?_
  show AI _ _ _ _ _ _ #[true, true, true, true, true, true, true, true, true] _;refine br rfl <| aP ?_;obtain rfl := ap H;exact And.intro rfl (Exists.intro _ (Exists.intro _ ⟨aR rfl (.refl _), aM [] rfl, rfl, rfl⟩))
set_option maxRecDepth 100000 in
set_option maxHeartbeats 1000000 in
theorem ly (F : Nat) (a1 : UInt8) (r2 : UInt8) (r3 : Bool) (H : jY F a1 = some (r2, r3)) : ACalls Tryz.prog 79 [u8 a1] [] (Ret (.tup [u8 r2, B r3]) []) := by
 unfold jY at H
 refine ax Tryz.func79 rfl rfl ?_;show AW _ _ 20 _ _ _;refine ah <| ab ?_;show AR _ _ _ _ _ [0, 1] _;refine za rfl <| za rfl <| ai <| bP (X := UInt8) (fun y6 => ⟨[(0, u8 y6)], [], []⟩) (fun y6 => fH y6 = some (r2, r3)) ?_ ?_
 ·refine ah <| ab ?_;show AR _ _ _ _ _ [0, 1, 2, 3, 4, 5] _;refine zm rfl <| zS rfl (gm rfl rfl) <| zm rfl <| aZ (l := []) 10 (B ((decide (97 ≤ (a1.toNat : Int))) && (decide ((a1.toNat : Int) ≤ 102)))) (fun K => ?_) ?_
  ·rcases aj (decide (97 ≤ (a1.toNat : Int))) with h4 | h4
   ·refine zM h4 rfl <| zU h4 rfl (hU rfl rfl) <| zS rfl (aC (av := .v _) rfl h4 rfl) ?_;exact K _ 2 _ (ay (cH h4)) rfl rfl
   ·refine zF h4 rfl <| zF h4 rfl <| zS rfl (aD (av := .v _) rfl h4 rfl) ?_;exact K _ 2 _ (ay (cI h4)) rfl rfl
  refine ai <| aH rfl (fun c5 => ?_) (fun c5 => ?_)
  ·replace H := bk c5 H;refine ab ?_;show AR _ _ _ _ _ [0, 1, 2] _;refine zm rfl <| zS rfl (g_sub8 (a := a1) (b := 32) rfl rfl) <| za rfl <| ai ?_;exact Exists.intro (a1 - 32) ⟨H, ba [] (.cons (.refl _) (.nil _)) rfl⟩
  ·replace H := bl c5 H;refine aJ ?_;exact Exists.intro a1 ⟨H, ba [] (.cons (.refl _) (.nil _)) rfl⟩
 rintro y6 H;replace H : fH y6 = some (r2, r3) := H
 unfold fH at H
 refine ah ?_;obtain ⟨x8, e9, H⟩ := bi H;refine ab ?_;show AR _ _ _ _ _ [0, 1, 2] _;refine zm rfl <| am rfl rfl (aN rfl en41_qp rfl (show ACalls _ _ _ [] (Ret (i64 x8) []) from by subst e9; exact gO ([48, 49, 50, 51, 52, 53, 54, 55, 56, 57, 65, 66, 67, 68, 69, 70] : List UInt8) y6) ?_);refine za rfl <| ai <| ah <| ab ?_;show AR _ _ _ _ _ [0, 1, 2, 3, 4, 5, 6] _;refine zm rfl <| zS rfl (opS_max rfl rfl) <| zS rfl (iE (by kernel_rfl) aB rfl) <| zm rfl <| zS rfl (gm rfl rfl) <| za rfl <| za rfl <| ai <| aP ?_;obtain ⟨rfl, rfl⟩ := gk H;exact And.intro rfl (Exists.intro _ (Exists.intro _ ⟨bR rfl (.refl _) (.refl _), aM [] rfl, rfl, rfl⟩))
set_option maxRecDepth 100000 in
set_option maxHeartbeats 1000000 in
theorem nI (F : Nat) (a1 : List UInt8) (q2 : Option Nat) (r3 : List UInt8) (r4 : Int) (H : kw F a1 = some (r3, r4)) : ACalls Tryz.prog 56 [slE Enc.byte a1 q2] [] (Ret (.tup [slE Enc.byte r3 none, i64 r4]) []) := by
 unfold kw at H
 refine ax Tryz.func56 rfl rfl ?_;show AW _ _ 88 _ _ _;refine ah <| ab ?_;show AR _ _ _ _ _ [0, 1] _;refine za rfl <| za rfl <| ai <| ah <| ab ?_;show AR _ _ _ _ _ [0] _;refine za rfl <| ai ?_
 refine cq 4 1 5 rfl fun t5 => ?_
 show AW _ _ _ _ _ ⟨(4, slE Enc.byte [] (some t5)) :: _, _, _⟩;refine bP (X := (List UInt8) × Nat) (fun (y62, t63) => ⟨[(4, slE Enc.byte y62 (some t63))], [], [.tok t63 5]⟩) (fun (y62, t63) => fR y62 = some (r3, r4)) ?_ ?_
 ·refine aO <| bZ (X := Nat × (List UInt8) × (List UInt8) × Nat) (fun (n10, y6, y7, t8) => ⟨[(0, slE Enc.byte y6 none), (4, slE Enc.byte y7 (some t8))], [], [.tok t8 5]⟩) (fun (n10, y6, y7, t8) => eO F n10 (y6, y7) = some (r3, r4)) (fun (n10, y6, y7, t8) => n10) (F, a1, [], t5) H (ba [0] (.cons (.tok _ _ _) (.cons (.refl _) (.nil _))) rfl) ?_;rintro ⟨n10, y6, y7, t8⟩ H;obtain ⟨n10, rfl, H⟩ := cB H;replace H : ir F (eO F n10) y6 y7 = some (r3, r4) := H
  unfold ir at H
  refine ah <| ah <| ab ?_;show AR _ _ _ _ _ [0, 1, 2] _;refine zS rfl (ac (av := slE _ _ _) rfl) <| zS rfl (aG aa rfl) <| zS rfl (cF rfl rfl) <| ai <| aH rfl (fun c11 => ?_) (fun c11 => ?_)
  ·replace H := bk c11 H;refine aJ <| aO <| AW.scope <| ah <| ab ?_;show AR _ _ _ _ _ [0] _;refine za rfl <| ai <| ah <| AW.label <| bP (X := (List UInt8) × Nat × Int) (fun (y55, t56, y57) => ⟨[(0, slE Enc.byte y6 none), (4, slE Enc.byte y55 (some t56)), (5, i64 y57)], [], [.tok t56 5]⟩) (fun (y55, t56, y57) => dm y6 (eO F n10) y55 y57 = some (r3, r4)) ?_ ?_
   ·refine ah ?_;obtain ⟨g12, H⟩ := aF H;obtain ⟨x13, e14, H⟩ := bi H;refine ab ?_;show AR _ _ _ _ _ [0, 1, 2, 3] _;refine zS rfl (ac (av := slE _ _ _) rfl) <| zS rfl (bn (E := Enc.byte) aa (by kernel_rfl) rfl rfl g12 e14) <| zS rfl (aU aB rfl rfl) <| za rfl <| ai <| aO <| ah ?_;obtain ⟨x16, e17, H⟩ := bi H;refine ab ?_;show AR _ _ _ _ _ [0, 1, 2, 3, 4] _;refine zS rfl (ac (av := slE _ _ _) rfl) <| zX rfl (gg (E := Enc.byte) (bytes := 1) (xs := [.const _, .const _]) (l := ([13, 10] : List UInt8)) aa (by kernel_rfl) rfl rfl (by decide) rfl rfl) ?_;rintro _ _ ⟨t15, rfl, rfl⟩;refine zR rfl (ej 0 aa aB rfl (by simp) rfl) <| am rfl rfl (aN rfl qK rfl (show ACalls _ _ _ [] (Ret (B x16) []) from by subst e17; exact eB y6 ([13, 10] : List UInt8) none (some t15)) ?_);refine za rfl <| ai <| aH rfl (fun c18 => ?_) (fun c18 => ?_)
    ·replace H := bk c18 H;obtain ⟨g20, H⟩ := aF H;obtain ⟨x21, e22, H⟩ := bi H;refine ab ?_;show AR _ _ _ _ _ [0, 1, 2, 3, 4] _;refine zS rfl (ac (av := slE _ _ _) rfl) <| zR rfl (bm (E := Enc.byte) (bytes := 1) (xs := [.const _]) (l := ([10] : List UInt8)) aa (by kernel_rfl) rfl rfl (by decide) rfl rfl) <| zX rfl (bA (E := Enc.byte) (bytes := 1) 1 aa aa rfl (by kernel_rfl) rfl rfl rfl rfl g20 e22) ?_;rintro _ _ ⟨t19, rfl, rfl⟩;refine zS rfl (ao (av := slE _ _ _) rfl) <| za rfl <| ai ?_;exact Exists.intro (x21, t19, 2) ⟨H, ba [1] (.cons (.refl _) (.cons (.refl _) (.cons (.refl _) (.nil _)))) rfl⟩
    ·replace H := bl c18 H;refine ah ?_;obtain ⟨x24, e25, H⟩ := bi H;refine ab ?_;show AR _ _ _ _ _ [0, 1, 2, 3, 4] _;refine zS rfl (ac (av := slE _ _ _) rfl) <| zX rfl (gg (E := Enc.byte) (bytes := 1) (xs := [.const _, .const _, .const _]) (l := ([61, 13, 10] : List UInt8)) aa (by kernel_rfl) rfl rfl (by decide) rfl rfl) ?_;rintro _ _ ⟨t23, rfl, rfl⟩;refine zR rfl (ej 0 aa aB rfl (by simp) rfl) <| am rfl rfl (aN rfl qK rfl (show ACalls _ _ _ [] (Ret (B x24) []) from by subst e25; exact eB y6 ([61, 13, 10] : List UInt8) none (some t23)) ?_);refine za rfl <| ai <| aH rfl (fun c26 => ?_) (fun c26 => ?_)
     ·replace H := bk c26 H;refine ah <| ab ?_;show AR _ _ _ _ _ [0] _;refine za rfl <| ai <| bQ ?_;exact Exists.intro (y7, t8, 3) ⟨H, ba [2] (.cons (.refl _) (.cons (.refl _) (.cons (.refl _) (.nil _)))) rfl⟩
     ·replace H := bl c26 H;refine ah <| ab ?_;show AR _ _ _ _ _ [0, 1, 2, 3, 4, 5, 6, 7] _;refine zm rfl <| zS rfl (iV (a := x13) (b := 61) rfl rfl) <| zm rfl <| aZ (l := [7]) 37 (B ((decide (x13 = 61)) && (decide (2 < (y6.length : Int))))) (fun K => ?_) ?_
      ·rcases aj (decide (x13 = 61)) with h27 | h27
       ·refine zU h27 rfl (ac (av := slE _ _ _) rfl) <| zU h27 rfl (aG aa rfl) <| zU h27 rfl (cF rfl rfl) <| zS rfl (aC (av := .v _) rfl h27 rfl) ?_;exact K _ 3 _ (ay (cH h27)) rfl rfl
       ·refine zF h27 rfl <| zF h27 rfl <| zF h27 rfl <| zS rfl (aD (av := .v _) rfl h27 rfl) ?_;exact K _ 3 _ (ay (cI h27)) rfl rfl
      refine za rfl <| ai <| aH rfl (fun c28 => ?_) (fun c28 => ?_)
      ·replace H := bk c28 H;refine ah ?_;obtain ⟨g29, H⟩ := aF H;obtain ⟨x30, e31, H⟩ := bi H;obtain ⟨x32, x33, e34, H⟩ := fm H;refine ab ?_;show AR _ _ _ _ _ [0, 1, 2, 3, 4, 5, 6, 7, 8] _;refine zS rfl (ac (av := slE _ _ _) rfl) <| zS rfl (bn (E := Enc.byte) aa (by kernel_rfl) rfl rfl g29 e31) <| zS rfl (aU aB rfl rfl) <| am rfl rfl (aN rfl qJ rfl (ly F x30 x32 x33 e34) ?_);refine zS rfl (ac (av := .tup _) rfl) <| zS rfl (aE (av := .v _) rfl rfl) <| zS rfl (aE (av := .v _) rfl rfl) <| za rfl <| za rfl <| ai <| ah ?_;obtain ⟨g35, H⟩ := aF H;obtain ⟨x36, e37, H⟩ := bi H;obtain ⟨x38, x39, e40, H⟩ := fm H;refine ab ?_;show AR _ _ _ _ _ [0, 1, 2, 3, 4, 5, 6, 7, 8] _;refine zS rfl (ac (av := slE _ _ _) rfl) <| zS rfl (bn (E := Enc.byte) aa (by kernel_rfl) rfl rfl g35 e37) <| zS rfl (aU aB rfl rfl) <| am rfl rfl (aN rfl qJ rfl (ly F x36 x38 x39 e40) ?_);refine zS rfl (ac (av := .tup _) rfl) <| zS rfl (aE (av := .v _) rfl rfl) <| zS rfl (aE (av := .v _) rfl rfl) <| za rfl <| za rfl <| ai <| ah <| ah <| ab ?_;show AR _ _ _ _ _ [0, 1, 2, 3, 4, 5] _;refine zm rfl <| zS rfl (ck rfl) <| zm rfl <| aZ (l := []) 57 (B ((!x33) || (!x39))) (fun K => ?_) ?_
       ·rcases aj (!x33) with h41 | h41
        ·refine zF h41 rfl <| zF h41 rfl <| zS rfl (aC (av := .v _) rfl h41 rfl) ?_;exact K _ 2 _ (ay (fE h41)) rfl rfl
        ·refine zM h41 rfl <| zU h41 rfl (ck rfl) <| zS rfl (aD (av := .v _) rfl h41 rfl) ?_;exact K _ 2 _ (ay (fF h41)) rfl rfl
       refine ai <| aH rfl (fun c42 => ?_) (fun c42 => ?_)
       ·replace H := bk c42 H;refine ah <| ab ?_;show AR _ _ _ _ _ [0, 1] _;refine za rfl <| za rfl <| ai <| aP ?_;obtain ⟨rfl, rfl⟩ := gk H;exact And.intro rfl (Exists.intro _ (Exists.intro _ ⟨bR rfl (.nil _) (.refl _), aM [] rfl, rfl, rfl⟩))
       ·replace H := bl c42 H;refine aJ ?_;obtain ⟨g44, H⟩ := aF H;obtain ⟨x45, e46, H⟩ := bi H;refine ab ?_;show AR _ _ _ _ _ [0, 1, 2, 3, 4, 5, 6, 7, 8] _;refine zS rfl (ac (av := slE _ _ _) rfl) <| zm rfl <| zS rfl (g_shl8 (n := 4) rfl rfl rfl) <| zm rfl <| zS rfl (g_or8 (a := Go.Av.shl8 x32 4) (b := x38) rfl rfl) <| zR rfl (bm (E := Enc.byte) (bytes := 1) (xs := [.tmp 62]) (l := ([(Go.Av.shl8 x32 4) ||| x38] : List UInt8)) aa (by kernel_rfl) rfl rfl (by decide) rfl rfl) <| zX rfl (bA (E := Enc.byte) (bytes := 1) 2 aa aa rfl (by kernel_rfl) rfl rfl rfl rfl g44 e46) ?_;rintro _ _ ⟨t43, rfl, rfl⟩;refine zS rfl (ao (av := slE _ _ _) rfl) <| za rfl <| ai ?_;exact Exists.intro (x45, t43, 3) ⟨H, ba [2] (.cons (.refl _) (.cons (.refl _) (.cons (.refl _) (.nil _)))) rfl⟩
      ·replace H := bl c28 H;refine ah <| ab ?_;show AR _ _ _ _ _ [0, 1, 2, 3, 4, 5, 6, 7, 8, 9, 10, 11, 12, 13, 14] _;refine zm rfl <| zS rfl (oV (a := x13) (b := 61) rfl rfl) <| zm rfl <| aZ (l := [14]) 79 (B ((!decide (x13 = 61)) && (((decide (32 ≤ (x13.toNat : Int))) && (decide ((x13.toNat : Int) < 127))) || (decide (x13 = 9))))) (fun K => ?_) ?_
       ·rcases aj (!decide (x13 = 61)) with h47 | h47
        ·refine zM h47 rfl <| zU h47 rfl (gm rfl rfl) <| zM h47 rfl <| aZ (l := [9, 10, 11, 12, 13, 14]) 74 (B ((decide (32 ≤ (x13.toNat : Int))) && (decide ((x13.toNat : Int) < 127)))) (fun K => ?_) ?_
         ·rcases aj (decide (32 ≤ (x13.toNat : Int))) with h48 | h48
          ·refine zM h48 rfl <| zU h48 rfl (bI rfl rfl) <| zU h47 rfl (aC (av := .v _) rfl h48 rfl) ?_;exact K _ 2 _ (ay (cH h48)) rfl rfl
          ·refine zF h48 rfl <| zF h48 rfl <| zU h47 rfl (aD (av := .v _) rfl h48 rfl) ?_;exact K _ 2 _ (ay (cI h48)) rfl rfl
         refine zM h47 rfl <| aZ (l := [13, 14]) 78 (B (((decide (32 ≤ (x13.toNat : Int))) && (decide ((x13.toNat : Int) < 127))) || (decide (x13 = 9)))) (fun K => ?_) ?_
         ·rcases aj ((decide (32 ≤ (x13.toNat : Int))) && (decide ((x13.toNat : Int) < 127))) with h49 | h49
          ·refine zF h49 rfl <| zF h49 rfl <| zU h47 rfl (aC (av := .v _) rfl h49 rfl) ?_;exact K _ 2 _ (ay (fE h49)) rfl rfl
          ·refine zM h49 rfl <| zU h49 rfl (iV (a := x13) (b := 9) rfl rfl) <| zU h47 rfl (aD (av := .v _) rfl h49 rfl) ?_;exact K _ 2 _ (ay (fF h49)) rfl rfl
         refine zS rfl (aC (av := .v _) rfl h47 rfl) ?_;exact K _ 6 _ (ay (cH h47)) rfl rfl
        ·refine zF h47 rfl <| zF h47 rfl <| zF h47 rfl <| gU rfl rfl rfl rfl rfl <| gU rfl rfl rfl rfl rfl <| zF h47 rfl <| zF h47 rfl <| gU rfl rfl rfl rfl rfl <| gU rfl rfl rfl rfl rfl <| zF h47 rfl <| zS rfl (aD (av := .v _) rfl h47 rfl) ?_;exact K _ 10 _ (ay (cI h47)) rfl rfl
       refine za rfl <| ai <| aH rfl (fun c50 => ?_) (fun c50 => ?_)
       ·replace H := bk c50 H;obtain ⟨g52, H⟩ := aF H;obtain ⟨x53, e54, H⟩ := bi H;refine ab ?_;show AR _ _ _ _ _ [0, 1, 2, 3, 4] _;refine zS rfl (ac (av := slE _ _ _) rfl) <| zm rfl <| zR rfl (bm (E := Enc.byte) (bytes := 1) (xs := [.tmp 81]) (l := ([x13] : List UInt8)) aa (by kernel_rfl) rfl rfl (by decide) rfl rfl) <| zX rfl (bA (E := Enc.byte) (bytes := 1) 2 aa aa rfl (by kernel_rfl) rfl rfl rfl rfl g52 e54) ?_;rintro _ _ ⟨t51, rfl, rfl⟩;refine zS rfl (ao (av := slE _ _ _) rfl) <| ai ?_;exact Exists.intro (x53, t51, 1) ⟨H, ba [2] (.cons (.refl _) (.cons (.refl _) (.cons (.refl _) (.nil _)))) rfl⟩
       ·replace H := bl c50 H;refine ah <| ab ?_;show AR _ _ _ _ _ [0, 1] _;refine za rfl <| za rfl <| ai <| aP ?_;obtain ⟨rfl, rfl⟩ := gk H;exact And.intro rfl (Exists.intro _ (Exists.intro _ ⟨bR rfl (.nil _) (.refl _), aM [] rfl, rfl, rfl⟩))
   rintro ⟨y55, t56, y57⟩ H;replace H : dm y6 (eO F n10) y55 y57 = some (r3, r4) := H
   unfold dm at H
   obtain ⟨g59, H⟩ := aF H;obtain ⟨x60, e61, H⟩ := bi H;refine ab ?_;show AR _ _ _ _ _ [0, 1, 2, 3] _;refine zS rfl (ac (av := slE _ _ _) rfl) <| zm rfl <| zS rfl (fu (E := Enc.byte) aa (by kernel_rfl) rfl rfl g59 e61) <| zS rfl (ao (av := slE _ _ _) rfl) <| ai ?_;exact Exists.intro (n10, x60, y55, t56) ⟨H, Nat.lt_succ_self _, ba [0] (.cons (.refl _) (.cons (.refl _) (.nil _))) rfl⟩
  ·replace H := bl c11 H;refine bQ ?_;exact Exists.intro (y7, t8) ⟨H, ba [0] (.cons (.refl _) (.nil _)) rfl⟩
 rintro ⟨y62, t63⟩ H;replace H : fR y62 = some (r3, r4) := H
 unfold fR at H
 refine ah <| ab ?_;show AR _ _ _ _ _ [0, 1, 2] _;refine zS rfl (ac (av := slE _ _ _) rfl) <| zS rfl (ao (av := slE _ _ _) rfl) <| za rfl <| ai <| aP ?_;obtain ⟨rfl, rfl⟩ := gk H;exact And.intro rfl (Exists.intro _ (Exists.intro _ ⟨bR rfl (.tok _ _ _) (.refl _), aM [] rfl, rfl, rfl⟩))
abbrev _root_.Go.Av.bc := @Tryz.underlying3
set_option maxRecDepth 100000 in
set_option maxHeartbeats 1000000 in
theorem w_qp_put (F : Nat) (o1 : Nat) (a2 : List UInt8) (t3 : Nat) (a4 : Int) (a5 : List UInt8) (r6 : List UInt8) (r8 : Int) (H : lR F a2 a4 a5 = some (r6, r8)) : ACalls Tryz.prog 44 [.pt o1 0, S a5] [.obj o1 [slE Enc.byte a2 (some t3), i64 a4], .tok t3 5] (fun e A' => e = .ret (.tup []) ∧ ∃ t7, A' = [.obj o1 [slE Enc.byte r6 (some t7), i64 r8], .tok t7 5]) := by
 unfold lR at H
 refine ax Tryz.func44 rfl rfl ?_;show AW _ _ 42 _ _ _;refine bP (X := (List UInt8) × Nat × Int) (fun (y15, t16, y17) => ⟨[(0, .pt o1 0), (1, S a5)], [], [.obj o1 [slE Enc.byte y15 (some t16), i64 y17], .tok t16 5]⟩) (fun (y15, t16, y17) => ga a5 y15 y17 = some (r6, r8)) ?_ ?_
 ·refine ah ?_;obtain ⟨g9, H⟩ := aF H;refine ab ?_;show AR _ _ _ _ _ [0, 1, 2, 3, 4, 5, 6, 7] _;refine zS rfl (ac (av := .pt _ _) rfl) <| zS rfl (az rfl) <| zS rfl (au (n := 1) (by kernel_rfl) rfl) <| zR rfl (ak (i := 0) bc rfl rfl rfl rfl) <| zm rfl <| zS rfl (bg af rfl) <| zS rfl (bC rfl rfl g9) <| zS rfl (cF rfl rfl) <| ai <| aH rfl (fun c10 => ?_) (fun c10 => ?_)
  ·replace H := bk c10 H;obtain ⟨g12, H⟩ := aF H;obtain ⟨x13, e14, H⟩ := bi H;refine ab ?_;show AR _ _ _ _ _ [0, 1, 2, 3, 4, 5, 6, 7, 8, 9, 10, 11, 12] _;refine zS rfl (ac (av := .pt _ _) rfl) <| zS rfl (ac (av := .pt _ _) rfl) <| zS rfl (ac (av := .pt _ _) rfl) <| zS rfl (az rfl) <| zS rfl (au (n := 0) (by kernel_rfl) rfl) <| zR rfl (ak (i := 0) aa rfl rfl rfl rfl) <| zX rfl (aY (bytes := 1) 1 aa af rfl (by kernel_rfl) rfl rfl rfl rfl g12 e14) ?_;rintro _ _ ⟨t11, rfl, rfl⟩;refine zS rfl (az rfl) <| zS rfl (au (n := 0) (by kernel_rfl) rfl) <| s0 rfl rfl (an (i := 0) (c := slE _ _ _) (by kernel_rfl) rfl rfl rfl rfl (ag rfl)) <| zS rfl (az rfl) <| zS rfl (au (n := 1) (by kernel_rfl) rfl) <| s0 rfl rfl (an (i := 0) (c := .v _) (by kernel_rfl) rfl rfl rfl rfl (ag rfl)) <| ai ?_;exact Exists.intro (x13, t11, 0) ⟨H, ba [0, 0] (.cons (.refl _) (.cons (.refl _) (.nil _))) rfl⟩
  ·replace H := bl c10 H;refine aJ ?_;exact Exists.intro (a2, t3, a4) ⟨H, ba [0, 0] (.cons (.refl _) (.cons (.refl _) (.nil _))) rfl⟩
 rintro ⟨y15, t16, y17⟩ H;replace H : ga a5 y15 y17 = some (r6, r8) := H
 unfold ga at H
 obtain ⟨g20, H⟩ := aF H;obtain ⟨x21, e22, H⟩ := bi H;obtain ⟨g23, H⟩ := aF H;refine bH (by kernel_rfl) ?_;show AI _ _ _ _ _ 21 (Array.replicate 21 false) _;refine zk 0 rfl (ac (av := .pt _ _) rfl) ?_;show AI _ _ _ _ _ _ #[true, false, false, false, false, false, false, false, false, false, false, false, false, false, false, false, false, false, false, false, false] _;refine zk 1 rfl (ac (av := .pt _ _) rfl) ?_;show AI _ _ _ _ _ _ #[true, true, false, false, false, false, false, false, false, false, false, false, false, false, false, false, false, false, false, false, false] _;refine zk 2 rfl (ac (av := .pt _ _) rfl) ?_;show AI _ _ _ _ _ _ #[true, true, true, false, false, false, false, false, false, false, false, false, false, false, false, false, false, false, false, false, false] _;refine zk 3 rfl (az rfl) ?_;show AI _ _ _ _ _ _ #[true, true, true, true, false, false, false, false, false, false, false, false, false, false, false, false, false, false, false, false, false] _;refine zk 4 rfl (au (n := 0) (by kernel_rfl) rfl) ?_;show AI _ _ _ _ _ _ #[true, true, true, true, true, false, false, false, false, false, false, false, false, false, false, false, false, false, false, false, false] _;refine zk 6 rfl (mv rfl) ?_;show AI _ _ _ _ _ _ #[true, true, true, true, true, false, true, false, false, false, false, false, false, false, false, false, false, false, false, false, false] _;refine zk 8 rfl (ac (av := .pt _ _) rfl) ?_
 show AI _ _ _ _ _ _ #[true, true, true, true, true, false, true, false, true, false, false, false, false, false, false, false, false, false, false, false, false] _;refine zk 9 rfl (az rfl) ?_;show AI _ _ _ _ _ _ #[true, true, true, true, true, false, true, false, true, true, false, false, false, false, false, false, false, false, false, false, false] _;refine zk 10 rfl (au (n := 1) (by kernel_rfl) rfl) ?_;show AI _ _ _ _ _ _ #[true, true, true, true, true, false, true, false, true, true, true, false, false, false, false, false, false, false, false, false, false] _;refine zk 12 rfl (mv rfl) ?_;show AI _ _ _ _ _ _ #[true, true, true, true, true, false, true, false, true, true, true, false, true, false, false, false, false, false, false, false, false] _;refine zk 13 rfl (bg af rfl) ?_;show AI _ _ _ _ _ _ #[true, true, true, true, true, false, true, false, true, true, true, false, true, true, false, false, false, false, false, false, false] _;refine cD (i := 5) (j := 11) (by kernel_rfl) rfl rfl rfl rfl ?_ ?_
 ·refine aL rfl (ak (i := 0) aa rfl rfl rfl rfl) ?_;show AI _ _ _ _ _ _ #[true, true, true, true, true, true, true, false, true, true, true, false, true, true, false, false, false, false, false, false, false] _;refine cD (i := 7) (j := 11) (by kernel_rfl) rfl rfl rfl rfl ?_ ?_
  ·refine bt rfl (aY (bytes := 1) 1 aa af rfl (by kernel_rfl) rfl rfl rfl rfl g20 e22) ?_;rintro _ _ ⟨t19, rfl, rfl⟩;show AI _ _ _ _ _ _ #[true, true, true, true, true, true, true, true, true, true, true, false, true, true, false, false, false, false, false, false, false] _;refine aQ (i := 11) (by kernel_rfl) rfl rfl <| aL rfl (ak (i := 0) bc rfl rfl rfl rfl) ?_;show AI _ _ _ _ _ _ #[true, true, true, true, true, true, true, true, true, true, true, true, true, true, false, false, false, false, false, false, false] _;refine zk 14 rfl (bC rfl rfl g23) ?_;show AI _ _ _ _ _ _ #[true, true, true, true, true, true, true, true, true, true, true, true, true, true, true, false, false, false, false, false, false] _;refine zk 15 rfl (az rfl) ?_;show AI _ _ _ _ _ _ #[true, true, true, true, true, true, true, true, true, true, true, true, true, true, true, true, false, false, false, false, false] _;refine zk 16 rfl (au (n := 0) (by kernel_rfl) rfl) ?_;show AI _ _ _ _ _ _ #[true, true, true, true, true, true, true, true, true, true, true, true, true, true, true, true, true, false, false, false, false] _;refine aQ (i := 17) (by kernel_rfl) rfl rfl <| bN (an (i := 0) (c := slE _ _ _) (by kernel_rfl) rfl rfl rfl rfl (ag rfl)) ?_;show AI _ _ _ _ _ _ #[true, true, true, true, true, true, true, true, true, true, true, true, true, true, true, true, true, true, false, false, false] _;refine zk 18 rfl (az rfl) ?_
   show AI _ _ _ _ _ _ #[true, true, true, true, true, true, true, true, true, true, true, true, true, true, true, true, true, true, true, false, false] _;refine zk 19 rfl (au (n := 1) (by kernel_rfl) rfl) ?_;show AI _ _ _ _ _ _ #[true, true, true, true, true, true, true, true, true, true, true, true, true, true, true, true, true, true, true, true, false] _;refine aQ (i := 20) (by kernel_rfl) rfl rfl <| bN (an (i := 0) (c := .v _) (by kernel_rfl) rfl rfl rfl rfl (ag rfl)) ?_;show AI _ _ _ _ _ _ #[true, true, true, true, true, true, true, true, true, true, true, true, true, true, true, true, true, true, true, true, true] _;refine br rfl ?_;obtain ⟨rfl, rfl⟩ := gk H;exact And.intro rfl (Exists.intro _ (Exists.intro _ ⟨cG rfl, aM [0, 0] rfl, rfl, t19, rfl⟩))
  ·refine aL rfl (ak (i := 0) bc rfl rfl rfl rfl) ?_;show AI _ _ _ _ _ _ #[true, true, true, true, true, true, true, false, true, true, true, true, true, true, false, false, false, false, false, false, false] _;refine zk 14 rfl (bC rfl rfl g23) ?_;show AI _ _ _ _ _ _ #[true, true, true, true, true, true, true, false, true, true, true, true, true, true, true, false, false, false, false, false, false] _;refine aQ (i := 7) (by kernel_rfl) rfl rfl <| bt rfl (aY (bytes := 1) 1 aa af rfl (by kernel_rfl) rfl rfl rfl rfl g20 e22) ?_;rintro _ _ ⟨t24, rfl, rfl⟩;show AI _ _ _ _ _ _ #[true, true, true, true, true, true, true, true, true, true, true, true, true, true, true, false, false, false, false, false, false] _;refine zk 15 rfl (az rfl) ?_;show AI _ _ _ _ _ _ #[true, true, true, true, true, true, true, true, true, true, true, true, true, true, true, true, false, false, false, false, false] _;refine zk 16 rfl (au (n := 0) (by kernel_rfl) rfl) ?_;show AI _ _ _ _ _ _ #[true, true, true, true, true, true, true, true, true, true, true, true, true, true, true, true, true, false, false, false, false] _;refine aQ (i := 17) (by kernel_rfl) rfl rfl <| bN (an (i := 0) (c := slE _ _ _) (by kernel_rfl) rfl rfl rfl rfl (ag rfl)) ?_;show AI _ _ _ _ _ _ #[true, true, true, true, true, true, true, true, true, true, true, true, true, true, true, true, true, true, false, false, false] _;refine zk 18 rfl (az rfl) ?_
   show AI _ _ _ _ _ _ #[true, true, true, true, true, true, true, true, true, true, true, true, true, true, true, true, true, true, true, false, false] _;refine zk 19 rfl (au (n := 1) (by kernel_rfl) rfl) ?_;show AI _ _ _ _ _ _ #[true, true, true, true, true, true, true, true, true, true, true, true, true, true, true, true, true, true, true, true, false] _;refine aQ (i := 20) (by kernel_rfl) rfl rfl <| bN (an (i := 0) (c := .v _) (by kernel_rfl) rfl rfl rfl rfl (ag rfl)) ?_;show AI _ _ _ _ _ _ #[true, true, true, true, true, true, true, true, true, true, true, true, true, true, true, true, true, true, true, true, true] _;refine br rfl ?_;obtain ⟨rfl, rfl⟩ := gk H;exact And.intro rfl (Exists.intro _ (Exists.intro _ ⟨cG rfl, aM [0, 0] rfl, rfl, t24, rfl⟩))
 ·refine aL rfl (ak (i := 0) bc rfl rfl rfl rfl) ?_;show AI _ _ _ _ _ _ #[true, true, true, true, true, false, true, false, true, true, true, true, true, true, false, false, false, false, false, false, false] _;refine zk 14 rfl (bC rfl rfl g23) ?_;show AI _ _ _ _ _ _ #[true, true, true, true, true, false, true, false, true, true, true, true, true, true, true, false, false, false, false, false, false] _;refine aQ (i := 5) (by kernel_rfl) rfl rfl <| aL rfl (ak (i := 0) aa rfl rfl rfl rfl) ?_;show AI _ _ _ _ _ _ #[true, true, true, true, true, true, true, false, true, true, true, true, true, true, true, false, false, false, false, false, false] _;refine aQ (i := 7) (by kernel_rfl) rfl rfl <| bt rfl (aY (bytes := 1) 1 aa af rfl (by kernel_rfl) rfl rfl rfl rfl g20 e22) ?_;rintro _ _ ⟨t25, rfl, rfl⟩;show AI _ _ _ _ _ _ #[true, true, true, true, true, true, true, true, true, true, true, true, true, true, true, false, false, false, false, false, false] _;refine zk 15 rfl (az rfl) ?_;show AI _ _ _ _ _ _ #[true, true, true, true, true, true, true, true, true, true, true, true, true, true, true, true, false, false, false, false, false] _;refine zk 16 rfl (au (n := 0) (by kernel_rfl) rfl) ?_;show AI _ _ _ _ _ _ #[true, true, true, true, true, true, true, true, true, true, true, true, true, true, true, true, true, false, false, false, false] _
  refine aQ (i := 17) (by kernel_rfl) rfl rfl <| bN (an (i := 0) (c := slE _ _ _) (by kernel_rfl) rfl rfl rfl rfl (ag rfl)) ?_;show AI _ _ _ _ _ _ #[true, true, true, true, true, true, true, true, true, true, true, true, true, true, true, true, true, true, false, false, false] _;refine zk 18 rfl (az rfl) ?_;show AI _ _ _ _ _ _ #[true, true, true, true, true, true, true, true, true, true, true, true, true, true, true, true, true, true, true, false, false] _;refine zk 19 rfl (au (n := 1) (by kernel_rfl) rfl) ?_;show AI _ _ _ _ _ _ #[true, true, true, true, true, true, true, true, true, true, true, true, true, true, true, true, true, true, true, true, false] _;refine aQ (i := 20) (by kernel_rfl) rfl rfl <| bN (an (i := 0) (c := .v _) (by kernel_rfl) rfl rfl rfl rfl (ag rfl)) ?_;show AI _ _ _ _ _ _ #[true, true, true, true, true, true, true, true, true, true, true, true, true, true, true, true, true, true, true, true, true] _;refine br rfl ?_;obtain ⟨rfl, rfl⟩ := gk H;exact And.intro rfl (Exists.intro _ (Exists.intro _ ⟨cG rfl, aM [0, 0] rfl, rfl, t25, rfl⟩))
set_option maxRecDepth 100000 in
set_option maxHeartbeats 1000000 in
theorem nH (F : Nat) (a1 : List UInt8) (q2 : Option Nat) (r3 : List UInt8) (H : jk F a1 = some r3) : ACalls Tryz.prog 23 [slE Enc.byte a1 q2] [] (Ret (slE Enc.byte r3 none) []) := by
 unfold jk at H
 refine ax Tryz.func23 rfl rfl ?_;show AW _ _ 41 _ _ _;refine ah <| ab ?_;show AR _ _ _ _ _ [0] _;refine za rfl <| ai <| ah <| ab ?_;show AR _ _ _ _ _ [0, 1, 2] _;refine zS rfl (jx (zs := [.slice none 0 0, .int .i64 0]) (ps := [(0, 1), (1, 1)]) (cs := [ko, i64 0]) (by kernel_rfl) rfl rfl) <| zX rfl (nt rfl (.inr ⟨_, rfl⟩)) ?_;rintro _ _ ⟨o4, rfl, rfl⟩;refine zS rfl (ao (av := .pt _ _) rfl) <| ai ?_
 refine fV 0 0 1 5 rfl rfl fun t5 => ?_
 show AW _ _ _ _ _ ⟨_, _, [.tok t5 5, .obj o4 [slE Enc.byte [] (some t5), i64 0]]⟩;refine bP (X := (List UInt8) × Nat × Int) (fun (y36, t37, y38) => ⟨[(3, .pt o4 0)], [], [.obj o4 [slE Enc.byte y36 (some t37), i64 y38], .tok t37 5]⟩) (fun (y36, t37, y38) => eM y36 y38 = some r3) ?_ ?_
 ·refine ah <| ab ?_;show AR _ _ _ _ _ [0, 1, 2] _;refine zS rfl (ac (av := slE _ _ _) rfl) <| zS rfl (aG aa rfl) <| zm rfl <| ai <| aO <| bZ (X := Nat × Int × (List UInt8) × Nat × Int) (fun (n11, y6, y7, t8, y9) => ⟨[(0, slE Enc.byte a1 q2), (3, .pt o4 0), (8, slE Enc.byte a1 q2), (9, i64 (a1.length : Int)), (10, i64 y6)], [], [.obj o4 [slE Enc.byte y7 (some t8), i64 y9], .tok t8 5]⟩) (fun (n11, y6, y7, t8, y9) => dl F a1 n11 (y6, y7, y9) = some r3) (fun (n11, y6, y7, t8, y9) => n11) (F, 0, [], t5, 0) H (ba [1, 0] (.cons (.refl _) (.cons (.refl _) (.cons (.refl _) (.cons (.refl _) (.cons (.refl _) (.nil _)))))) rfl) ?_;rintro ⟨n11, y6, y7, t8, y9⟩ H;obtain ⟨n11, rfl, H⟩ := cB H;replace H : eN F a1 (dl F a1 n11) y6 y7 y9 = some r3 := H
  unfold eN at H
  refine ah <| ab ?_;show AR _ _ _ _ _ [0] _;refine zS rfl (bI rfl rfl) <| ai <| ah <| aH rfl (fun c12 => ?_) (fun c12 => ?_)
  ·replace H := bk c12 H;refine aJ <| bP (X := (List UInt8) × Nat × Int) (fun (y31, t32, y33) => ⟨[(0, slE Enc.byte a1 q2), (3, .pt o4 0), (8, slE Enc.byte a1 q2), (9, i64 (a1.length : Int)), (10, i64 y6)], [], [.obj o4 [slE Enc.byte y31 (some t32), i64 y33], .tok t32 5]⟩) (fun (y31, t32, y33) => dR y6 (dl F a1 n11) y31 y33 = some r3) ?_ ?_
   ·refine aO <| ah ?_;obtain ⟨g13, H⟩ := aF H;obtain ⟨x14, e15, H⟩ := bi H;refine ab ?_;show AR _ _ _ _ _ [0, 1, 2, 3, 4] _;refine zm rfl <| zS rfl (bn (E := Enc.byte) aa (by kernel_rfl) rfl rfl g13 e15) <| zS rfl (aU aB rfl rfl) <| za rfl <| za rfl <| ai <| ah <| ah <| ab ?_;show AR _ _ _ _ _ [0, 1] _;refine zm rfl <| zS rfl (iV (a := x14) (b := 10) rfl rfl) <| ai <| aH rfl (fun c16 => ?_) (fun c16 => ?_)
    ·replace H := bk c16 H;refine ah ?_;obtain ⟨g18, H⟩ := aF H;obtain ⟨x19, e20, H⟩ := bi H;refine ab ?_;show AR _ _ _ _ _ [0, 1, 2, 3, 4, 5, 6, 7, 8, 9, 10, 11, 12] _;refine zS rfl (ac (av := .pt _ _) rfl) <| zS rfl (ac (av := .pt _ _) rfl) <| zS rfl (ac (av := .pt _ _) rfl) <| zS rfl (az rfl) <| zS rfl (au (n := 0) (by kernel_rfl) rfl) <| zR rfl (ak (i := 0) aa rfl rfl rfl rfl) <| zX rfl (aY (bytes := 1) 1 aa af rfl (by kernel_rfl) rfl rfl rfl rfl g18 e20) ?_;rintro _ _ ⟨t17, rfl, rfl⟩;refine zS rfl (az rfl) <| zS rfl (au (n := 0) (by kernel_rfl) rfl) <| s0 rfl rfl (an (i := 0) (c := slE _ _ _) (by kernel_rfl) rfl rfl rfl rfl (ag rfl)) <| zS rfl (az rfl) <| zS rfl (au (n := 1) (by kernel_rfl) rfl) <| s0 rfl rfl (an (i := 0) (c := .v _) (by kernel_rfl) rfl rfl rfl rfl (ag rfl)) <| ai <| bQ ?_;exact Exists.intro (x19, t17, 0) ⟨H, ba [0, 0] (.cons (.refl _) (.cons (.refl _) (.cons (.refl _) (.cons (.refl _) (.cons (.refl _) (.nil _)))))) rfl⟩
    ·replace H := bl c16 H;refine aJ ?_;obtain ⟨g21, H⟩ := aF H;obtain ⟨g22, H⟩ := aF H;obtain ⟨x23, e24, H⟩ := bi H;obtain ⟨x25, e26, H⟩ := dz H;obtain ⟨x27, x28, e29, H⟩ := fm H;refine ab ?_;show AR _ _ _ _ _ [0, 1, 2, 3, 4, 5, 6, 7] _;refine zS rfl (ac (av := .pt _ _) rfl) <| zm rfl <| zS rfl (ac (av := slE _ _ _) rfl) <| zm rfl <| zS rfl (bC rfl rfl g21) <| zS rfl (fu (E := Enc.byte) aa (by kernel_rfl) rfl rfl g22 e24) <| am rfl rfl (aN rfl en45_qp rfl (qP F x14 x23 none x25 e26) ?_);refine am rfl rfl (AO.callAt [0, 0] rfl en44_qp rfl (w_qp_put F o4 y7 t8 y9 x25 x27 x28 e29) rfl (fun c A' h => by cases h.1) ?_)
     rintro av A' ⟨h, t30, rfl⟩; cases h
     refine ai ?_;exact Exists.intro (x27, t30, x28) ⟨H, ba [0, 0] (.cons (.refl _) (.cons (.refl _) (.cons (.refl _) (.cons (.refl _) (.cons (.refl _) (.nil _)))))) rfl⟩
   rintro ⟨y31, t32, y33⟩ H;replace H : dR y6 (dl F a1 n11) y31 y33 = some r3 := H
   unfold dR at H
   obtain ⟨g35, H⟩ := aF H;refine ab ?_;show AR _ _ _ _ _ [0, 1] _;refine zS rfl (bC rfl rfl g35) <| zm rfl <| ai ?_;exact Exists.intro (n11, y6 + 1, y31, t32, y33) ⟨H, Nat.lt_succ_self _, ba [0, 0] (.cons (.refl _) (.cons (.refl _) (.cons (.refl _) (.cons (.refl _) (.cons (.refl _) (.nil _)))))) rfl⟩
  ·replace H := bl c12 H;refine bQ ?_;exact Exists.intro (y7, t8, y9) ⟨H, ba [0, 0] (.cons (.refl _) (.nil _)) rfl⟩
 rintro ⟨y36, t37, y38⟩ H;replace H : eM y36 y38 = some r3 := H
 unfold eM at H
 refine ah <| ab ?_;show AR _ _ _ _ _ [0, 1, 2, 3, 4] _;refine zS rfl (ac (av := .pt _ _) rfl) <| zS rfl (az rfl) <| zS rfl (au (n := 0) (by kernel_rfl) rfl) <| zR rfl (ak (i := 0) aa rfl rfl rfl rfl) <| zS rfl (ao (av := slE _ _ _) rfl) <| ai <| aP ?_;obtain rfl := ap H;exact And.intro rfl (Exists.intro _ (Exists.intro _ ⟨aR rfl (.tok _ _ _), aM [] rfl, rfl, rfl⟩))
end Go.Proofs.YtdaafnaokdigbaaGreatDoor
namespace Go.Pv
def b64_k1 : List UInt8 := [65, 66, 67, 68, 69, 70, 71, 72, 73, 74, 75, 76, 77, 78, 79, 80, 81, 82, 83, 84, 85, 86, 87, 88, 89, 90, 97, 98, 99, 100, 101, 102, 103, 104, 105, 106, 107, 108, 109, 110, 111, 112, 113, 114, 115, 116, 117, 118, 119, 120, 121, 122, 48, 49, 50, 51, 52, 53, 54, 55, 56, 57, 43, 47]
def fi (y43 : UInt8) (y44 : UInt8) (y45 : UInt8) (y46 : UInt8) : Option (UInt8 × UInt8 × UInt8 × UInt8) :=
some (y43, y44, y45, y46)
def dZ (y20 : UInt8) (y27 : UInt8) (y34 : UInt8) (y41 : UInt8) : Option (UInt8 × UInt8 × UInt8 × UInt8) :=
fi y20 y27 y34 y41
def dY (a1 : List UInt8) (x10 : List UInt8) (y20 : UInt8) (y27 : UInt8) (y34 : UInt8) : Option (UInt8 × UInt8 × UInt8 × UInt8) :=
grd (decide (0 ≤ 0)) <|
grd (cE (IntKind.u64.wrap ((BitVec.ofInt IntKind.u64.bits (Int.fdiv (IntKind.u64.wrap ((BitVec.ofInt IntKind.u64.bits (IntKind.u64.wrap ((BitVec.ofInt IntKind.u64.bits (IntKind.u64.wrap ((IntKind.u64.wrap ((x10.getD 0 0).toNat : Int)) * 2 ^ min (Int.toNat 16) IntKind.u64.bits)) ||| BitVec.ofInt IntKind.u64.bits (IntKind.u64.wrap ((IntKind.u64.wrap ((x10.getD 1 0).toNat : Int)) * 2 ^ min (Int.toNat 8) IntKind.u64.bits))).toNat)) ||| BitVec.ofInt IntKind.u64.bits (IntKind.u64.wrap ((x10.getD 2 0).toNat : Int))).toNat)) (2 ^ min (Int.toNat 0) IntKind.u64.bits)) &&& BitVec.ofInt IntKind.u64.bits 63).toNat)) b64_k1.length) <|
lt (at_ b64_k1 (IntKind.u64.wrap ((BitVec.ofInt IntKind.u64.bits (Int.fdiv (IntKind.u64.wrap ((BitVec.ofInt IntKind.u64.bits (IntKind.u64.wrap ((BitVec.ofInt IntKind.u64.bits (IntKind.u64.wrap ((IntKind.u64.wrap ((x10.getD 0 0).toNat : Int)) * 2 ^ min (Int.toNat 16) IntKind.u64.bits)) ||| BitVec.ofInt IntKind.u64.bits (IntKind.u64.wrap ((IntKind.u64.wrap ((x10.getD 1 0).toNat : Int)) * 2 ^ min (Int.toNat 8) IntKind.u64.bits))).toNat)) ||| BitVec.ofInt IntKind.u64.bits (IntKind.u64.wrap ((x10.getD 2 0).toNat : Int))).toNat)) (2 ^ min (Int.toNat 0) IntKind.u64.bits)) &&& BitVec.ofInt IntKind.u64.bits 63).toNat))) fun x38 =>
bif decide ((a1.length : Int) < 3) then
  dZ y20 y27 y34 61
else
  dZ y20 y27 y34 x38
def dX (a1 : List UInt8) (x10 : List UInt8) (y20 : UInt8) (y27 : UInt8) : Option (UInt8 × UInt8 × UInt8 × UInt8) :=
grd (decide (0 ≤ 6)) <|
grd (cE (IntKind.u64.wrap ((BitVec.ofInt IntKind.u64.bits (Int.fdiv (IntKind.u64.wrap ((BitVec.ofInt IntKind.u64.bits (IntKind.u64.wrap ((BitVec.ofInt IntKind.u64.bits (IntKind.u64.wrap ((IntKind.u64.wrap ((x10.getD 0 0).toNat : Int)) * 2 ^ min (Int.toNat 16) IntKind.u64.bits)) ||| BitVec.ofInt IntKind.u64.bits (IntKind.u64.wrap ((IntKind.u64.wrap ((x10.getD 1 0).toNat : Int)) * 2 ^ min (Int.toNat 8) IntKind.u64.bits))).toNat)) ||| BitVec.ofInt IntKind.u64.bits (IntKind.u64.wrap ((x10.getD 2 0).toNat : Int))).toNat)) (2 ^ min (Int.toNat 6) IntKind.u64.bits)) &&& BitVec.ofInt IntKind.u64.bits 63).toNat)) b64_k1.length) <|
lt (at_ b64_k1 (IntKind.u64.wrap ((BitVec.ofInt IntKind.u64.bits (Int.fdiv (IntKind.u64.wrap ((BitVec.ofInt IntKind.u64.bits (IntKind.u64.wrap ((BitVec.ofInt IntKind.u64.bits (IntKind.u64.wrap ((IntKind.u64.wrap ((x10.getD 0 0).toNat : Int)) * 2 ^ min (Int.toNat 16) IntKind.u64.bits)) ||| BitVec.ofInt IntKind.u64.bits (IntKind.u64.wrap ((IntKind.u64.wrap ((x10.getD 1 0).toNat : Int)) * 2 ^ min (Int.toNat 8) IntKind.u64.bits))).toNat)) ||| BitVec.ofInt IntKind.u64.bits (IntKind.u64.wrap ((x10.getD 2 0).toNat : Int))).toNat)) (2 ^ min (Int.toNat 6) IntKind.u64.bits)) &&& BitVec.ofInt IntKind.u64.bits 63).toNat))) fun x31 =>
bif decide ((a1.length : Int) < 2) then
  dY a1 x10 y20 y27 61
else
  dY a1 x10 y20 y27 x31
def dW (a1 : List UInt8) (x10 : List UInt8) (y20 : UInt8) : Option (UInt8 × UInt8 × UInt8 × UInt8) :=
grd (decide (0 ≤ 12)) <|
grd (cE (IntKind.u64.wrap ((BitVec.ofInt IntKind.u64.bits (Int.fdiv (IntKind.u64.wrap ((BitVec.ofInt IntKind.u64.bits (IntKind.u64.wrap ((BitVec.ofInt IntKind.u64.bits (IntKind.u64.wrap ((IntKind.u64.wrap ((x10.getD 0 0).toNat : Int)) * 2 ^ min (Int.toNat 16) IntKind.u64.bits)) ||| BitVec.ofInt IntKind.u64.bits (IntKind.u64.wrap ((IntKind.u64.wrap ((x10.getD 1 0).toNat : Int)) * 2 ^ min (Int.toNat 8) IntKind.u64.bits))).toNat)) ||| BitVec.ofInt IntKind.u64.bits (IntKind.u64.wrap ((x10.getD 2 0).toNat : Int))).toNat)) (2 ^ min (Int.toNat 12) IntKind.u64.bits)) &&& BitVec.ofInt IntKind.u64.bits 63).toNat)) b64_k1.length) <|
lt (at_ b64_k1 (IntKind.u64.wrap ((BitVec.ofInt IntKind.u64.bits (Int.fdiv (IntKind.u64.wrap ((BitVec.ofInt IntKind.u64.bits (IntKind.u64.wrap ((BitVec.ofInt IntKind.u64.bits (IntKind.u64.wrap ((IntKind.u64.wrap ((x10.getD 0 0).toNat : Int)) * 2 ^ min (Int.toNat 16) IntKind.u64.bits)) ||| BitVec.ofInt IntKind.u64.bits (IntKind.u64.wrap ((IntKind.u64.wrap ((x10.getD 1 0).toNat : Int)) * 2 ^ min (Int.toNat 8) IntKind.u64.bits))).toNat)) ||| BitVec.ofInt IntKind.u64.bits (IntKind.u64.wrap ((x10.getD 2 0).toNat : Int))).toNat)) (2 ^ min (Int.toNat 12) IntKind.u64.bits)) &&& BitVec.ofInt IntKind.u64.bits 63).toNat))) fun x24 =>
bif decide ((a1.length : Int) < 1) then
  dX a1 x10 y20 61
else
  dX a1 x10 y20 x24
def fv (F : Nat) (a1 : List UInt8) : Option (UInt8 × UInt8 × UInt8 × UInt8) :=
grd (decide (a1.length ≤ 3)) <|
lt (cpyB ([0, 0, 0] : List UInt8) a1) fun x10 =>
grd (decide (0 ≤ 16)) <|
grd (decide (0 ≤ 8)) <|
grd (decide (0 ≤ 18)) <|
grd (cE (IntKind.u64.wrap ((BitVec.ofInt IntKind.u64.bits (Int.fdiv (IntKind.u64.wrap ((BitVec.ofInt IntKind.u64.bits (IntKind.u64.wrap ((BitVec.ofInt IntKind.u64.bits (IntKind.u64.wrap ((IntKind.u64.wrap ((x10.getD 0 0).toNat : Int)) * 2 ^ min (Int.toNat 16) IntKind.u64.bits)) ||| BitVec.ofInt IntKind.u64.bits (IntKind.u64.wrap ((IntKind.u64.wrap ((x10.getD 1 0).toNat : Int)) * 2 ^ min (Int.toNat 8) IntKind.u64.bits))).toNat)) ||| BitVec.ofInt IntKind.u64.bits (IntKind.u64.wrap ((x10.getD 2 0).toNat : Int))).toNat)) (2 ^ min (Int.toNat 18) IntKind.u64.bits)) &&& BitVec.ofInt IntKind.u64.bits 63).toNat)) b64_k1.length) <|
lt (at_ b64_k1 (IntKind.u64.wrap ((BitVec.ofInt IntKind.u64.bits (Int.fdiv (IntKind.u64.wrap ((BitVec.ofInt IntKind.u64.bits (IntKind.u64.wrap ((BitVec.ofInt IntKind.u64.bits (IntKind.u64.wrap ((IntKind.u64.wrap ((x10.getD 0 0).toNat : Int)) * 2 ^ min (Int.toNat 16) IntKind.u64.bits)) ||| BitVec.ofInt IntKind.u64.bits (IntKind.u64.wrap ((IntKind.u64.wrap ((x10.getD 1 0).toNat : Int)) * 2 ^ min (Int.toNat 8) IntKind.u64.bits))).toNat)) ||| BitVec.ofInt IntKind.u64.bits (IntKind.u64.wrap ((x10.getD 2 0).toNat : Int))).toNat)) (2 ^ min (Int.toNat 18) IntKind.u64.bits)) &&& BitVec.ofInt IntKind.u64.bits 63).toNat))) fun x17 =>
bif decide ((a1.length : Int) < 0) then
  dW a1 x10 61
else
  dW a1 x10 x17
def fq (y30 : List UInt8) : Option ((List UInt8)) :=
grd (okW y30 []) <|
some y30
def gj (F : Nat) (rec10 : ((List UInt8) × (List UInt8)) → Option ((List UInt8))) (y6 : List UInt8) (y8 : List UInt8) : Option ((List UInt8)) :=
bif decide (0 < (y6.length : Int)) then
  grd (fP (min 3 (y6.length : Int)) y6.length) <|
  lt (to_ y6 (min 3 (y6.length : Int))) fun x14 =>
  bnd4 (fv F x14) fun x16 x17 x18 x19 =>
  grd (okW y8 ([x16, x17, x18, x19] : List UInt8)) <|
  lt (y8 ++ ([x16, x17, x18, x19] : List UInt8)) fun x23 =>
  grd (fP (min 3 (y6.length : Int)) y6.length) <|
  lt (hZ y6 (min 3 (y6.length : Int))) fun x27 =>
  rec10 (x27, x23)
else
  fq y8
def fr (F : Nat) (n : Nat) : ((List UInt8) × (List UInt8)) → Option ((List UInt8)) :=
  loop (fun rec x => gj F rec x.1 x.2) n
def kh (F : Nat) (a1 : List UInt8) : Option ((List UInt8)) :=
fr F F (a1, [])
def fU (F : Nat) (a1 : List UInt8) (y50 : List UInt8) : Option ((List UInt8) × Int) :=
bnd (kh F y50) fun x53 =>
bif !decide (x53 = a1) then
  some ([], 2)
else
  some (y50, 0)
def fT (y5 : List UInt8) (y7 : List UInt8) (rec8 : ((List UInt8) × (List UInt8)) → Option ((List UInt8) × Int)) (y35 : Int) (y36 : Int) : Option ((List UInt8) × Int) :=
grd (decide (0 ≤ 16)) <|
grd (decide (0 ≤ 8)) <|
grd (fP y36 ([Go.Av.toB (Int.fdiv y35 (2 ^ min (Int.toNat 16) IntKind.u64.bits)), Go.Av.toB (Int.fdiv y35 (2 ^ min (Int.toNat 8) IntKind.u64.bits)), Go.Av.toB y35] : List UInt8).length) <|
lt (to_ ([Go.Av.toB (Int.fdiv y35 (2 ^ min (Int.toNat 16) IntKind.u64.bits)), Go.Av.toB (Int.fdiv y35 (2 ^ min (Int.toNat 8) IntKind.u64.bits)), Go.Av.toB y35] : List UInt8) y36) fun x41 =>
grd (bw (y5.length + x41.length)) <|
lt (y5 ++ x41) fun x45 =>
grd (fP 4 y7.length) <|
lt (hZ y7 4) fun x48 =>
rec8 (x45, x48)
def fj (y12 : Int) (y14 : Int) (rec15 : (Int × Int × Int) → Option ((List UInt8) × Int)) (y28 : Int) (y29 : Int) : Option ((List UInt8) × Int) :=
bif (decide (y29 < 0)) || (decide (y28 < 1)) then
  some ([], 2)
else
  grd (decide (0 ≤ 6)) <|
  grd (okI (y14 + 1)) <|
  rec15 (IntKind.u64.wrap ((BitVec.ofInt IntKind.u64.bits (IntKind.u64.wrap (y12 * 2 ^ min (Int.toNat 6) IntKind.u64.bits)) ||| BitVec.ofInt IntKind.u64.bits (IntKind.u64.wrap y29)).toNat), y28, y14 + 1)
def iy (y5 : List UInt8) (y7 : List UInt8) (rec8 : ((List UInt8) × (List UInt8)) → Option ((List UInt8) × Int)) (rec15 : (Int × Int × Int) → Option ((List UInt8) × Int)) (y12 : Int) (y13 : Int) (y14 : Int) : Option ((List UInt8) × Int) :=
bif decide (y14 < 4) then
  grd (cE y14 y7.length) <|
  lt (at_ y7 y14) fun x19 =>
  lt (Go.Lib.indexByte b64_k1 x19) fun x21 =>
  grd (cE y14 y7.length) <|
  lt (at_ y7 y14) fun x24 =>
  bif decide (x24 = 61) then
    grd (okI (y13 - 1)) <|
    fj y12 y14 rec15 (y13 - 1) 0
  else
    fj y12 y14 rec15 y13 x21
else
  fT y5 y7 rec8 y12 y13
def fk (y5 : List UInt8) (y7 : List UInt8) (rec8 : ((List UInt8) × (List UInt8)) → Option ((List UInt8) × Int)) (n : Nat) : (Int × Int × Int) → Option ((List UInt8) × Int) :=
  loop (fun rec x => iy y5 y7 rec8 rec x.1 x.2.1 x.2.2) n
def ix (F : Nat) (a1 : List UInt8) (rec8 : ((List UInt8) × (List UInt8)) → Option ((List UInt8) × Int)) (y5 : List UInt8) (y7 : List UInt8) : Option ((List UInt8) × Int) :=
bif !decide (y7 = ([] : List UInt8)) then
  bif decide ((y7.length : Int) < 4) then
    some ([], 2)
  else
    fk y5 y7 rec8 F (0, 3, 0)
else
  fU F a1 y5
def co (F : Nat) (a1 : List UInt8) (n : Nat) : ((List UInt8) × (List UInt8)) → Option ((List UInt8) × Int) :=
  loop (fun rec x => ix F a1 rec x.1 x.2) n
def kz (F : Nat) (a1 : List UInt8) : Option ((List UInt8) × Int) :=
co F a1 F ([], a1)
end Go.Pv
namespace Go.Proofs.YtdaafnaokdigbaaGreatDoor
open Go.RowKit Go.Av Go.Pv
theorem en41_b64 : ∀ (args : Array Value) (w : World), (callFunc 41 args).run Tryz.prog w = .ok (.enter 41 args) w := fun _ _ => by kernel_rfl
theorem ry : ∀ (args : Array Value) (w : World), (callFunc 114 args).run Tryz.prog w = .ok (.enter 114 args) w := fun _ _ => by kernel_rfl
theorem ru : ∀ (args : Array Value) (w : World), (callFunc 128 args).run Tryz.prog w = .ok (.enter 128 args) w := fun _ _ => by kernel_rfl
theorem rt : ∀ (args : Array Value) (w : World), (callFunc 135 args).run Tryz.prog w = .ok (.enter 135 args) w := fun _ _ => by kernel_rfl
theorem rr : ∀ (args : Array Value) (w : World), (callFunc 136 args).run Tryz.prog w = .ok (.enter 136 args) w := fun _ _ => by kernel_rfl
abbrev _root_.Go.Av.bE := @Tryz.underlying157
set_option maxRecDepth 100000 in
set_option maxHeartbeats 1000000 in
theorem nR (F : Nat) (a1 : List UInt8) (q2 : Option Nat) (r3 : UInt8) (r4 : UInt8) (r5 : UInt8) (r6 : UInt8) (H : fv F a1 = some (r3, r4, r5, r6)) : ACalls Tryz.prog 135 [slE Enc.byte a1 q2] [] (Ret (.agg [u8 r3, u8 r4, u8 r5, u8 r6]) []) := by
 unfold fv at H
 refine ax Tryz.func135 rfl rfl ?_;show AW _ _ 43 _ _ _;refine ah <| ab ?_;show AR _ _ _ _ _ [0] _;refine zX rfl (dd (zs := [.int .u8 0, .int .u8 0, .int .u8 0, .int .u8 0]) (by kernel_rfl)) ?_;rintro _ _ ⟨o7, rfl, rfl⟩;refine ai <| ah <| ab ?_;show AR _ _ _ _ _ [0] _;refine zX rfl (dd (zs := [.int .u8 0, .int .u8 0, .int .u8 0]) (by kernel_rfl)) ?_;rintro _ _ ⟨o8, rfl, rfl⟩;refine ai <| ah ?_;obtain ⟨g9, H⟩ := aF H;obtain ⟨x10, e11, H⟩ := bi H;refine ab ?_;show AR _ _ _ _ _ [0, 1, 2] _;refine zS rfl (mn (k := 1) Tryz.underlying166 (by kernel_rfl) rfl) <| zS rfl (ac (av := slE _ _ _) rfl) <| zR rfl (pp (l := ([0, 0, 0] : List UInt8)) (vs := [u8 (x10.getD 0 0), u8 (x10.getD 1 0), u8 (x10.getD 2 0)]) 0 aa (by kernel_rfl) rfl rfl rfl rfl rfl g9 e11 rfl) <| ai <| ah ?_;obtain ⟨g12, H⟩ := aF H;obtain ⟨g13, H⟩ := aF H;refine ab ?_;show AR _ _ _ _ _ [0, 1, 2, 3, 4, 5, 6, 7, 8, 9, 10, 11, 12, 13] _
 refine zS rfl (bB (Ar := 0) (k := 1) (m := 0) Tryz.underlying166 (by kernel_rfl) rfl rfl rfl (by decide)) <| zR rfl (ak (i := 0) aB rfl rfl rfl rfl) <| zS rfl (dT (k' := .u8) (n := ((x10.getD 0 0).toNat : Int)) (by kernel_rfl) Tryz.underlying76 rfl) <| zS rfl (la rfl rfl (of_decide_eq_true g12)) <| zS rfl (bB (Ar := 0) (k := 1) (m := 1) Tryz.underlying166 (by kernel_rfl) rfl rfl rfl (by decide)) <| zR rfl (ak (i := 0) aB rfl rfl rfl rfl) <| zS rfl (dT (k' := .u8) (n := ((x10.getD 1 0).toNat : Int)) (by kernel_rfl) Tryz.underlying76 rfl) <| zS rfl (la rfl rfl (of_decide_eq_true g13)) <| zS rfl (nC rfl rfl) <| zS rfl (bB (Ar := 0) (k := 1) (m := 2) Tryz.underlying166 (by kernel_rfl) rfl rfl rfl (by decide)) <| zR rfl (ak (i := 0) aB rfl rfl rfl rfl) <| zS rfl (dT (k' := .u8) (n := ((x10.getD 2 0).toNat : Int)) (by kernel_rfl) Tryz.underlying76 rfl) <| zS rfl (nC rfl rfl) <| za rfl <| ai <| ah <| ab ?_;show AR _ _ _ _ _ [0] _;refine zX rfl (dd (zs := [.int .u8 0, .int .u8 0, .int .u8 0, .int .u8 0]) (by kernel_rfl)) ?_;rintro _ _ ⟨o14, rfl, rfl⟩;refine ai <| bP (X := UInt8 × UInt8 × UInt8 × UInt8) (fun (y43, y44, y45, y46) => ⟨[(2, .pt o7 0), (5, .pt o14 0)], [], [.obj o14 [u8 y43, u8 y44, u8 y45, u8 y46], .obj o7 [u8 0, u8 0, u8 0, u8 0]]⟩) (fun (y43, y44, y45, y46) => fi y43 y44 y45 y46 = some (r3, r4, r5, r6)) ?_ ?_
 ·refine ah <| ab ?_;show AR _ _ _ _ _ [0] _;refine zm rfl <| ai <| aO <| rB 6 <| ah <| ab ?_;show AR _ _ _ _ _ [0] _;refine zS rfl (cM (av' := B true) (bI rfl rfl) (ay (by decide))) <| ai <| ah <| aH rfl (fun _ => ?_) (fun hx => kg rfl hx);refine aJ <| bP (X := UInt8) (fun y20 => ⟨[(0, slE Enc.byte a1 q2), (2, .pt o7 0), (4, .v (.int .u64 (IntKind.u64.wrap ((BitVec.ofInt IntKind.u64.bits (IntKind.u64.wrap ((BitVec.ofInt IntKind.u64.bits (IntKind.u64.wrap ((IntKind.u64.wrap ((x10.getD 0 0).toNat : Int)) * 2 ^ min (Int.toNat 16) IntKind.u64.bits)) ||| BitVec.ofInt IntKind.u64.bits (IntKind.u64.wrap ((IntKind.u64.wrap ((x10.getD 1 0).toNat : Int)) * 2 ^ min (Int.toNat 8) IntKind.u64.bits))).toNat)) ||| BitVec.ofInt IntKind.u64.bits (IntKind.u64.wrap ((x10.getD 2 0).toNat : Int))).toNat)))), (5, .pt o14 0), (23, i64 0)], [], [.obj o14 [u8 y20, u8 0, u8 0, u8 0], .obj o7 [u8 0, u8 0, u8 0, u8 0]]⟩) (fun y20 => dW a1 x10 y20 = some (r3, r4, r5, r6)) ?_ ?_
  ·refine aO <| ah <| ab ?_;show AR _ _ _ _ _ [0, 1] _;refine zm rfl <| za rfl <| ai <| ah ?_;obtain ⟨g15, H⟩ := aF H;obtain ⟨g16, H⟩ := aF H;obtain ⟨x17, e18, H⟩ := bi H;refine ab ?_;show AR _ _ _ _ _ [0, 1, 2, 3, 4, 5, 6, 7, 8, 9] _;refine zm rfl <| zm rfl <| zm rfl <| zS rfl (cM (av' := i64 0) (g_mul rfl rfl (by decide)) rfl) <| zS rfl (cM (av' := i64 18) (kt rfl rfl (by decide)) rfl) <| zS rfl (iM rfl rfl (of_decide_eq_true g15)) <| zS rfl (ke rfl rfl) <| zS rfl (cj af rfl rfl g16 e18) <| zS rfl (bB (Ar := 0) (k := 1) (m := 0) bE (by kernel_rfl) rfl rfl rfl (by decide)) <| s0 rfl rfl (an (i := 0) (c := .v _) (by kernel_rfl) rfl rfl rfl rfl (ag rfl)) <| ai <| ah <| ab ?_;show AR _ _ _ _ _ [0, 1, 2, 3] _;refine zm rfl <| zS rfl (ac (av := slE _ _ _) rfl) <| zS rfl (aG aa rfl) <| zS rfl (cF rfl rfl) <| ai <| aH rfl (fun c19 => ?_) (fun c19 => ?_)
   ·replace H := bk c19 H;refine ab ?_;show AR _ _ _ _ _ [0, 1, 2] _;refine zm rfl <| zS rfl (bB (Ar := 0) (k := 1) (m := 0) bE (by kernel_rfl) rfl rfl rfl (by decide)) <| s0 rfl rfl (an (i := 0) (c := .v _) (by kernel_rfl) rfl rfl rfl rfl (ag rfl)) <| ai ?_;exact Exists.intro 61 ⟨H, ba [0, 1] (.cons (.refl _) (.cons (.refl _) (.cons (.refl _) (.cons (.refl _) (.cons (.refl _) (.nil _)))))) rfl⟩
   ·replace H := bl c19 H;refine aJ ?_;exact Exists.intro x17 ⟨H, ba [0, 1] (.cons (.refl _) (.cons (.refl _) (.cons (.refl _) (.cons (.refl _) (.cons (.refl _) (.nil _)))))) rfl⟩
  rintro y20 H;replace H : dW a1 x10 y20 = some (r3, r4, r5, r6) := H
  unfold dW at H
  refine ab ?_;show AR _ _ _ _ _ [0, 1] _;refine zS rfl (cM (av' := i64 1) (bC rfl rfl (by decide)) rfl) <| zm rfl <| ai <| ah <| ab ?_;show AR _ _ _ _ _ [0] _;refine zS rfl (cM (av' := B true) (bI rfl rfl) (ay (by decide))) <| ai <| ah <| aH rfl (fun _ => ?_) (fun hx => kg rfl hx);refine aJ <| bP (X := UInt8) (fun y27 => ⟨[(0, slE Enc.byte a1 q2), (2, .pt o7 0), (4, .v (.int .u64 (IntKind.u64.wrap ((BitVec.ofInt IntKind.u64.bits (IntKind.u64.wrap ((BitVec.ofInt IntKind.u64.bits (IntKind.u64.wrap ((IntKind.u64.wrap ((x10.getD 0 0).toNat : Int)) * 2 ^ min (Int.toNat 16) IntKind.u64.bits)) ||| BitVec.ofInt IntKind.u64.bits (IntKind.u64.wrap ((IntKind.u64.wrap ((x10.getD 1 0).toNat : Int)) * 2 ^ min (Int.toNat 8) IntKind.u64.bits))).toNat)) ||| BitVec.ofInt IntKind.u64.bits (IntKind.u64.wrap ((x10.getD 2 0).toNat : Int))).toNat)))), (5, .pt o14 0), (23, i64 1)], [], [.obj o14 [u8 y20, u8 y27, u8 0, u8 0], .obj o7 [u8 0, u8 0, u8 0, u8 0]]⟩) (fun y27 => dX a1 x10 y20 y27 = some (r3, r4, r5, r6)) ?_ ?_
  ·refine aO <| ah <| ab ?_;show AR _ _ _ _ _ [0, 1] _;refine zm rfl <| za rfl <| ai <| ah ?_;obtain ⟨g22, H⟩ := aF H;obtain ⟨g23, H⟩ := aF H;obtain ⟨x24, e25, H⟩ := bi H;refine ab ?_;show AR _ _ _ _ _ [0, 1, 2, 3, 4, 5, 6, 7, 8, 9] _;refine zm rfl <| zm rfl <| zm rfl <| zS rfl (cM (av' := i64 6) (g_mul rfl rfl (by decide)) rfl) <| zS rfl (cM (av' := i64 12) (kt rfl rfl (by decide)) rfl) <| zS rfl (iM rfl rfl (of_decide_eq_true g22)) <| zS rfl (ke rfl rfl) <| zS rfl (cj af rfl rfl g23 e25) <| zS rfl (bB (Ar := 0) (k := 1) (m := 1) bE (by kernel_rfl) rfl rfl rfl (by decide)) <| s0 rfl rfl (an (i := 0) (c := .v _) (by kernel_rfl) rfl rfl rfl rfl (ag rfl)) <| ai <| ah <| ab ?_;show AR _ _ _ _ _ [0, 1, 2, 3] _;refine zm rfl <| zS rfl (ac (av := slE _ _ _) rfl) <| zS rfl (aG aa rfl) <| zS rfl (cF rfl rfl) <| ai <| aH rfl (fun c26 => ?_) (fun c26 => ?_)
   ·replace H := bk c26 H;refine ab ?_;show AR _ _ _ _ _ [0, 1, 2] _;refine zm rfl <| zS rfl (bB (Ar := 0) (k := 1) (m := 1) bE (by kernel_rfl) rfl rfl rfl (by decide)) <| s0 rfl rfl (an (i := 0) (c := .v _) (by kernel_rfl) rfl rfl rfl rfl (ag rfl)) <| ai ?_;exact Exists.intro 61 ⟨H, ba [0, 0] (.cons (.refl _) (.cons (.refl _) (.cons (.refl _) (.cons (.refl _) (.cons (.refl _) (.nil _)))))) rfl⟩
   ·replace H := bl c26 H;refine aJ ?_;exact Exists.intro x24 ⟨H, ba [0, 0] (.cons (.refl _) (.cons (.refl _) (.cons (.refl _) (.cons (.refl _) (.cons (.refl _) (.nil _)))))) rfl⟩
  rintro y27 H;replace H : dX a1 x10 y20 y27 = some (r3, r4, r5, r6) := H
  unfold dX at H
  refine ab ?_;show AR _ _ _ _ _ [0, 1] _;refine zS rfl (cM (av' := i64 2) (bC rfl rfl (by decide)) rfl) <| zm rfl <| ai <| ah <| ab ?_;show AR _ _ _ _ _ [0] _;refine zS rfl (cM (av' := B true) (bI rfl rfl) (ay (by decide))) <| ai <| ah <| aH rfl (fun _ => ?_) (fun hx => kg rfl hx);refine aJ <| bP (X := UInt8) (fun y34 => ⟨[(0, slE Enc.byte a1 q2), (2, .pt o7 0), (4, .v (.int .u64 (IntKind.u64.wrap ((BitVec.ofInt IntKind.u64.bits (IntKind.u64.wrap ((BitVec.ofInt IntKind.u64.bits (IntKind.u64.wrap ((IntKind.u64.wrap ((x10.getD 0 0).toNat : Int)) * 2 ^ min (Int.toNat 16) IntKind.u64.bits)) ||| BitVec.ofInt IntKind.u64.bits (IntKind.u64.wrap ((IntKind.u64.wrap ((x10.getD 1 0).toNat : Int)) * 2 ^ min (Int.toNat 8) IntKind.u64.bits))).toNat)) ||| BitVec.ofInt IntKind.u64.bits (IntKind.u64.wrap ((x10.getD 2 0).toNat : Int))).toNat)))), (5, .pt o14 0), (23, i64 2)], [], [.obj o14 [u8 y20, u8 y27, u8 y34, u8 0], .obj o7 [u8 0, u8 0, u8 0, u8 0]]⟩) (fun y34 => dY a1 x10 y20 y27 y34 = some (r3, r4, r5, r6)) ?_ ?_
  ·refine aO <| ah <| ab ?_;show AR _ _ _ _ _ [0, 1] _;refine zm rfl <| za rfl <| ai <| ah ?_;obtain ⟨g29, H⟩ := aF H;obtain ⟨g30, H⟩ := aF H;obtain ⟨x31, e32, H⟩ := bi H;refine ab ?_;show AR _ _ _ _ _ [0, 1, 2, 3, 4, 5, 6, 7, 8, 9] _;refine zm rfl <| zm rfl <| zm rfl <| zS rfl (cM (av' := i64 12) (g_mul rfl rfl (by decide)) rfl) <| zS rfl (cM (av' := i64 6) (kt rfl rfl (by decide)) rfl) <| zS rfl (iM rfl rfl (of_decide_eq_true g29)) <| zS rfl (ke rfl rfl) <| zS rfl (cj af rfl rfl g30 e32) <| zS rfl (bB (Ar := 0) (k := 1) (m := 2) bE (by kernel_rfl) rfl rfl rfl (by decide)) <| s0 rfl rfl (an (i := 0) (c := .v _) (by kernel_rfl) rfl rfl rfl rfl (ag rfl)) <| ai <| ah <| ab ?_;show AR _ _ _ _ _ [0, 1, 2, 3] _;refine zm rfl <| zS rfl (ac (av := slE _ _ _) rfl) <| zS rfl (aG aa rfl) <| zS rfl (cF rfl rfl) <| ai <| aH rfl (fun c33 => ?_) (fun c33 => ?_)
   ·replace H := bk c33 H;refine ab ?_;show AR _ _ _ _ _ [0, 1, 2] _;refine zm rfl <| zS rfl (bB (Ar := 0) (k := 1) (m := 2) bE (by kernel_rfl) rfl rfl rfl (by decide)) <| s0 rfl rfl (an (i := 0) (c := .v _) (by kernel_rfl) rfl rfl rfl rfl (ag rfl)) <| ai ?_;exact Exists.intro 61 ⟨H, ba [0, 0] (.cons (.refl _) (.cons (.refl _) (.cons (.refl _) (.cons (.refl _) (.cons (.refl _) (.nil _)))))) rfl⟩
   ·replace H := bl c33 H;refine aJ ?_;exact Exists.intro x31 ⟨H, ba [0, 0] (.cons (.refl _) (.cons (.refl _) (.cons (.refl _) (.cons (.refl _) (.cons (.refl _) (.nil _)))))) rfl⟩
  rintro y34 H;replace H : dY a1 x10 y20 y27 y34 = some (r3, r4, r5, r6) := H
  unfold dY at H
  refine ab ?_;show AR _ _ _ _ _ [0, 1] _;refine zS rfl (cM (av' := i64 3) (bC rfl rfl (by decide)) rfl) <| zm rfl <| ai <| ah <| ab ?_;show AR _ _ _ _ _ [0] _;refine zS rfl (cM (av' := B true) (bI rfl rfl) (ay (by decide))) <| ai <| ah <| aH rfl (fun _ => ?_) (fun hx => kg rfl hx);refine aJ <| bP (X := UInt8) (fun y41 => ⟨[(0, slE Enc.byte a1 q2), (2, .pt o7 0), (4, .v (.int .u64 (IntKind.u64.wrap ((BitVec.ofInt IntKind.u64.bits (IntKind.u64.wrap ((BitVec.ofInt IntKind.u64.bits (IntKind.u64.wrap ((IntKind.u64.wrap ((x10.getD 0 0).toNat : Int)) * 2 ^ min (Int.toNat 16) IntKind.u64.bits)) ||| BitVec.ofInt IntKind.u64.bits (IntKind.u64.wrap ((IntKind.u64.wrap ((x10.getD 1 0).toNat : Int)) * 2 ^ min (Int.toNat 8) IntKind.u64.bits))).toNat)) ||| BitVec.ofInt IntKind.u64.bits (IntKind.u64.wrap ((x10.getD 2 0).toNat : Int))).toNat)))), (5, .pt o14 0), (23, i64 3)], [], [.obj o14 [u8 y20, u8 y27, u8 y34, u8 y41], .obj o7 [u8 0, u8 0, u8 0, u8 0]]⟩) (fun y41 => dZ y20 y27 y34 y41 = some (r3, r4, r5, r6)) ?_ ?_
  ·refine aO <| ah <| ab ?_;show AR _ _ _ _ _ [0, 1] _;refine zm rfl <| za rfl <| ai <| ah ?_;obtain ⟨g36, H⟩ := aF H;obtain ⟨g37, H⟩ := aF H;obtain ⟨x38, e39, H⟩ := bi H;refine ab ?_;show AR _ _ _ _ _ [0, 1, 2, 3, 4, 5, 6, 7, 8, 9] _;refine zm rfl <| zm rfl <| zm rfl <| zS rfl (cM (av' := i64 18) (g_mul rfl rfl (by decide)) rfl) <| zS rfl (cM (av' := i64 0) (kt rfl rfl (by decide)) rfl) <| zS rfl (iM rfl rfl (of_decide_eq_true g36)) <| zS rfl (ke rfl rfl) <| zS rfl (cj af rfl rfl g37 e39) <| zS rfl (bB (Ar := 0) (k := 1) (m := 3) bE (by kernel_rfl) rfl rfl rfl (by decide)) <| s0 rfl rfl (an (i := 0) (c := .v _) (by kernel_rfl) rfl rfl rfl rfl (ag rfl)) <| ai <| ah <| ab ?_;show AR _ _ _ _ _ [0, 1, 2, 3] _;refine zm rfl <| zS rfl (ac (av := slE _ _ _) rfl) <| zS rfl (aG aa rfl) <| zS rfl (cF rfl rfl) <| ai <| aH rfl (fun c40 => ?_) (fun c40 => ?_)
   ·replace H := bk c40 H;refine ab ?_;show AR _ _ _ _ _ [0, 1, 2] _;refine zm rfl <| zS rfl (bB (Ar := 0) (k := 1) (m := 3) bE (by kernel_rfl) rfl rfl rfl (by decide)) <| s0 rfl rfl (an (i := 0) (c := .v _) (by kernel_rfl) rfl rfl rfl rfl (ag rfl)) <| ai ?_;exact Exists.intro 61 ⟨H, ba [0, 0] (.cons (.refl _) (.cons (.refl _) (.cons (.refl _) (.cons (.refl _) (.cons (.refl _) (.nil _)))))) rfl⟩
   ·replace H := bl c40 H;refine aJ ?_;exact Exists.intro x38 ⟨H, ba [0, 0] (.cons (.refl _) (.cons (.refl _) (.cons (.refl _) (.cons (.refl _) (.cons (.refl _) (.nil _)))))) rfl⟩
  rintro y41 H;replace H : dZ y20 y27 y34 y41 = some (r3, r4, r5, r6) := H
  unfold dZ at H
  refine ab ?_;show AR _ _ _ _ _ [0, 1] _;refine zS rfl (cM (av' := i64 4) (bC rfl rfl (by decide)) rfl) <| zm rfl <| ai <| ah <| ab ?_;show AR _ _ _ _ _ [0] _;refine zS rfl (cM (av' := B false) (bI rfl rfl) (ay (by decide))) <| ai <| ah <| aH rfl (fun hx => kg hx rfl) (fun _ => ?_);refine bQ ?_;exact Exists.intro (y20, y27, y34, y41) ⟨H, ba [0, 0] (.cons (.refl _) (.cons (.refl _) (.nil _))) rfl⟩
 rintro ⟨y43, y44, y45, y46⟩ H;replace H : fi y43 y44 y45 y46 = some (r3, r4, r5, r6) := H
 unfold fi at H
 refine ah <| ab ?_;show AR _ _ _ _ _ [0, 1] _;refine zR rfl (ni (i := 0) (n := 4) bE rfl (by kernel_rfl) rfl rfl (ag rfl)) <| s0 rfl rfl (cP (i := 1) (vs := [u8 y43, u8 y44, u8 y45, u8 y46]) (by kernel_rfl) rfl rfl (by simp [cc, slE]) rfl (ag rfl)) <| ai <| aP ?_;obtain ⟨rfl, rfl, rfl, rfl⟩ := res4 H;exact And.intro rfl (Exists.intro _ (Exists.intro _ ⟨kA (oD rfl (CellV.agg (off := 0) (cs := [u8 y43, u8 y44, u8 y45, u8 y46]) (n := 4) 1 bE rfl (by kernel_rfl) rfl rfl (ag rfl))), aM [] rfl, rfl, rfl⟩))
set_option maxRecDepth 100000 in
set_option maxHeartbeats 1000000 in
theorem mE (F : Nat) (a1 : List UInt8) (q2 : Option Nat) (r3 : List UInt8) (H : kh F a1 = some r3) : ACalls Tryz.prog 114 [slE Enc.byte a1 q2] [] (Ret (S r3) []) := by
 unfold kh at H
 refine ax Tryz.func114 rfl rfl ?_;show AW _ _ 23 _ _ _;refine ah <| ab ?_;show AR _ _ _ _ _ [0] _;refine za rfl <| ai <| ah <| ab ?_;show AR _ _ _ _ _ [0] _;refine zX rfl (jN (zs := [(.pointer none), .slice none 0 0]) (by kernel_rfl)) ?_;rintro _ _ ⟨o4, rfl, rfl⟩;refine ai ?_
 refine fV 0 1 1 5 rfl rfl fun t5 => ?_
 show AW _ _ _ _ _ ⟨_, _, [.tok t5 5, .obj o4 [.v (.pointer none), slE Enc.byte [] (some t5)], .ty o4 142]⟩;refine bP (X := AV × (List UInt8) × Nat) (fun (t29, y30, t31) => ⟨[(3, .pt o4 0)], [], [.obj o4 [t29, slE Enc.byte y30 (some t31)], .ty o4 142, .tok t31 5]⟩) (fun (t29, y30, t31) => fq y30 = some r3 ∧ (t29 = .v (.pointer none) ∨ t29 = .pt o4 0)) ?_ ?_
 ·refine aO <| bZ (X := Nat × (List UInt8) × AV × (List UInt8) × Nat) (fun (n11, y6, t7, y8, t9) => ⟨[(0, slE Enc.byte y6 none), (3, .pt o4 0)], [], [.obj o4 [t7, slE Enc.byte y8 (some t9)], .ty o4 142, .tok t9 5]⟩) (fun (n11, y6, t7, y8, t9) => fr F n11 (y6, y8) = some r3 ∧ (t7 = .v (.pointer none) ∨ t7 = .pt o4 0)) (fun (n11, y6, t7, y8, t9) => n11) (F, a1, (.v (.pointer none)), [], t5) ⟨H, .inl rfl⟩ (ba [1, 1, 0] (.cons (.tok _ _ _) (.cons (.refl _) (.nil _))) rfl) ?_;rintro ⟨n11, y6, t7, y8, t9⟩ ⟨H, ht7⟩;obtain ⟨n11, rfl, H⟩ := cB H;replace H : gj F (fr F n11) y6 y8 = some r3 := H
  unfold gj at H
  refine ah <| ah <| ab ?_;show AR _ _ _ _ _ [0, 1, 2] _;refine zS rfl (ac (av := slE _ _ _) rfl) <| zS rfl (aG aa rfl) <| zS rfl (cF rfl rfl) <| ai <| aH rfl (fun c12 => ?_) (fun c12 => ?_)
  ·replace H := bk c12 H;refine aJ <| aO <| ah <| ab ?_;show AR _ _ _ _ _ [0, 1, 2, 3] _;refine zS rfl (ac (av := slE _ _ _) rfl) <| zS rfl (aG aa rfl) <| zS rfl (opS_min rfl rfl) <| za rfl <| ai <| ah ?_;obtain ⟨g13, H⟩ := aF H;obtain ⟨x14, e15, H⟩ := bi H;obtain ⟨x16, x17, x18, x19, e20, H⟩ := bnd4_s H;refine ab ?_;show AR _ _ _ _ _ [0, 1, 2, 3, 4, 5, 6] _;refine zS rfl (ac (av := slE _ _ _) rfl) <| zm rfl <| zm rfl <| zS rfl (oa (E := Enc.byte) aa (by kernel_rfl) rfl rfl rfl g13 e15) <| am rfl rfl (aN rfl rt rfl (nR F x14 none x16 x17 x18 x19 e20) ?_);refine zX rfl (dd (zs := [.int .u8 0, .int .u8 0, .int .u8 0, .int .u8 0]) (by kernel_rfl)) ?_;rintro _ _ ⟨o21, rfl, rfl⟩;refine s0 rfl rfl (cP (i := 0) (vs := [u8 x16, u8 x17, u8 x18, u8 x19]) (by kernel_rfl) rfl rfl (by simp [cc, slE]) rfl (ag rfl)) <| AR.freezeCp 5 0 rfl rfl ?_;show AR _ _ _ _ _ _ ⟨_, _, [.obj o4 [t7, slE Enc.byte y8 (some t9)], .ty o4 142, .tok t9 5]⟩;refine ai <| ah ?_;obtain ⟨g22, H⟩ := aF H;obtain ⟨x23, e24, H⟩ := bi H;refine ab ?_;show AR _ _ _ _ _ [0, 1] _;refine zS rfl (kn (E := Enc.byte) (l := ([x16, x17, x18, x19] : List UInt8)) rfl bE (by kernel_rfl) rfl rfl rfl) <| am rfl rfl (AO.callAt [0, 0, 0] rfl rr rfl (lq  o4 (t7) ht7 y8 ([x16, x17, x18, x19] : List UInt8) none t9 (okW_s g22)) rfl (fun c A' h => by cases h.1) ?_)
   rintro av A' ⟨h, t25, rfl⟩; cases h
   rw [e24]
   refine ai ?_;obtain ⟨g26, H⟩ := aF H;obtain ⟨x27, e28, H⟩ := bi H;refine ab ?_;show AR _ _ _ _ _ [0, 1, 2, 3] _;refine zS rfl (ac (av := slE _ _ _) rfl) <| zm rfl <| zS rfl (fu (E := Enc.byte) aa (by kernel_rfl) rfl rfl g26 e28) <| zS rfl (ao (av := slE _ _ _) rfl) <| ai ?_;exact Exists.intro (n11, x27, (.pt o4 0), x23, t25) ⟨⟨H, .inr rfl⟩, Nat.lt_succ_self _, ba [0, 0, 0] (.cons (.refl _) (.cons (.refl _) (.nil _))) rfl⟩
  ·replace H := bl c12 H;refine bQ ?_;exact Exists.intro (t7, y8, t9) ⟨⟨H, ht7⟩, ba [0, 0, 0] (.cons (.refl _) (.nil _)) rfl⟩
 rintro ⟨t29, y30, t31⟩ ⟨H, ht29⟩;replace H : fq y30 = some r3 := H
 unfold fq at H
 refine ah ?_;obtain ⟨g33, H⟩ := aF H;refine ab ?_;show AR _ _ _ _ _ [0, 1] _;refine am rfl rfl (AO.callAt [0, 1] rfl ru rfl (fO  o4 (t29) y30 t31 (okW0_s g33)) rfl (fun c A' h => by cases h.1) ?_)
 rintro av A' ⟨h, rfl⟩; cases h
 refine za rfl <| ai <| aP ?_;obtain rfl := ap H;exact And.intro rfl (Exists.intro _ (Exists.intro _ ⟨aR rfl (.refl _), aM [] rfl, rfl, rfl⟩))
set_option maxRecDepth 100000 in
set_option maxHeartbeats 1000000 in
theorem nS (F : Nat) (a1 : List UInt8) (r2 : List UInt8) (r3 : Int) (H : kz F a1 = some (r2, r3)) : ACalls Tryz.prog 141 [S a1] [] (Ret (.tup [slE Enc.byte r2 none, i64 r3]) []) := by
 unfold kz at H
 refine ax Tryz.func141 rfl rfl ?_;show AW _ _ 61 _ _ _;refine ah <| ab ?_;show AR _ _ _ _ _ [0, 1] _;refine za rfl <| za rfl <| ai <| ah <| ab ?_;show AR _ _ _ _ _ [0] _;refine za rfl <| ai ?_
 refine cq 4 1 5 rfl fun t4 => ?_
 show AW _ _ _ _ _ ⟨(4, slE Enc.byte [] (some t4)) :: _, _, _⟩;refine bP (X := (List UInt8) × Nat) (fun (y50, t51) => ⟨[(0, S a1), (4, slE Enc.byte y50 (some t51))], [], [.tok t51 5]⟩) (fun (y50, t51) => fU F a1 y50 = some (r2, r3)) ?_ ?_
 ·refine ah <| ab ?_;show AR _ _ _ _ _ [0, 1] _;refine zm rfl <| za rfl <| ai <| aO <| bZ (X := Nat × (List UInt8) × Nat × (List UInt8)) (fun (n9, y5, t6, y7) => ⟨[(0, S a1), (4, slE Enc.byte y5 (some t6)), (5, S y7)], [], [.tok t6 5]⟩) (fun (n9, y5, t6, y7) => co F a1 n9 (y5, y7) = some (r2, r3)) (fun (n9, y5, t6, y7) => n9) (F, [], t4, a1) H (ba [0] (.cons (.refl _) (.cons (.refl _) (.cons (.refl _) (.nil _)))) rfl) ?_;rintro ⟨n9, y5, t6, y7⟩ H;obtain ⟨n9, rfl, H⟩ := cB H;replace H : ix F a1 (co F a1 n9) y5 y7 = some (r2, r3) := H
  unfold ix at H
  refine ah <| ah <| ab ?_;show AR _ _ _ _ _ [0, 1] _;refine zm rfl <| zS rfl (fX rfl rfl) <| ai <| aH rfl (fun c10 => ?_) (fun c10 => ?_)
  ·replace H := bk c10 H;refine aJ <| aO <| ah <| ah <| ab ?_;show AR _ _ _ _ _ [0, 1, 2] _;refine zm rfl <| zS rfl (bg af rfl) <| zS rfl (bI rfl rfl) <| ai <| aH rfl (fun c11 => ?_) (fun c11 => ?_)
   ·replace H := bk c11 H;refine ah <| ab ?_;show AR _ _ _ _ _ [0, 1] _;refine za rfl <| za rfl <| ai <| aP ?_;obtain ⟨rfl, rfl⟩ := gk H;exact And.intro rfl (Exists.intro _ (Exists.intro _ ⟨bR rfl (.nil _) (.refl _), aM [] rfl, rfl, rfl⟩))
   ·replace H := bl c11 H;refine aJ <| ah <| ab ?_;show AR _ _ _ _ _ [0, 1] _;refine za rfl <| za rfl <| ai <| bP (X := Int × Int) (fun (y35, y36) => ⟨[(0, S a1), (4, slE Enc.byte y5 (some t6)), (5, S y7), (6, .v (.int .u64 y35)), (7, i64 y36)], [], [.tok t6 5]⟩) (fun (y35, y36) => fT y5 y7 (co F a1 n9) y35 y36 = some (r2, r3)) ?_ ?_
    ·refine ah <| ab ?_;show AR _ _ _ _ _ [0] _;refine zm rfl <| ai <| aO <| bZ (X := Nat × Int × Int × Int) (fun (n16, y12, y13, y14) => ⟨[(0, S a1), (4, slE Enc.byte y5 (some t6)), (5, S y7), (6, .v (.int .u64 y12)), (7, i64 y13), (16, i64 y14)], [], [.tok t6 5]⟩) (fun (n16, y12, y13, y14) => fk y5 y7 (co F a1 n9) n16 (y12, y13, y14) = some (r2, r3)) (fun (n16, y12, y13, y14) => n16) (F, 0, 3, 0) H (ba [0] (.cons (.refl _) (.cons (.refl _) (.cons (.refl _) (.cons (.refl _) (.cons (.refl _) (.cons (.refl _) (.nil _))))))) rfl) ?_;rintro ⟨n16, y12, y13, y14⟩ H;obtain ⟨n16, rfl, H⟩ := cB H;replace H : iy y5 y7 (co F a1 n9) (fk y5 y7 (co F a1 n9) n16) y12 y13 y14 = some (r2, r3) := H
     unfold iy at H
     refine ah <| ab ?_;show AR _ _ _ _ _ [0] _;refine zS rfl (bI rfl rfl) <| ai <| ah <| aH rfl (fun c17 => ?_) (fun c17 => ?_)
     ·replace H := bk c17 H;refine aJ <| ah <| aO <| ah <| ab ?_;show AR _ _ _ _ _ [0, 1] _;refine zm rfl <| za rfl <| ai <| ah ?_;obtain ⟨g18, H⟩ := aF H;obtain ⟨x19, e20, H⟩ := bi H;obtain ⟨x21, e22, H⟩ := bi H;refine ab ?_;show AR _ _ _ _ _ [0, 1, 2, 3, 4] _;refine zm rfl <| zm rfl <| zS rfl (cj af rfl rfl g18 e20) <| am rfl rfl (aN rfl en41_b64 rfl (show ACalls _ _ _ [] (Ret (i64 x21) []) from by subst e22; exact gO b64_k1 x19) ?_);refine za rfl <| ai <| bP (X := Int × Int) (fun (y28, y29) => ⟨[(0, S a1), (4, slE Enc.byte y5 (some t6)), (5, S y7), (6, .v (.int .u64 y12)), (7, i64 y28), (9, i64 y29), (16, i64 y14)], [], [.tok t6 5]⟩) (fun (y28, y29) => fj y12 y14 (fk y5 y7 (co F a1 n9) n16) y28 y29 = some (r2, r3)) ?_ ?_
      ·refine ah ?_;obtain ⟨g23, H⟩ := aF H;obtain ⟨x24, e25, H⟩ := bi H;refine ab ?_;show AR _ _ _ _ _ [0, 1, 2, 3] _;refine zm rfl <| zm rfl <| zS rfl (cj af rfl rfl g23 e25) <| zS rfl (iV (a := x24) (b := 61) rfl rfl) <| ai <| aH rfl (fun c26 => ?_) (fun c26 => ?_)
       ·replace H := bk c26 H;refine ah <| ab ?_;show AR _ _ _ _ _ [0] _;refine za rfl <| ai ?_;obtain ⟨g27, H⟩ := aF H;refine ab ?_;show AR _ _ _ _ _ [0, 1, 2] _;refine zm rfl <| zS rfl (kt rfl rfl g27) <| za rfl <| ai ?_;exact Exists.intro (y13 - 1, 0) ⟨H, ba [0] (.cons (.refl _) (.cons (.refl _) (.cons (.refl _) (.cons (.refl _) (.cons (.refl _) (.cons (.refl _) (.cons (.refl _) (.nil _)))))))) rfl⟩
       ·replace H := bl c26 H;refine aJ ?_;exact Exists.intro (y13, x21) ⟨H, ba [0] (.cons (.refl _) (.cons (.refl _) (.cons (.refl _) (.cons (.refl _) (.cons (.refl _) (.cons (.refl _) (.cons (.refl _) (.nil _)))))))) rfl⟩
      rintro ⟨y28, y29⟩ H;replace H : fj y12 y14 (fk y5 y7 (co F a1 n9) n16) y28 y29 = some (r2, r3) := H
      unfold fj at H
      refine ah <| ah <| ab ?_;show AR _ _ _ _ _ [0, 1, 2, 3, 4, 5] _;refine zm rfl <| zS rfl (bI rfl rfl) <| zm rfl <| aZ (l := []) 34 (B ((decide (y29 < 0)) || (decide (y28 < 1)))) (fun K => ?_) ?_
      ·rcases aj (decide (y29 < 0)) with h31 | h31
       ·refine zF h31 rfl <| zF h31 rfl <| zS rfl (aC (av := .v _) rfl h31 rfl) ?_;exact K _ 2 _ (ay (fE h31)) rfl rfl
       ·refine zM h31 rfl <| zU h31 rfl (bI rfl rfl) <| zS rfl (aD (av := .v _) rfl h31 rfl) ?_;exact K _ 2 _ (ay (fF h31)) rfl rfl
      refine ai <| aH rfl (fun c32 => ?_) (fun c32 => ?_)
      ·replace H := bk c32 H;refine ah <| ab ?_;show AR _ _ _ _ _ [0, 1] _;refine za rfl <| za rfl <| ai <| aP ?_;obtain ⟨rfl, rfl⟩ := gk H;exact And.intro rfl (Exists.intro _ (Exists.intro _ ⟨bR rfl (.nil _) (.refl _), aM [] rfl, rfl, rfl⟩))
      ·replace H := bl c32 H;refine aJ ?_;obtain ⟨g33, H⟩ := aF H;refine ab ?_;show AR _ _ _ _ _ [0, 1, 2, 3, 4, 5] _;refine zm rfl <| zS rfl (la rfl rfl (of_decide_eq_true g33)) <| zm rfl <| zS rfl (dT (by kernel_rfl) Tryz.underlying76 rfl) <| zS rfl (nC rfl rfl) <| za rfl <| ai ?_;obtain ⟨g34, H⟩ := aF H;refine ab ?_;show AR _ _ _ _ _ [0, 1] _;refine zS rfl (bC rfl rfl g34) <| zm rfl <| ai ?_;exact Exists.intro (n16, IntKind.u64.wrap ((BitVec.ofInt IntKind.u64.bits (IntKind.u64.wrap (y12 * 2 ^ min (Int.toNat 6) IntKind.u64.bits)) ||| BitVec.ofInt IntKind.u64.bits (IntKind.u64.wrap y29)).toNat), y28, y14 + 1) ⟨H, Nat.lt_succ_self _, ba [0] (.cons (.refl _) (.cons (.refl _) (.cons (.refl _) (.cons (.refl _) (.cons (.refl _) (.cons (.refl _) (.nil _))))))) rfl⟩
     ·replace H := bl c17 H;refine bQ ?_;exact Exists.intro (y12, y13) ⟨H, ba [0] (.cons (.refl _) (.cons (.refl _) (.cons (.refl _) (.cons (.refl _) (.cons (.refl _) (.nil _)))))) rfl⟩
    rintro ⟨y35, y36⟩ H;replace H : fT y5 y7 (co F a1 n9) y35 y36 = some (r2, r3) := H
    unfold fT at H
    refine ah ?_;obtain ⟨g38, H⟩ := aF H;obtain ⟨g39, H⟩ := aF H;obtain ⟨g40, H⟩ := aF H;obtain ⟨x41, e42, H⟩ := bi H;obtain ⟨g44, H⟩ := aF H;obtain ⟨x45, e46, H⟩ := bi H;refine ab ?_;show AR _ _ _ _ _ [0, 1, 2, 3, 4, 5, 6, 7, 8, 9, 10, 11, 12, 13] _;refine zS rfl (ac (av := slE _ _ _) rfl) <| zm rfl <| zS rfl (iM rfl rfl (of_decide_eq_true g38)) <| zS rfl (iE (by kernel_rfl) aB rfl) <| zm rfl <| zS rfl (iM rfl rfl (of_decide_eq_true g39)) <| zS rfl (iE (by kernel_rfl) aB rfl) <| zm rfl <| zS rfl (iE (by kernel_rfl) aB rfl) <| zR rfl (bm (E := Enc.byte) (bytes := 1) (xs := [.tmp 44, .tmp 47, .tmp 49]) (l := ([Go.Av.toB (Int.fdiv y35 (2 ^ min (Int.toNat 16) IntKind.u64.bits)), Go.Av.toB (Int.fdiv y35 (2 ^ min (Int.toNat 8) IntKind.u64.bits)), Go.Av.toB y35] : List UInt8)) aa (by kernel_rfl) rfl rfl (by decide) rfl rfl) <| zm rfl <| zS rfl (jw (E := Enc.byte) aa (by kernel_rfl) rfl rfl g40 e42) <| zX rfl (bA (E := Enc.byte) (bytes := 1) 0 aa aa rfl (by kernel_rfl) rfl rfl rfl rfl g44 e46) ?_;rintro _ _ ⟨t43, rfl, rfl⟩;refine zS rfl (ao (av := slE _ _ _) rfl) <| ai ?_;obtain ⟨g47, H⟩ := aF H;obtain ⟨x48, e49, H⟩ := bi H;refine ab ?_;show AR _ _ _ _ _ [0, 1, 2] _;refine zm rfl <| zS rfl (lE af rfl rfl g47 e49) <| za rfl <| ai ?_
    exact Exists.intro (n9, x45, t43, x48) ⟨H, Nat.lt_succ_self _, ba [0] (.cons (.refl _) (.cons (.refl _) (.cons (.refl _) (.nil _)))) rfl⟩
  ·replace H := bl c10 H;refine bQ ?_;exact Exists.intro (y5, t6) ⟨H, ba [0] (.cons (.refl _) (.cons (.refl _) (.nil _))) rfl⟩
 rintro ⟨y50, t51⟩ H;replace H : fU F a1 y50 = some (r2, r3) := H
 unfold fU at H
 refine ah <| ah ?_;obtain ⟨x53, e54, H⟩ := dz H;refine ab ?_;show AR _ _ _ _ _ [0, 1, 2, 3] _;refine zS rfl (ac (av := slE _ _ _) rfl) <| am rfl rfl (aN rfl ry rfl (mE F y50 (some t51) x53 e54) ?_);refine zm rfl <| zS rfl (fX rfl rfl) <| ai <| aH rfl (fun c55 => ?_) (fun c55 => ?_)
 ·replace H := bk c55 H;refine ah <| ab ?_;show AR _ _ _ _ _ [0, 1] _;refine za rfl <| za rfl <| ai <| aP ?_;obtain ⟨rfl, rfl⟩ := gk H;exact And.intro rfl (Exists.intro _ (Exists.intro _ ⟨bR rfl (.nil _) (.refl _), aM [] rfl, rfl, rfl⟩))
 ·replace H := bl c55 H;refine aJ <| ah <| ab ?_;show AR _ _ _ _ _ [0, 1, 2] _;refine zS rfl (ac (av := slE _ _ _) rfl) <| zS rfl (ao (av := slE _ _ _) rfl) <| za rfl <| ai <| aP ?_;obtain ⟨rfl, rfl⟩ := gk H;exact And.intro rfl (Exists.intro _ (Exists.intro _ ⟨bR rfl (.tok _ _ _) (.refl _), aM [] rfl, rfl, rfl⟩))
end Go.Proofs.YtdaafnaokdigbaaGreatDoor
namespace Go.Pv
def iC (F : Nat) (a1 : UInt8) : Option Bool :=
some (((((decide (97 ≤ (a1.toNat : Int))) && (decide ((a1.toNat : Int) ≤ 122))) || ((decide (65 ≤ (a1.toNat : Int))) && (decide ((a1.toNat : Int) ≤ 90)))) || ((decide (48 ≤ (a1.toNat : Int))) && (decide ((a1.toNat : Int) ≤ 57)))) || (decide (a1 = 45)))
def gA (F : Nat) (a1 : UInt8) : Option Bool :=
some ((decide (32 ≤ (a1.toNat : Int))) && (decide ((a1.toNat : Int) < 127)))
def eo (a1 : List UInt8) : Option Bool :=
some (!decide (a1 = ([] : List UInt8)))
def er (F : Nat) (a1 : List UInt8) (rec4 : Int → Option Bool) (y3 : Int) : Option Bool :=
bif decide (y3 < (a1.length : Int)) then
  grd (cE y3 a1.length) <|
  lt (at_ a1 y3) fun x8 =>
  bnd (iC F x8) fun x10 =>
  bif !x10 then
    some false
  else
    grd (okI (y3 + 1)) <|
    rec4 (y3 + 1)
else
  eo a1
def ep (F : Nat) (a1 : List UInt8) (n : Nat) : Int → Option Bool :=
  loop (fun rec x => er F a1 rec x) n
def iB (F : Nat) (a1 : List UInt8) : Option Bool :=
ep F a1 F 0
def ek (a1 : List UInt8) : Option Bool :=
some (!decide (a1 = ([] : List UInt8)))
def em (F : Nat) (a1 : List UInt8) (rec4 : Int → Option Bool) (y3 : Int) : Option Bool :=
bif decide (y3 < (a1.length : Int)) then
  grd (cE y3 a1.length) <|
  lt (at_ a1 y3) fun x8 =>
  bnd (gA F x8) fun x10 =>
  bif !x10 then
    some false
  else
    grd (okI (y3 + 1)) <|
    rec4 (y3 + 1)
else
  ek a1
def el (F : Nat) (a1 : List UInt8) (n : Nat) : Int → Option Bool :=
  loop (fun rec x => em F a1 rec x) n
def iA (F : Nat) (a1 : List UInt8) : Option Bool :=
el F a1 F 0
def gc (F : Nat) (a1 : List UInt8) : Option Bool :=
bndc (decide ((a1.length : Int) ≤ 40)) (iB F a1) fun x4 =>
some ((decide ((a1.length : Int) ≤ 40)) && x4)
def gi (F : Nat) (a1 : List UInt8) : Option Bool :=
bnd (iA F a1) fun x3 =>
gt x3 (okS a1.length) <|
lt (Go.Lib.trimB a1 32) fun x7 =>
gt (x3 && (decide (x7 = a1))) (okS a1.length) <|
lt (Go.Lib.contains a1 ([32, 32] : List UInt8)) fun x11 =>
gt ((x3 && (decide (x7 = a1))) && (!x11)) (okS a1.length) <|
lt (Go.Lib.contains a1 ([61, 63] : List UInt8)) fun x15 =>
some (((x3 && (decide (x7 = a1))) && (!x11)) && (!x15))
def gB (F : Nat) (a1 : UInt8) : Option Bool :=
some (decide (Go.Av.shr8 a1 6 = 2))
def fc (y15 : Int) : Option Int :=
bif decide (y15 = 41) then
  some 45
else
  some y15
def ff (F : Nat) (a1 : List UInt8) (rec5 : Int → Option Int) (y4 : Int) : Option Int :=
gt (decide (41 < y4)) (cE y4 a1.length) <|
lt (at_ a1 y4) fun x9 =>
bndc (decide (41 < y4)) (gB F x9) fun x11 =>
bif (decide (41 < y4)) && x11 then
  grd (okI (y4 - 1)) <|
  rec5 (y4 - 1)
else
  fc y4
def fe (F : Nat) (a1 : List UInt8) (n : Nat) : Int → Option Int :=
  loop (fun rec x => ff F a1 rec x) n
def ig (F : Nat) (a1 : List UInt8) : Option Int :=
bif decide ((a1.length : Int) ≤ 45) then
  some (a1.length : Int)
else
  fe F a1 F 45
def dL {σ : Type} (F : Nat) (k : σ → (List UInt8) → Option (σ × Bool)) (rec30 : ((List UInt8) × σ) → Option (σ × (List UInt8))) (y27 : List UInt8) (y28 : σ) : Option (σ × (List UInt8)) :=
bif !decide (y27 = ([] : List UInt8)) then
  bnd (ig F y27) fun x33 =>
  grd (fP x33 y27.length) <|
  lt (to_ y27 x33) fun x36 =>
  grd (bw x36.length) <|
  bnd (kh F x36) fun x40 =>
  grd (bw (([61, 63, 117, 116, 102, 45, 56, 63, 66, 63] : List UInt8).length + x40.length)) <|
  lt (([61, 63, 117, 116, 102, 45, 56, 63, 66, 63] : List UInt8) ++ x40) fun x43 =>
  grd (bw (x43.length + ([63, 61] : List UInt8).length)) <|
  lt (x43 ++ ([63, 61] : List UInt8)) fun x46 =>
  jX (k y28 x46) fun x48 x49 =>
  bif !x49 then
    some (x48, y27)
  else
    grd (fP x33 y27.length) <|
    lt (hZ y27 x33) fun x54 =>
    rec30 (x54, x48)
else
  some (y28, y27)
def cY {σ : Type} (F : Nat) (k : σ → (List UInt8) → Option (σ × Bool)) (n : Nat) : ((List UInt8) × σ) → Option (σ × (List UInt8)) :=
  loop (fun rec x => dL F k rec x.1 x.2) n
def eL {σ : Type} (F : Nat) (a2 : List UInt8) (k : σ → (List UInt8) → Option (σ × Bool)) (st0 : σ) : Option (σ × (List UInt8)) :=
cY F k F (a2, st0)
def dK {σ : Type} (a2 : List UInt8) (k : σ → (List UInt8) → Option (σ × Bool)) (x9 : List (List UInt8)) (rec14 : (Int × σ) → Option (σ × (List UInt8))) (y11 : Int) (y12 : σ) : Option (σ × (List UInt8)) :=
bif decide (y11 < (x9.length : Int)) then
  grd (cE y11 x9.length) <|
  lt (at_ x9 y11) fun x18 =>
  jX (k y12 x18) fun x20 x21 =>
  bif !x21 then
    some (x20, a2)
  else
    grd (okI (y11 + 1)) <|
    rec14 (y11 + 1, x20)
else
  some (y12, a2)
def cX {σ : Type} (a2 : List UInt8) (k : σ → (List UInt8) → Option (σ × Bool)) (x9 : List (List UInt8)) (n : Nat) : (Int × σ) → Option (σ × (List UInt8)) :=
  loop (fun rec x => dK a2 k x9 rec x.1 x.2) n
def fK (F : Nat) {σ : Type} (k : σ → (List UInt8) → Option (σ × Bool)) (st0 : σ) (a2 : List UInt8) : Option (σ × (List UInt8)) :=
bnd (gi F a2) fun x4 =>
bif x4 then
  grd (okS a2.length) <|
  grd (decide (1 ≤ ([32] : List UInt8).length)) <|
  lt (Go.Lib.split a2 ([32] : List UInt8)) fun x9 =>
  cX a2 k x9 F (0, st0)
else
  eL F a2 k st0
def iz (F : Nat) (a1 : List UInt8) : Option Unit :=
some ()
def fg (y66 : List UInt8) : Option ((List UInt8) × Int) :=
grd (bw (y66.length + ([13, 10] : List UInt8).length)) <|
lt (y66 ++ ([13, 10] : List UInt8)) fun x71 =>
some (x71, 0)
def dV (x22 : List UInt8) (y30 : Int) (y31 : List UInt8) : Option ((Int × (List UInt8)) × Bool) :=
grd (bw (y31.length + ([32] : List UInt8).length)) <|
lt (y31 ++ ([32] : List UInt8)) fun x36 =>
grd (bw (x36.length + x22.length)) <|
lt (x36 ++ x22) fun x40 =>
grd (okI (y30 + 1)) <|
grd (okI ((y30 + 1) + (x22.length : Int))) <|
some (((y30 + 1) + (x22.length : Int), x40), true)
def cO (y18 : Int) (y19 : List UInt8) (x22 : List UInt8) : Option ((Int × (List UInt8)) × Bool) :=
grd (okI (y18 + 1)) <|
grd (okI ((y18 + 1) + (x22.length : Int))) <|
bif decide (76 < (y18 + 1) + (x22.length : Int)) then
  grd (bw (y19.length + ([13, 10] : List UInt8).length)) <|
  lt (y19 ++ ([13, 10] : List UInt8)) fun x28 =>
  dV x22 0 x28
else
  dV x22 y18 y19
def eI (F : Nat) (a1 : List UInt8) (a2 : List UInt8) : Option ((List UInt8) × Int) :=
bnd (gc F a1) fun x5 =>
bif (!x5) || (decide (4000 < (a2.length : Int))) then
  some ([], 1)
else
  grd (bw (a1.length + ([58] : List UInt8).length)) <|
  lt (a1 ++ ([58] : List UInt8)) fun x10 =>
  grd (bw x10.length) <|
  bnd (iz F a2) fun _ =>
  jX (fK F (fun s x => cO s.1 s.2 x) ((x10.length : Int), x10) a2) fun x60 x61 =>
  fg x60.2
end Go.Pv
namespace Go.Proofs.YtdaafnaokdigbaaGreatDoor
open Go.RowKit Go.Av Go.Pv
theorem pK : ∀ (args : Array Value) (w : World), (callFunc 42 args).run Tryz.prog w = .ok (.enter 42 args) w := fun _ _ => by kernel_rfl
theorem lH : ∀ (args : Array Value) (w : World), (callFunc 43 args).run Tryz.prog w = .ok (.enter 43 args) w := fun _ _ => by kernel_rfl
theorem pw : ∀ (args : Array Value) (w : World), (callFunc 89 args).run Tryz.prog w = .ok (.enter 89 args) w := fun _ _ => by kernel_rfl
theorem pv : ∀ (args : Array Value) (w : World), (callFunc 90 args).run Tryz.prog w = .ok (.enter 90 args) w := fun _ _ => by kernel_rfl
theorem kM : ∀ (args : Array Value) (w : World), (callFunc 108 args).run Tryz.prog w = .ok (.enter 108 args) w := fun _ _ => by kernel_rfl
theorem oz : ∀ (args : Array Value) (w : World), (callFunc 109 args).run Tryz.prog w = .ok (.enter 109 args) w := fun _ _ => by kernel_rfl
theorem oy : ∀ (args : Array Value) (w : World), (callFunc 110 args).run Tryz.prog w = .ok (.enter 110 args) w := fun _ _ => by kernel_rfl
theorem ox : ∀ (args : Array Value) (w : World), (callFunc 111 args).run Tryz.prog w = .ok (.enter 111 args) w := fun _ _ => by kernel_rfl
theorem ow : ∀ (args : Array Value) (w : World), (callFunc 112 args).run Tryz.prog w = .ok (.enter 112 args) w := fun _ _ => by kernel_rfl
theorem ov : ∀ (args : Array Value) (w : World), (callFunc 113 args).run Tryz.prog w = .ok (.enter 113 args) w := fun _ _ => by kernel_rfl
theorem ou : ∀ (args : Array Value) (w : World), (callFunc 114 args).run Tryz.prog w = .ok (.enter 114 args) w := fun _ _ => by kernel_rfl
theorem ol : ∀ (args : Array Value) (w : World), (callFunc 132 args).run Tryz.prog w = .ok (.enter 132 args) w := fun _ _ => by kernel_rfl
theorem oh : ∀ (args : Array Value) (w : World), (callFunc 134 args).run Tryz.prog w = .ok (.enter 134 args) w := fun _ _ => by kernel_rfl
set_option maxRecDepth 100000 in
set_option maxHeartbeats 1000000 in
theorem mX (F : Nat) (a1 : UInt8) (r2 : Bool) (H : iC F a1 = some r2) : ACalls Tryz.prog 109 [u8 a1] [] (Ret (B r2) []) := by
 unfold iC at H
 refine ax Tryz.func109 rfl rfl ?_;show AW _ _ 29 _ _ _;refine ah <| ab ?_;show AR _ _ _ _ _ [0] _;refine za rfl <| ai <| ah <| ab ?_;show AR _ _ _ _ _ [0, 1, 2, 3, 4, 5, 6, 7, 8, 9, 10, 11, 12, 13, 14, 15, 16, 17, 18, 19, 20, 21, 22, 23, 24, 25, 26] _;refine zm rfl <| zS rfl (gm rfl rfl) <| zm rfl <| aZ (l := [6, 7, 8, 9, 10, 11, 12, 13, 14, 15, 16, 17, 18, 19, 20, 21, 22, 23, 24, 25, 26]) 8 (B ((decide (97 ≤ (a1.toNat : Int))) && (decide ((a1.toNat : Int) ≤ 122)))) (fun K => ?_) ?_
 ·rcases aj (decide (97 ≤ (a1.toNat : Int))) with h3 | h3
  ·refine zM h3 rfl <| zU h3 rfl (hU rfl rfl) <| zS rfl (aC (av := .v _) rfl h3 rfl) ?_;exact K _ 2 _ (ay (cH h3)) rfl rfl
  ·refine zF h3 rfl <| zF h3 rfl <| zS rfl (aD (av := .v _) rfl h3 rfl) ?_;exact K _ 2 _ (ay (cI h3)) rfl rfl
 refine zm rfl <| aZ (l := [14, 15, 16, 17, 18, 19, 20, 21, 22, 23, 24, 25, 26]) 16 (B (((decide (97 ≤ (a1.toNat : Int))) && (decide ((a1.toNat : Int) ≤ 122))) || ((decide (65 ≤ (a1.toNat : Int))) && (decide ((a1.toNat : Int) ≤ 90))))) (fun K => ?_) ?_
 ·rcases aj ((decide (97 ≤ (a1.toNat : Int))) && (decide ((a1.toNat : Int) ≤ 122))) with h4 | h4
  ·refine zF h4 rfl <| zF h4 rfl <| zF h4 rfl <| gU rfl rfl rfl rfl rfl <| gU rfl rfl rfl rfl rfl <| zF h4 rfl <| zS rfl (aC (av := .v _) rfl h4 rfl) ?_;exact K _ 6 _ (ay (fE h4)) rfl rfl
  ·refine zM h4 rfl <| zU h4 rfl (gm rfl rfl) <| zM h4 rfl <| aZ (l := [13, 14, 15, 16, 17, 18, 19, 20, 21, 22, 23, 24, 25, 26]) 15 (B ((decide (65 ≤ (a1.toNat : Int))) && (decide ((a1.toNat : Int) ≤ 90)))) (fun K => ?_) ?_
   ·rcases aj (decide (65 ≤ (a1.toNat : Int))) with h5 | h5
    ·refine zM h5 rfl <| zU h5 rfl (hU rfl rfl) <| zU h4 rfl (aC (av := .v _) rfl h5 rfl) ?_;exact K _ 2 _ (ay (cH h5)) rfl rfl
    ·refine zF h5 rfl <| zF h5 rfl <| zU h4 rfl (aD (av := .v _) rfl h5 rfl) ?_;exact K _ 2 _ (ay (cI h5)) rfl rfl
   refine zS rfl (aD (av := .v _) rfl h4 rfl) ?_;exact K _ 4 _ (ay (fF h4)) rfl rfl
 refine zm rfl <| aZ (l := [22, 23, 24, 25, 26]) 24 (B ((((decide (97 ≤ (a1.toNat : Int))) && (decide ((a1.toNat : Int) ≤ 122))) || ((decide (65 ≤ (a1.toNat : Int))) && (decide ((a1.toNat : Int) ≤ 90)))) || ((decide (48 ≤ (a1.toNat : Int))) && (decide ((a1.toNat : Int) ≤ 57))))) (fun K => ?_) ?_
 ·rcases aj (((decide (97 ≤ (a1.toNat : Int))) && (decide ((a1.toNat : Int) ≤ 122))) || ((decide (65 ≤ (a1.toNat : Int))) && (decide ((a1.toNat : Int) ≤ 90)))) with h6 | h6
  ·refine zF h6 rfl <| zF h6 rfl <| zF h6 rfl <| gU rfl rfl rfl rfl rfl <| gU rfl rfl rfl rfl rfl <| zF h6 rfl <| zS rfl (aC (av := .v _) rfl h6 rfl) ?_;exact K _ 6 _ (ay (fE h6)) rfl rfl
  ·refine zM h6 rfl <| zU h6 rfl (gm rfl rfl) <| zM h6 rfl <| aZ (l := [21, 22, 23, 24, 25, 26]) 23 (B ((decide (48 ≤ (a1.toNat : Int))) && (decide ((a1.toNat : Int) ≤ 57)))) (fun K => ?_) ?_
   ·rcases aj (decide (48 ≤ (a1.toNat : Int))) with h7 | h7
    ·refine zM h7 rfl <| zU h7 rfl (hU rfl rfl) <| zU h6 rfl (aC (av := .v _) rfl h7 rfl) ?_;exact K _ 2 _ (ay (cH h7)) rfl rfl
    ·refine zF h7 rfl <| zF h7 rfl <| zU h6 rfl (aD (av := .v _) rfl h7 rfl) ?_;exact K _ 2 _ (ay (cI h7)) rfl rfl
   refine zS rfl (aD (av := .v _) rfl h6 rfl) ?_;exact K _ 4 _ (ay (fF h6)) rfl rfl
 refine zm rfl <| aZ (l := [26]) 28 (B (((((decide (97 ≤ (a1.toNat : Int))) && (decide ((a1.toNat : Int) ≤ 122))) || ((decide (65 ≤ (a1.toNat : Int))) && (decide ((a1.toNat : Int) ≤ 90)))) || ((decide (48 ≤ (a1.toNat : Int))) && (decide ((a1.toNat : Int) ≤ 57)))) || (decide (a1 = 45)))) (fun K => ?_) ?_
 ·rcases aj ((((decide (97 ≤ (a1.toNat : Int))) && (decide ((a1.toNat : Int) ≤ 122))) || ((decide (65 ≤ (a1.toNat : Int))) && (decide ((a1.toNat : Int) ≤ 90)))) || ((decide (48 ≤ (a1.toNat : Int))) && (decide ((a1.toNat : Int) ≤ 57)))) with h8 | h8
  ·refine zF h8 rfl <| zF h8 rfl <| zS rfl (aC (av := .v _) rfl h8 rfl) ?_;exact K _ 2 _ (ay (fE h8)) rfl rfl
  ·refine zM h8 rfl <| zU h8 rfl (iV (a := a1) (b := 45) rfl rfl) <| zS rfl (aD (av := .v _) rfl h8 rfl) ?_;exact K _ 2 _ (ay (fF h8)) rfl rfl
 refine za rfl <| ai <| aP ?_;obtain rfl := ap H;exact And.intro rfl (Exists.intro _ (Exists.intro _ ⟨aR rfl (.refl _), aM [] rfl, rfl, rfl⟩))
set_option maxRecDepth 100000 in
set_option maxHeartbeats 1000000 in
theorem mg (F : Nat) (a1 : UInt8) (r2 : Bool) (H : gA F a1 = some r2) : ACalls Tryz.prog 132 [u8 a1] [] (Ret (B r2) []) := by
 unfold gA at H
 refine ax Tryz.func132 rfl rfl ?_;show AW _ _ 9 _ _ _;refine ah <| ab ?_;show AR _ _ _ _ _ [0] _;refine za rfl <| ai <| ah <| ab ?_;show AR _ _ _ _ _ [0, 1, 2, 3, 4, 5, 6] _;refine zm rfl <| zS rfl (gm rfl rfl) <| zm rfl <| aZ (l := [6]) 8 (B ((decide (32 ≤ (a1.toNat : Int))) && (decide ((a1.toNat : Int) < 127)))) (fun K => ?_) ?_
 ·rcases aj (decide (32 ≤ (a1.toNat : Int))) with h3 | h3
  ·refine zM h3 rfl <| zU h3 rfl (bI rfl rfl) <| zS rfl (aC (av := .v _) rfl h3 rfl) ?_;exact K _ 2 _ (ay (cH h3)) rfl rfl
  ·refine zF h3 rfl <| zF h3 rfl <| zS rfl (aD (av := .v _) rfl h3 rfl) ?_;exact K _ 2 _ (ay (cI h3)) rfl rfl
 refine za rfl <| ai <| aP ?_;obtain rfl := ap H;exact And.intro rfl (Exists.intro _ (Exists.intro _ ⟨aR rfl (.refl _), aM [] rfl, rfl, rfl⟩))
set_option maxRecDepth 100000 in
set_option maxHeartbeats 1000000 in
theorem mW (F : Nat) (a1 : List UInt8) (r2 : Bool) (H : iB F a1 = some r2) : ACalls Tryz.prog 108 [S a1, .v (.func (.func 109) #[] #[])] [] (Ret (B r2) []) := by
 unfold iB at H
 refine ax Tryz.func108 rfl rfl ?_;show AW _ _ 20 _ _ _;refine ah <| ab ?_;show AR _ _ _ _ _ [0] _;refine za rfl <| ai <| bP (X := Unit) (fun _ => ⟨[(0, S a1)], [], []⟩) (fun _ => eo a1 = some r2) ?_ ?_
 ·refine ah <| ab ?_;show AR _ _ _ _ _ [0, 1, 2] _;refine zm rfl <| zS rfl (bg af rfl) <| zm rfl <| ai <| aO <| bZ (X := Nat × Int) (fun (n5, y3) => ⟨[(0, S a1), (1, .v (.func (.func 109) #[] #[])), (7, i64 (a1.length : Int)), (8, i64 y3)], [], []⟩) (fun (n5, y3) => ep F a1 n5 y3 = some r2) (fun (n5, y3) => n5) (F, 0) H (ba [] (.cons (.refl _) (.cons (.refl _) (.cons (.refl _) (.cons (.refl _) (.nil _))))) rfl) ?_;rintro ⟨n5, y3⟩ H;obtain ⟨n5, rfl, H⟩ := cB H;replace H : er F a1 (ep F a1 n5) y3 = some r2 := H
  unfold er at H
  refine ah <| ab ?_;show AR _ _ _ _ _ [0] _;refine zS rfl (bI rfl rfl) <| ai <| ah <| aH rfl (fun c6 => ?_) (fun c6 => ?_)
  ·replace H := bk c6 H;refine aJ <| ah <| aO <| ah <| ab ?_;show AR _ _ _ _ _ [0, 1] _;refine zm rfl <| za rfl <| ai <| ah ?_;obtain ⟨g7, H⟩ := aF H;obtain ⟨x8, e9, H⟩ := bi H;obtain ⟨x10, e11, H⟩ := dz H;refine ab ?_;show AR _ _ _ _ _ [0, 1, 2, 3, 4, 5] _;refine zm rfl <| zm rfl <| zm rfl <| zS rfl (cj af rfl rfl g7 e9) <| am rfl rfl (AO.callFp rfl (.inr ⟨rfl, rfl, rfl⟩) oz rfl (mX F x8 x10 e11) ?_);refine zS rfl (ck rfl) <| ai <| aH rfl (fun c12 => ?_) (fun c12 => ?_)
   ·replace H := bk c12 H;refine ah <| ab ?_;show AR _ _ _ _ _ [0] _;refine za rfl <| ai <| aP ?_;obtain rfl := ap H;exact And.intro rfl (Exists.intro _ (Exists.intro _ ⟨aR rfl (.refl _), aM [] rfl, rfl, rfl⟩))
   ·replace H := bl c12 H;refine aJ ?_;obtain ⟨g13, H⟩ := aF H;refine ab ?_;show AR _ _ _ _ _ [0, 1] _;refine zS rfl (bC rfl rfl g13) <| zm rfl <| ai ?_;exact Exists.intro (n5, y3 + 1) ⟨H, Nat.lt_succ_self _, ba [] (.cons (.refl _) (.cons (.refl _) (.cons (.refl _) (.cons (.refl _) (.nil _))))) rfl⟩
  ·replace H := bl c6 H;refine bQ ?_;exact Exists.intro () ⟨H, ba [] (.cons (.refl _) (.nil _)) rfl⟩
 rintro _ H;replace H : eo a1 = some r2 := H
 unfold eo at H
 refine ah <| ab ?_;show AR _ _ _ _ _ [0, 1, 2] _;refine zm rfl <| zS rfl (fX rfl rfl) <| za rfl <| ai <| aP ?_;obtain rfl := ap H;exact And.intro rfl (Exists.intro _ (Exists.intro _ ⟨aR rfl (.refl _), aM [] rfl, rfl, rfl⟩))
set_option maxRecDepth 100000 in
set_option maxHeartbeats 1000000 in
theorem mV (F : Nat) (a1 : List UInt8) (r2 : Bool) (H : iA F a1 = some r2) : ACalls Tryz.prog 108 [S a1, .v (.func (.func 132) #[] #[])] [] (Ret (B r2) []) := by
 unfold iA at H
 refine ax Tryz.func108 rfl rfl ?_;show AW _ _ 20 _ _ _;refine ah <| ab ?_;show AR _ _ _ _ _ [0] _;refine za rfl <| ai <| bP (X := Unit) (fun _ => ⟨[(0, S a1)], [], []⟩) (fun _ => ek a1 = some r2) ?_ ?_
 ·refine ah <| ab ?_;show AR _ _ _ _ _ [0, 1, 2] _;refine zm rfl <| zS rfl (bg af rfl) <| zm rfl <| ai <| aO <| bZ (X := Nat × Int) (fun (n5, y3) => ⟨[(0, S a1), (1, .v (.func (.func 132) #[] #[])), (7, i64 (a1.length : Int)), (8, i64 y3)], [], []⟩) (fun (n5, y3) => el F a1 n5 y3 = some r2) (fun (n5, y3) => n5) (F, 0) H (ba [] (.cons (.refl _) (.cons (.refl _) (.cons (.refl _) (.cons (.refl _) (.nil _))))) rfl) ?_;rintro ⟨n5, y3⟩ H;obtain ⟨n5, rfl, H⟩ := cB H;replace H : em F a1 (el F a1 n5) y3 = some r2 := H
  unfold em at H
  refine ah <| ab ?_;show AR _ _ _ _ _ [0] _;refine zS rfl (bI rfl rfl) <| ai <| ah <| aH rfl (fun c6 => ?_) (fun c6 => ?_)
  ·replace H := bk c6 H;refine aJ <| ah <| aO <| ah <| ab ?_;show AR _ _ _ _ _ [0, 1] _;refine zm rfl <| za rfl <| ai <| ah ?_;obtain ⟨g7, H⟩ := aF H;obtain ⟨x8, e9, H⟩ := bi H;obtain ⟨x10, e11, H⟩ := dz H;refine ab ?_;show AR _ _ _ _ _ [0, 1, 2, 3, 4, 5] _;refine zm rfl <| zm rfl <| zm rfl <| zS rfl (cj af rfl rfl g7 e9) <| am rfl rfl (AO.callFp rfl (.inr ⟨rfl, rfl, rfl⟩) ol rfl (mg F x8 x10 e11) ?_);refine zS rfl (ck rfl) <| ai <| aH rfl (fun c12 => ?_) (fun c12 => ?_)
   ·replace H := bk c12 H;refine ah <| ab ?_;show AR _ _ _ _ _ [0] _;refine za rfl <| ai <| aP ?_;obtain rfl := ap H;exact And.intro rfl (Exists.intro _ (Exists.intro _ ⟨aR rfl (.refl _), aM [] rfl, rfl, rfl⟩))
   ·replace H := bl c12 H;refine aJ ?_;obtain ⟨g13, H⟩ := aF H;refine ab ?_;show AR _ _ _ _ _ [0, 1] _;refine zS rfl (bC rfl rfl g13) <| zm rfl <| ai ?_;exact Exists.intro (n5, y3 + 1) ⟨H, Nat.lt_succ_self _, ba [] (.cons (.refl _) (.cons (.refl _) (.cons (.refl _) (.cons (.refl _) (.nil _))))) rfl⟩
  ·replace H := bl c6 H;refine bQ ?_;exact Exists.intro () ⟨H, ba [] (.cons (.refl _) (.nil _)) rfl⟩
 rintro _ H;replace H : ek a1 = some r2 := H
 unfold ek at H
 refine ah <| ab ?_;show AR _ _ _ _ _ [0, 1, 2] _;refine zm rfl <| zS rfl (fX rfl rfl) <| za rfl <| ai <| aP ?_;obtain rfl := ap H;exact And.intro rfl (Exists.intro _ (Exists.intro _ ⟨aR rfl (.refl _), aM [] rfl, rfl, rfl⟩))
set_option maxRecDepth 100000 in
set_option maxHeartbeats 1000000 in
theorem nP (F : Nat) (a1 : List UInt8) (r2 : Bool) (H : gc F a1 = some r2) : ACalls Tryz.prog 89 [S a1] [] (Ret (B r2) []) := by
 unfold gc at H
 refine ax Tryz.func89 rfl rfl ?_;show AW _ _ 10 _ _ _;refine ah <| ab ?_;show AR _ _ _ _ _ [0] _;refine za rfl <| ai <| ah ?_;obtain ⟨x4, e5, H⟩ := nE H;refine ab ?_;show AR _ _ _ _ _ [0, 1, 2, 3, 4, 5, 6, 7] _;refine zm rfl <| zS rfl (bg af rfl) <| zS rfl (hU rfl rfl) <| zm rfl <| aZ (l := [7]) 9 (B ((decide ((a1.length : Int) ≤ 40)) && x4)) (fun K => ?_) ?_
 ·rcases aj (decide ((a1.length : Int) ≤ 40)) with h3 | h3
  ·refine zM h3 rfl <| zT h3 rfl (aN rfl kM rfl (mW F a1 x4 (e5 h3)) ?_);refine zS rfl (aC (av := .v _) rfl h3 rfl) ?_;exact K _ 2 _ (ay (cH h3)) rfl rfl
  ·refine zF h3 rfl <| zF h3 rfl <| zS rfl (aD (av := .v _) rfl h3 rfl) ?_;exact K _ 2 _ (ay (cI h3)) rfl rfl
 refine za rfl <| ai <| aP ?_;obtain rfl := ap H;exact And.intro rfl (Exists.intro _ (Exists.intro _ ⟨aR rfl (.refl _), aM [] rfl, rfl, rfl⟩))
set_option maxRecDepth 100000 in
set_option maxHeartbeats 1000000 in
theorem nc (F : Nat) (a1 : List UInt8) (r2 : Bool) (H : gi F a1 = some r2) : ACalls Tryz.prog 111 [S a1] [] (Ret (B r2) []) := by
 unfold gi at H
 refine ax Tryz.func111 rfl rfl ?_;show AW _ _ 21 _ _ _;refine ah <| ab ?_;show AR _ _ _ _ _ [0] _;refine za rfl <| ai <| ah ?_;obtain ⟨x3, e4, H⟩ := dz H;obtain ⟨g6, H⟩ := eA H;obtain ⟨x7, e8, H⟩ := bi H;obtain ⟨g10, H⟩ := eA H;obtain ⟨x11, e12, H⟩ := bi H;obtain ⟨g14, H⟩ := eA H;obtain ⟨x15, e16, H⟩ := bi H;refine ab ?_;show AR _ _ _ _ _ [0, 1, 2, 3, 4, 5, 6, 7, 8, 9, 10, 11, 12, 13, 14, 15, 16, 17, 18] _;refine zm rfl <| am rfl rfl (aN rfl kM rfl (mV F a1 x3 e4) ?_);refine zm rfl <| aZ (l := [8, 9, 10, 11, 12, 13, 14, 15, 16, 17, 18]) 10 (B (x3 && (decide (x7 = a1)))) (fun K => ?_) ?_
 ·rcases aj x3 with h5 | h5
  ·refine zM h5 rfl <| zT h5 rfl (aN rfl pK rfl (show ACalls _ _ _ [] (Ret (S x7) []) from by subst e8; exact mJ a1 32 (by decide) (gl (g6 h5))) ?_);refine zM h5 rfl <| zU h5 rfl (iO rfl rfl) <| zS rfl (aC (av := .v _) rfl h5 rfl) ?_;exact K _ 4 _ (ay (cH h5)) rfl rfl
  ·refine zF h5 rfl <| zF h5 rfl <| zF h5 rfl <| zF h5 rfl <| zS rfl (aD (av := .v _) rfl h5 rfl) ?_;exact K _ 4 _ (ay (cI h5)) rfl rfl
 refine zm rfl <| aZ (l := [13, 14, 15, 16, 17, 18]) 15 (B ((x3 && (decide (x7 = a1))) && (!x11))) (fun K => ?_) ?_
 ·rcases aj (x3 && (decide (x7 = a1))) with h9 | h9
  ·refine zM h9 rfl <| zT h9 rfl (aN rfl lH rfl (show ACalls _ _ _ [] (Ret (B x11) []) from by subst e12; exact iw a1 ([32, 32] : List UInt8) (gl (g10 h9))) ?_);refine zU h9 rfl (ck rfl) <| zS rfl (aC (av := .v _) rfl h9 rfl) ?_;exact K _ 3 _ (ay (cH h9)) rfl rfl
  ·refine zF h9 rfl <| zF h9 rfl <| zF h9 rfl <| zS rfl (aD (av := .v _) rfl h9 rfl) ?_;exact K _ 3 _ (ay (cI h9)) rfl rfl
 refine zm rfl <| aZ (l := [18]) 20 (B (((x3 && (decide (x7 = a1))) && (!x11)) && (!x15))) (fun K => ?_) ?_
 ·rcases aj ((x3 && (decide (x7 = a1))) && (!x11)) with h13 | h13
  ·refine zM h13 rfl <| zT h13 rfl (aN rfl lH rfl (show ACalls _ _ _ [] (Ret (B x15) []) from by subst e16; exact iw a1 ([61, 63] : List UInt8) (gl (g14 h13))) ?_);refine zU h13 rfl (ck rfl) <| zS rfl (aC (av := .v _) rfl h13 rfl) ?_;exact K _ 3 _ (ay (cH h13)) rfl rfl
  ·refine zF h13 rfl <| zF h13 rfl <| zF h13 rfl <| zS rfl (aD (av := .v _) rfl h13 rfl) ?_;exact K _ 3 _ (ay (cI h13)) rfl rfl
 refine za rfl <| ai <| aP ?_;obtain rfl := ap H;exact And.intro rfl (Exists.intro _ (Exists.intro _ ⟨aR rfl (.refl _), aM [] rfl, rfl, rfl⟩))
set_option maxRecDepth 100000 in
set_option maxHeartbeats 1000000 in
theorem mh (F : Nat) (a1 : UInt8) (r2 : Bool) (H : gB F a1 = some r2) : ACalls Tryz.prog 134 [u8 a1] [] (Ret (B r2) []) := by
 unfold gB at H
 refine ax Tryz.func134 rfl rfl ?_;show AW _ _ 6 _ _ _;refine ah <| ab ?_;show AR _ _ _ _ _ [0] _;refine za rfl <| ai <| ah <| ab ?_;show AR _ _ _ _ _ [0, 1, 2, 3] _;refine zm rfl <| zS rfl (g_shr8 (n := 6) rfl rfl rfl) <| zS rfl (iV (a := Go.Av.shr8 a1 6) (b := 2) rfl rfl) <| za rfl <| ai <| aP ?_;obtain rfl := ap H;exact And.intro rfl (Exists.intro _ (Exists.intro _ ⟨aR rfl (.refl _), aM [] rfl, rfl, rfl⟩))
set_option maxRecDepth 100000 in
set_option maxHeartbeats 1000000 in
theorem nN (F : Nat) (a1 : List UInt8) (r2 : Int) (H : ig F a1 = some r2) : ACalls Tryz.prog 113 [S a1] [] (Ret (i64 r2) []) := by
 unfold ig at H
 refine ax Tryz.func113 rfl rfl ?_;show AW _ _ 22 _ _ _;refine ah <| ab ?_;show AR _ _ _ _ _ [0] _;refine za rfl <| ai <| ah <| ah <| ab ?_;show AR _ _ _ _ _ [0, 1, 2] _;refine zm rfl <| zS rfl (bg af rfl) <| zS rfl (hU rfl rfl) <| ai <| aH rfl (fun c3 => ?_) (fun c3 => ?_)
 ·replace H := bk c3 H;refine ah <| ab ?_;show AR _ _ _ _ _ [0, 1, 2] _;refine zm rfl <| zS rfl (bg af rfl) <| za rfl <| ai <| aP ?_;obtain rfl := ap H;exact And.intro rfl (Exists.intro _ (Exists.intro _ ⟨aR rfl (.refl _), aM [] rfl, rfl, rfl⟩))
 ·replace H := bl c3 H;refine aJ <| ah <| ab ?_;show AR _ _ _ _ _ [0] _;refine za rfl <| ai <| bP (X := Int) (fun y15 => ⟨[(3, i64 y15)], [], []⟩) (fun y15 => fc y15 = some r2) ?_ ?_
  ·refine aO <| bZ (X := Nat × Int) (fun (n6, y4) => ⟨[(0, S a1), (3, i64 y4)], [], []⟩) (fun (n6, y4) => fe F a1 n6 y4 = some r2) (fun (n6, y4) => n6) (F, 45) H (ba [] (.cons (.refl _) (.cons (.refl _) (.nil _))) rfl) ?_;rintro ⟨n6, y4⟩ H;obtain ⟨n6, rfl, H⟩ := cB H;replace H : ff F a1 (fe F a1 n6) y4 = some r2 := H
   unfold ff at H
   refine ah <| ah ?_;obtain ⟨g8, H⟩ := eA H;obtain ⟨x9, e10, H⟩ := bi H;obtain ⟨x11, e12, H⟩ := nE H;refine ab ?_;show AR _ _ _ _ _ [0, 1, 2, 3, 4, 5, 6, 7] _;refine zm rfl <| zS rfl (cF rfl rfl) <| zm rfl <| aZ (l := []) 16 (B ((decide (41 < y4)) && x11)) (fun K => ?_) ?_
   ·rcases aj (decide (41 < y4)) with h7 | h7
    ·refine zM h7 rfl <| zM h7 rfl <| zU h7 rfl (cj af rfl rfl (g8 h7) e10) <| zT h7 rfl (aN rfl oh rfl (mh F x9 x11 (e12 h7)) ?_);refine zS rfl (aC (av := .v _) rfl h7 rfl) ?_;exact K _ 4 _ (ay (cH h7)) rfl rfl
    ·refine zF h7 rfl <| zF h7 rfl <| zF h7 rfl <| zF h7 rfl <| zS rfl (aD (av := .v _) rfl h7 rfl) ?_;exact K _ 4 _ (ay (cI h7)) rfl rfl
   refine ai <| aH rfl (fun c13 => ?_) (fun c13 => ?_)
   ·replace H := bk c13 H;refine aJ <| aO ?_;obtain ⟨g14, H⟩ := aF H;refine ab ?_;show AR _ _ _ _ _ [0, 1, 2] _;refine zm rfl <| zS rfl (kt rfl rfl g14) <| za rfl <| ai ?_;exact Exists.intro (n6, y4 - 1) ⟨H, Nat.lt_succ_self _, ba [] (.cons (.refl _) (.cons (.refl _) (.nil _))) rfl⟩
   ·replace H := bl c13 H;refine bQ ?_;exact Exists.intro y4 ⟨H, ba [] (.cons (.refl _) (.nil _)) rfl⟩
  rintro y15 H;replace H : fc y15 = some r2 := H
  unfold fc at H
  refine ah <| ah <| ab ?_;show AR _ _ _ _ _ [0, 1] _;refine zm rfl <| zS rfl (dv rfl rfl) <| ai <| aH rfl (fun c17 => ?_) (fun c17 => ?_)
  ·replace H := bk c17 H;refine ah <| ab ?_;show AR _ _ _ _ _ [0] _;refine za rfl <| ai <| aP ?_;obtain rfl := ap H;exact And.intro rfl (Exists.intro _ (Exists.intro _ ⟨aR rfl (.refl _), aM [] rfl, rfl, rfl⟩))
  ·replace H := bl c17 H;refine aJ <| ah <| ab ?_;show AR _ _ _ _ _ [0, 1] _;refine zm rfl <| za rfl <| ai <| aP ?_;obtain rfl := ap H;exact And.intro rfl (Exists.intro _ (Exists.intro _ ⟨aR rfl (.refl _), aM [] rfl, rfl, rfl⟩))
set_option maxRecDepth 100000 in
set_option maxHeartbeats 1000000 in
theorem mf (F : Nat) {σ τ : Type} (T : σ → τ → List Chunk) (k : σ → (List UInt8) → Option (σ × Bool)) (o : Nat) (hY : ∀ (s : σ) (t : τ) (x : List UInt8) (rv : σ × Bool), k s x = some rv → jy Tryz.prog o [S x] (T s t) fun ae A' => ∃ t', ae = .ret (.v (.bool rv.2)) ∧ A' = T rv.1 t') (st0 : σ) (tt0 : τ) (o1 : Nat) (a2 : List UInt8) (rs : σ) (r3 : List UInt8) (H : fK F k st0 a2 = some (rs, r3)) : ACalls Tryz.prog 110 [.yl o, .pt o1 0] ([.obj o1 [S a2]] ++ T st0 tt0) (fun e A' => ∃ tz, e = .ret (.tup []) ∧ A' = [.obj o1 [S r3]] ++ T rs tz) := by
 unfold fK at H
 refine ax Tryz.func110 rfl rfl ?_;show AW _ _ 37 _ _ _;refine bP (X := Unit) (fun _ => ⟨[(0, .yl o), (1, .pt o1 0)], [], ([.obj o1 [S a2]] ++ T st0 tt0)⟩) (fun _ => eL F a2 k st0 = some (rs, r3)) ?_ ?_
 ·refine ah ?_;obtain ⟨x4, e5, H⟩ := dz H;refine ab ?_;show AR _ _ _ _ _ [0, 1] _;refine zR rfl (ak (i := 0) af rfl rfl rfl rfl) <| am rfl rfl (aN rfl ox rfl (nc F a2 x4 e5) ?_);refine ai <| aH rfl (fun c6 => ?_) (fun c6 => ?_)
  ·replace H := bk c6 H;refine ah <| ah ?_;obtain ⟨g7, H⟩ := aF H;obtain ⟨g8, H⟩ := aF H;obtain ⟨x9, e10, H⟩ := bi H;refine ab ?_;show AR _ _ _ _ _ [0, 1, 2, 3] _;refine zR rfl (ak (i := 0) af rfl rfl rfl rfl) <| am rfl rfl (aN rfl ow rfl (show ACalls _ _ _ [] (Ret (slE Enc.str x9 none) []) from by subst e10; exact rd a2 ([32] : List UInt8) (gl g7) (of_decide_eq_true g8)) ?_);refine zS rfl (aG ar rfl) <| zm rfl <| ai <| aO <| bZ (X := Nat × Int × σ × τ) (fun (n15, y11, y12, t13) => ⟨[(0, .yl o), (9, slE Enc.str x9 none), (10, i64 (x9.length : Int)), (11, i64 y11)], [], ([.obj o1 [S a2]] ++ T y12 t13)⟩) (fun (n15, y11, y12, t13) => cX a2 k x9 n15 (y11, y12) = some (rs, r3)) (fun (n15, y11, y12, t13) => n15) (F, 0, st0, tt0) H (WK.atT 1 [0] (.cons (.refl _) (.cons (.refl _) (.cons (.refl _) (.cons (.refl _) (.nil _))))) rfl) ?_;rintro ⟨n15, y11, y12, t13⟩ H;obtain ⟨n15, rfl, H⟩ := cB H;replace H : dK a2 k x9 (cX a2 k x9 n15) y11 y12 = some (rs, r3) := H
   unfold dK at H
   refine ah <| ab ?_;show AR _ _ _ _ _ [0] _;refine zS rfl (bI rfl rfl) <| ai <| ah <| aH rfl (fun c16 => ?_) (fun c16 => ?_)
   ·replace H := bk c16 H;refine aJ <| ah <| aO <| ah ?_;obtain ⟨g17, H⟩ := aF H;obtain ⟨x18, e19, H⟩ := bi H;refine ab ?_;show AR _ _ _ _ _ [0, 1, 2] _;refine zS rfl (bn (E := Enc.str) ar (by kernel_rfl) rfl rfl g17 e19) <| zS rfl (aU af rfl rfl) <| za rfl <| ai <| ah ?_;obtain ⟨x20, x21, e22, H⟩ := fm H;refine ab ?_;show AR _ _ _ _ _ [0, 1, 2, 3] _;refine zS rfl (ac (av := .yl _) rfl) <| zm rfl <| am rfl rfl (AO.yieldT (s' := x20) (b := x21) 1 rfl rfl rfl (hY _ _ _ _ e22) fun t23 => ?_);show AR _ _ _ _ _ _ ⟨_, _, ([.obj o1 [S a2]] ++ T x20 t23)⟩;refine zS rfl (ck rfl) <| ai <| aH rfl (fun c24 => ?_) (fun c24 => ?_)
    ·replace H := bk c24 H;refine aP ?_;obtain ⟨rfl, rfl⟩ := gk H;exact And.intro rfl (Exists.intro _ (Exists.intro _ ⟨cG rfl, Sub.atT 1 [0] rfl, t23, rfl, rfl⟩))
    ·replace H := bl c24 H;refine aJ ?_;obtain ⟨g25, H⟩ := aF H;refine ab ?_;show AR _ _ _ _ _ [0, 1] _;refine zS rfl (bC rfl rfl g25) <| zm rfl <| ai ?_;exact Exists.intro (n15, y11 + 1, x20, t23) ⟨H, Nat.lt_succ_self _, WK.atT 1 [0] (.cons (.refl _) (.cons (.refl _) (.cons (.refl _) (.cons (.refl _) (.nil _))))) rfl⟩
   ·replace H := bl c16 H;refine bQ <| aP ?_;obtain ⟨rfl, rfl⟩ := gk H;exact And.intro rfl (Exists.intro _ (Exists.intro _ ⟨cG rfl, Sub.atT 1 [0] rfl, t13, rfl, rfl⟩))
  ·replace H := bl c6 H;refine aJ ?_;exact Exists.intro () ⟨H, WK.atT 1 [0] (.cons (.refl _) (.cons (.refl _) (.nil _))) rfl⟩
 rintro _ H;replace H : eL F a2 k st0 = some (rs, r3) := H
 unfold eL at H
 refine aO <| bZ (X := Nat × (List UInt8) × σ × τ) (fun (n31, y27, y28, t29) => ⟨[(0, .yl o), (1, .pt o1 0)], [], ([.obj o1 [S y27]] ++ T y28 t29)⟩) (fun (n31, y27, y28, t29) => cY F k n31 (y27, y28) = some (rs, r3)) (fun (n31, y27, y28, t29) => n31) (F, a2, st0, tt0) H (WK.atT 1 [0] (.cons (.refl _) (.cons (.refl _) (.nil _))) rfl) ?_;rintro ⟨n31, y27, y28, t29⟩ H;obtain ⟨n31, rfl, H⟩ := cB H;replace H : dL F k (cY F k n31) y27 y28 = some (rs, r3) := H
 unfold dL at H
 refine ah <| ah <| ab ?_;show AR _ _ _ _ _ [0, 1] _;refine zR rfl (ak (i := 0) af rfl rfl rfl rfl) <| zS rfl (fX rfl rfl) <| ai <| aH rfl (fun c32 => ?_) (fun c32 => ?_)
 ·replace H := bk c32 H;refine aJ <| aO <| ah ?_;obtain ⟨x33, e34, H⟩ := dz H;refine ab ?_;show AR _ _ _ _ _ [0, 1, 2] _;refine zR rfl (ak (i := 0) af rfl rfl rfl rfl) <| am rfl rfl (aN rfl ov rfl (nN F y27 x33 e34) ?_);refine za rfl <| ai <| ah <| ah ?_;obtain ⟨g35, H⟩ := aF H;obtain ⟨x36, e37, H⟩ := bi H;obtain ⟨g38, H⟩ := aF H;obtain ⟨x40, e41, H⟩ := dz H;obtain ⟨g42, H⟩ := aF H;obtain ⟨x43, e44, H⟩ := bi H;obtain ⟨g45, H⟩ := aF H;obtain ⟨x46, e47, H⟩ := bi H;obtain ⟨x48, x49, e50, H⟩ := fm H;refine ab ?_;show AR _ _ _ _ _ [0, 1, 2, 3, 4, 5, 6, 7, 8, 9] _;refine zS rfl (ac (av := .yl _) rfl) <| zR rfl (ak (i := 0) af rfl rfl rfl rfl) <| zm rfl <| zS rfl (g_to_str af rfl rfl g35 e37) <| zX rfl (cV (bytes := 1) af aa aB rfl g38) ?_;rintro _ _ ⟨t39, rfl, rfl⟩;refine am rfl rfl (aN rfl ou rfl (mE F x36 (some t39) x40 e41) ?_);refine zS rfl (da rfl rfl g42 e44) <| zS rfl (da rfl rfl g45 e47) <| am rfl rfl (AO.yieldT (s' := x48) (b := x49) 2 rfl rfl rfl (hY _ _ _ _ e50) fun t51 => ?_);show AR _ _ _ _ _ _ ⟨_, _, ([.tok t39 5, .obj o1 [S y27]] ++ T x48 t51)⟩;refine zS rfl (ck rfl) <| ai <| aH rfl (fun c52 => ?_) (fun c52 => ?_)
  ·replace H := bk c52 H;refine aP ?_;obtain ⟨rfl, rfl⟩ := gk H;exact And.intro rfl (Exists.intro _ (Exists.intro _ ⟨cG rfl, Sub.atT 2 [1] rfl, t51, rfl, rfl⟩))
  ·replace H := bl c52 H;refine aJ ?_;obtain ⟨g53, H⟩ := aF H;obtain ⟨x54, e55, H⟩ := bi H;refine ab ?_;show AR _ _ _ _ _ [0, 1, 2, 3] _;refine zR rfl (ak (i := 1) af rfl rfl rfl rfl) <| zm rfl <| zS rfl (lE af rfl rfl g53 e55) <| s0 rfl rfl (an (i := 1) (c := .v _) (by kernel_rfl) rfl rfl rfl rfl (ag rfl)) <| ai ?_;exact Exists.intro (n31, x54, x48, t51) ⟨H, Nat.lt_succ_self _, WK.atT 2 [1] (.cons (.refl _) (.cons (.refl _) (.nil _))) rfl⟩
 ·replace H := bl c32 H;refine bQ ?_;obtain ⟨rfl, rfl⟩ := gk H;exact And.intro rfl (Exists.intro _ (Exists.intro _ ⟨cG rfl, Sub.atT 1 [0] rfl, t29, rfl, rfl⟩))
set_option maxRecDepth 100000 in
set_option maxHeartbeats 1000000 in
theorem mT (F : Nat) (a1 : List UInt8) (H : iz F a1 = some ()) : ACalls Tryz.prog 90 [S a1] [] (fun e A' => ∃ ob1 : Nat, e = .ret (.fn (.func 110) [] [.pt ob1 0]) ∧ A' = [.obj ob1 [S a1]]) := by
 unfold iz at H
 refine ax Tryz.func90 rfl rfl ?_;show AW _ _ 4 _ _ _;refine ah <| ab ?_;show AR _ _ _ _ _ [0, 1] _;refine zX rfl (nt rfl (.inl rfl)) ?_;rintro _ _ ⟨o2, rfl, rfl⟩;refine za rfl <| ai <| ah <| ab ?_;show AR _ _ _ _ _ [0, 1] _;refine zS rfl (iv rfl rfl) <| zS rfl (ao (av := .fn _ _ _) rfl) <| ai <| aP ?_;exact And.intro rfl (Exists.intro _ (Exists.intro _ ⟨aR rfl (.refl _), aM [0] rfl, o2, rfl, rfl⟩))
set_option maxRecDepth 100000 in
set_option maxHeartbeats 1000000 in
theorem kE (F : Nat) (a1 : List UInt8) (a2 : List UInt8) (r3 : List UInt8) (r4 : Int) (H : eI F a1 a2 = some (r3, r4)) : ACalls Tryz.prog 69 [.agg [S a1, S a2]] [] (Ret (.tup [slE Enc.byte r3 none, i64 r4]) []) := by
 unfold eI at H
 refine kW Tryz.func69 rfl rfl ?_;show AW _ _ 47 _ _ _;refine ah <| ab ?_;show AR _ _ _ _ _ [0, 1, 2] _;refine zR rfl (qZ rfl (.inr ⟨_, rfl⟩)) <| za rfl <| za rfl <| ai <| ah <| ah ?_;obtain ⟨x5, e6, H⟩ := dz H;refine ab ?_;show AR _ _ _ _ _ [0, 1, 2, 3, 4, 5, 6, 7, 8, 9] _;refine zS rfl (cU (n := 0) (by kernel_rfl) rfl (ag rfl)) <| zS rfl (aU af rfl rfl) <| am rfl rfl (aN rfl pw rfl (nP F a1 x5 e6) ?_);refine zS rfl (ck rfl) <| zm rfl <| aZ (l := []) 16 (B ((!x5) || (decide (4000 < (a2.length : Int))))) (fun K => ?_) ?_
 ·rcases aj (!x5) with h7 | h7
  ·refine zF h7 rfl <| zF h7 rfl <| zF h7 rfl <| zF h7 rfl <| zS rfl (aC (av := .v _) rfl h7 rfl) ?_;exact K _ 4 _ (ay (fE h7)) rfl rfl
  ·refine zU h7 rfl (cU (n := 1) (by kernel_rfl) rfl (ag rfl)) <| zU h7 rfl (aU af rfl rfl) <| zU h7 rfl (bg af rfl) <| zU h7 rfl (cF rfl rfl) <| zS rfl (aD (av := .v _) rfl h7 rfl) ?_;exact K _ 4 _ (ay (fF h7)) rfl rfl
 refine ai <| aH rfl (fun c8 => ?_) (fun c8 => ?_)
 ·replace H := bk c8 H;refine ah <| ab ?_;show AR _ _ _ _ _ [0, 1] _;refine za rfl <| za rfl <| ai <| aP ?_;obtain ⟨rfl, rfl⟩ := gk H;exact Exists.intro _ (And.intro (.nil _) (Exists.intro _ (Exists.intro _ ⟨bR rfl (.nil _) (.refl _), aM [] rfl, rfl, rfl⟩)))
 ·replace H := bl c8 H;refine aJ <| ah ?_;obtain ⟨g9, H⟩ := aF H;obtain ⟨x10, e11, H⟩ := bi H;obtain ⟨g12, H⟩ := aF H;refine ab ?_;show AR _ _ _ _ _ [0, 1, 2, 3, 4, 5] _;refine zS rfl (cU (n := 0) (by kernel_rfl) rfl (ag rfl)) <| zS rfl (aU af rfl rfl) <| zS rfl (da rfl rfl g9 e11) <| zX rfl (cV (bytes := 1) af aa aB rfl g12) ?_;rintro _ _ ⟨t13, rfl, rfl⟩;refine zX rfl (dd (zs := [.slice none 0 0]) (by kernel_rfl)) ?_;rintro _ _ ⟨o14, rfl, rfl⟩;refine s0 rfl rfl (an (i := 0) (c := slE _ _ _) (by kernel_rfl) rfl rfl rfl rfl (ag rfl)) <| ai <| ah <| ab ?_;show AR _ _ _ _ _ [0, 1, 2, 3] _;refine zR rfl (ak (i := 0) aa rfl rfl rfl rfl) <| zS rfl (aG aa rfl) <| zX rfl (dd (zs := [.int .i64 0]) (by kernel_rfl)) ?_;rintro _ _ ⟨o15, rfl, rfl⟩;refine s0 rfl rfl (an (i := 0) (c := .v _) (by kernel_rfl) rfl rfl rfl rfl (ag rfl)) <| ai <| bP (X := Nat × (List UInt8) × Nat) (fun (t65, y66, t67) => ⟨[(4, .pt o14 0)], [.mark t65], [.obj o14 [slE Enc.byte y66 (some t67)], .tok t67 5, .db t65]⟩) (fun (t65, y66, t67) => fg y66 = some (r3, r4)) ?_ ?_
  ·refine ah ?_;obtain ⟨_, e16, H⟩ := dz H;refine ab ?_;show AR _ _ _ _ _ [0, 1, 2] _;refine zS rfl (cU (n := 1) (by kernel_rfl) rfl (ag rfl)) <| zS rfl (aU af rfl rfl) <| am rfl rfl (AO.callAt [] rfl pv rfl (mT F a2 e16) rfl (fun c A' h => by obtain ⟨_, h, _⟩ := h; cases h) ?_)
   rintro av A' ⟨o17, h, rfl⟩; cases h
   refine ai <| aO ?_;obtain ⟨x60, x61, e62, H⟩ := fm H;refine AW.rangeK (α := List UInt8) (σ := Int × (List UInt8)) (τ := Nat) (fun x => [S x]) (fun s t => [.obj o15 [i64 s.1], .obj o14 [slE Enc.byte s.2 (some t)], .tok t 5]) (fun _ => none) (fun s x => cO s.1 s.2 x) ((x10.length : Int), x10) t13 x60 [0] [0, 0, 0] rfl oy (fun _ => rfl) (by decide) rfl rfl rfl (fun o T' hY => mf F T' _ o hY _ _ o17 a2 x60 x61 e62) ?_ ?_
   ·rintro l ⟨y18, y19⟩ t20 x22 rv H;replace H : cO y18 y19 x22 = some rv := H
    unfold cO at H
    refine ⟨rfl, ?_⟩;show AW _ _ _ _ _ ⟨(26, S x22) :: _, [], _⟩;refine ab ?_;show AR _ _ _ _ _ [0] _;refine za rfl <| ai <| aO <| bP (X := Int × (List UInt8) × Nat) (fun (y30, y31, t32) => ⟨[(4, .pt o14 0), (5, .pt o15 0), (6, S x22)], [], [.obj o15 [i64 y30], .obj o14 [slE Enc.byte y31 (some t32)], .tok t32 5]⟩) (fun (y30, y31, t32) => dV x22 y30 y31 = some rv) ?_ ?_
    ·refine ah ?_;obtain ⟨g23, H⟩ := aF H;obtain ⟨g24, H⟩ := aF H;refine ab ?_;show AR _ _ _ _ _ [0, 1, 2, 3, 4, 5] _;refine zR rfl (ak (i := 0) bc rfl rfl rfl rfl) <| zS rfl (bC rfl rfl g23) <| zm rfl <| zS rfl (bg af rfl) <| zS rfl (bC rfl rfl g24) <| zS rfl (cF rfl rfl) <| ai <| aH rfl (fun c25 => ?_) (fun c25 => ?_)
     ·replace H := bk c25 H;obtain ⟨g27, H⟩ := aF H;obtain ⟨x28, e29, H⟩ := bi H;refine ab ?_;show AR _ _ _ _ _ [0, 1, 2, 3] _;refine zR rfl (ak (i := 1) aa rfl rfl rfl rfl) <| zX rfl (aY (bytes := 1) 2 aa af rfl (by kernel_rfl) rfl rfl rfl rfl g27 e29) ?_;rintro _ _ ⟨t26, rfl, rfl⟩;refine s0 rfl rfl (an (i := 1) (c := slE _ _ _) (by kernel_rfl) rfl rfl rfl rfl (ag rfl)) <| s0 rfl rfl (an (i := 0) (c := .v _) (by kernel_rfl) rfl rfl rfl rfl (ag rfl)) <| ai ?_;exact Exists.intro (0, x28, t26) ⟨H, ba [0, 0, 0] (.cons (.refl _) (.cons (.refl _) (.cons (.refl _) (.nil _)))) rfl⟩
     ·replace H := bl c25 H;refine aJ ?_;exact Exists.intro (y18, y19, t20) ⟨H, ba [0, 0, 0] (.cons (.refl _) (.cons (.refl _) (.cons (.refl _) (.nil _)))) rfl⟩
    rintro ⟨y30, y31, t32⟩ H;replace H : dV x22 y30 y31 = some rv := H
    unfold dV at H
    obtain ⟨g35, H⟩ := aF H;obtain ⟨x36, e37, H⟩ := bi H;obtain ⟨g39, H⟩ := aF H;obtain ⟨x40, e41, H⟩ := bi H;obtain ⟨g42, H⟩ := aF H;obtain ⟨g43, H⟩ := aF H;refine kV (by kernel_rfl) (by kernel_rfl) ?_;show AI _ _ _ _ _ 12 (Array.replicate 12 false) _;refine zk 3 rfl (mv rfl) ?_;show AI _ _ _ _ _ _ #[false, false, false, true, false, false, false, false, false, false, false, false] _;refine zk 7 rfl (mv rfl) ?_;show AI _ _ _ _ _ _ #[false, false, false, true, false, false, false, true, false, false, false, false] _;refine zk 8 rfl (bg af rfl) ?_;show AI _ _ _ _ _ _ #[false, false, false, true, false, false, false, true, true, false, false, false] _;refine AI.three (i := 0) (j := 1) (l := 5) (by kernel_rfl) rfl rfl rfl rfl rfl rfl ?_ ?_ ?_
    ·refine aL rfl (ak (i := 1) aa rfl rfl rfl rfl) ?_;show AI _ _ _ _ _ _ #[true, false, false, true, false, false, false, true, true, false, false, false] _;refine cD (i := 1) (j := 5) (by kernel_rfl) rfl rfl rfl rfl ?_ ?_
     ·refine aL rfl (bm (E := Enc.byte) (bytes := 1) (xs := [.const _]) (l := ([32] : List UInt8)) aa (by kernel_rfl) rfl rfl (by decide) rfl rfl) ?_;show AI _ _ _ _ _ _ #[true, true, false, true, false, false, false, true, true, false, false, false] _;refine cD (i := 2) (j := 5) (by kernel_rfl) rfl rfl rfl rfl ?_ ?_
      ·refine bt rfl (bA (E := Enc.byte) (bytes := 1) 2 aa aa rfl (by kernel_rfl) rfl rfl rfl rfl g35 e37) ?_;rintro _ _ ⟨t34, rfl, rfl⟩;show AI _ _ _ _ _ _ #[true, true, true, true, false, false, false, true, true, false, false, false] _;refine cD (i := 4) (j := 5) (by kernel_rfl) rfl rfl rfl rfl ?_ ?_
       ·refine bt rfl (aY (bytes := 1) 2 aa af rfl (by kernel_rfl) rfl rfl rfl rfl g39 e41) ?_;rintro _ _ ⟨t38, rfl, rfl⟩;show AI _ _ _ _ _ _ #[true, true, true, true, true, false, false, true, true, false, false, false] _;refine cD (i := 5) (j := 10) (by kernel_rfl) rfl rfl rfl rfl ?_ ?_
        ·refine aL rfl (ak (i := 0) bc rfl rfl rfl rfl) ?_;show AI _ _ _ _ _ _ #[true, true, true, true, true, true, false, true, true, false, false, false] _;refine zk 6 rfl (bC rfl rfl g42) ?_;show AI _ _ _ _ _ _ #[true, true, true, true, true, true, true, true, true, false, false, false] _;refine zk 9 rfl (bC rfl rfl g43) ?_;show AI _ _ _ _ _ _ #[true, true, true, true, true, true, true, true, true, true, false, false] _;refine aQ (i := 10) (by kernel_rfl) rfl rfl <| bN (an (i := 1) (c := slE _ _ _) (by kernel_rfl) rfl rfl rfl rfl (ag rfl)) ?_;show AI _ _ _ _ _ _ #[true, true, true, true, true, true, true, true, true, true, true, false] _;refine aQ (i := 11) (by kernel_rfl) rfl rfl <| bN (an (i := 0) (c := .v _) (by kernel_rfl) rfl rfl rfl rfl (ag rfl)) ?_;show AI _ _ _ _ _ _ #[true, true, true, true, true, true, true, true, true, true, true, true] _;refine br rfl ?_;obtain rfl := ap H;exact ⟨rfl, rfl, t38, aM [0, 0, 0] rfl⟩
        ·refine bN (an (i := 1) (c := slE _ _ _) (by kernel_rfl) rfl rfl rfl rfl (ag rfl)) ?_;show AI _ _ _ _ _ _ #[true, true, true, true, true, false, false, true, true, false, true, false] _;refine aQ (i := 5) (by kernel_rfl) rfl rfl <| aL rfl (ak (i := 0) bc rfl rfl rfl rfl) ?_;show AI _ _ _ _ _ _ #[true, true, true, true, true, true, false, true, true, false, true, false] _;refine zk 6 rfl (bC rfl rfl g42) ?_;show AI _ _ _ _ _ _ #[true, true, true, true, true, true, true, true, true, false, true, false] _;refine zk 9 rfl (bC rfl rfl g43) ?_;show AI _ _ _ _ _ _ #[true, true, true, true, true, true, true, true, true, true, true, false] _;refine aQ (i := 11) (by kernel_rfl) rfl rfl <| bN (an (i := 0) (c := .v _) (by kernel_rfl) rfl rfl rfl rfl (ag rfl)) ?_;show AI _ _ _ _ _ _ #[true, true, true, true, true, true, true, true, true, true, true, true] _;refine br rfl ?_;obtain rfl := ap H;exact ⟨rfl, rfl, t38, aM [0, 0, 0] rfl⟩
       ·refine aL rfl (ak (i := 0) bc rfl rfl rfl rfl) ?_;show AI _ _ _ _ _ _ #[true, true, true, true, false, true, false, true, true, false, false, false] _;refine zk 6 rfl (bC rfl rfl g42) ?_;show AI _ _ _ _ _ _ #[true, true, true, true, false, true, true, true, true, false, false, false] _;refine zk 9 rfl (bC rfl rfl g43) ?_;show AI _ _ _ _ _ _ #[true, true, true, true, false, true, true, true, true, true, false, false] _;refine aQ (i := 4) (by kernel_rfl) rfl rfl <| bt rfl (aY (bytes := 1) 2 aa af rfl (by kernel_rfl) rfl rfl rfl rfl g39 e41) ?_;rintro _ _ ⟨t44, rfl, rfl⟩;show AI _ _ _ _ _ _ #[true, true, true, true, true, true, true, true, true, true, false, false] _;refine aQ (i := 10) (by kernel_rfl) rfl rfl <| bN (an (i := 1) (c := slE _ _ _) (by kernel_rfl) rfl rfl rfl rfl (ag rfl)) ?_;show AI _ _ _ _ _ _ #[true, true, true, true, true, true, true, true, true, true, true, false] _;refine aQ (i := 11) (by kernel_rfl) rfl rfl <| bN (an (i := 0) (c := .v _) (by kernel_rfl) rfl rfl rfl rfl (ag rfl)) ?_;show AI _ _ _ _ _ _ #[true, true, true, true, true, true, true, true, true, true, true, true] _;refine br rfl ?_;obtain rfl := ap H;exact ⟨rfl, rfl, t44, aM [0, 0, 0] rfl⟩
      ·refine aL rfl (ak (i := 0) bc rfl rfl rfl rfl) ?_;show AI _ _ _ _ _ _ #[true, true, false, true, false, true, false, true, true, false, false, false] _;refine zk 6 rfl (bC rfl rfl g42) ?_;show AI _ _ _ _ _ _ #[true, true, false, true, false, true, true, true, true, false, false, false] _;refine zk 9 rfl (bC rfl rfl g43) ?_;show AI _ _ _ _ _ _ #[true, true, false, true, false, true, true, true, true, true, false, false] _;refine aQ (i := 2) (by kernel_rfl) rfl rfl <| bt rfl (bA (E := Enc.byte) (bytes := 1) 2 aa aa rfl (by kernel_rfl) rfl rfl rfl rfl g35 e37) ?_;rintro _ _ ⟨t45, rfl, rfl⟩;show AI _ _ _ _ _ _ #[true, true, true, true, false, true, true, true, true, true, false, false] _;refine aQ (i := 4) (by kernel_rfl) rfl rfl <| bt rfl (aY (bytes := 1) 2 aa af rfl (by kernel_rfl) rfl rfl rfl rfl g39 e41) ?_;rintro _ _ ⟨t46, rfl, rfl⟩;show AI _ _ _ _ _ _ #[true, true, true, true, true, true, true, true, true, true, false, false] _;refine aQ (i := 10) (by kernel_rfl) rfl rfl <| bN (an (i := 1) (c := slE _ _ _) (by kernel_rfl) rfl rfl rfl rfl (ag rfl)) ?_;show AI _ _ _ _ _ _ #[true, true, true, true, true, true, true, true, true, true, true, false] _;refine aQ (i := 11) (by kernel_rfl) rfl rfl <| bN (an (i := 0) (c := .v _) (by kernel_rfl) rfl rfl rfl rfl (ag rfl)) ?_;show AI _ _ _ _ _ _ #[true, true, true, true, true, true, true, true, true, true, true, true] _
       refine br rfl ?_;obtain rfl := ap H;exact ⟨rfl, rfl, t46, aM [0, 0, 0] rfl⟩
     ·refine aL rfl (ak (i := 0) bc rfl rfl rfl rfl) ?_;show AI _ _ _ _ _ _ #[true, false, false, true, false, true, false, true, true, false, false, false] _;refine zk 6 rfl (bC rfl rfl g42) ?_;show AI _ _ _ _ _ _ #[true, false, false, true, false, true, true, true, true, false, false, false] _;refine zk 9 rfl (bC rfl rfl g43) ?_;show AI _ _ _ _ _ _ #[true, false, false, true, false, true, true, true, true, true, false, false] _;refine aQ (i := 1) (by kernel_rfl) rfl rfl <| aL rfl (bm (E := Enc.byte) (bytes := 1) (xs := [.const _]) (l := ([32] : List UInt8)) aa (by kernel_rfl) rfl rfl (by decide) rfl rfl) ?_;show AI _ _ _ _ _ _ #[true, true, false, true, false, true, true, true, true, true, false, false] _;refine aQ (i := 2) (by kernel_rfl) rfl rfl <| bt rfl (bA (E := Enc.byte) (bytes := 1) 2 aa aa rfl (by kernel_rfl) rfl rfl rfl rfl g35 e37) ?_;rintro _ _ ⟨t47, rfl, rfl⟩;show AI _ _ _ _ _ _ #[true, true, true, true, false, true, true, true, true, true, false, false] _;refine aQ (i := 4) (by kernel_rfl) rfl rfl <| bt rfl (aY (bytes := 1) 2 aa af rfl (by kernel_rfl) rfl rfl rfl rfl g39 e41) ?_;rintro _ _ ⟨t48, rfl, rfl⟩;show AI _ _ _ _ _ _ #[true, true, true, true, true, true, true, true, true, true, false, false] _;refine aQ (i := 10) (by kernel_rfl) rfl rfl <| bN (an (i := 1) (c := slE _ _ _) (by kernel_rfl) rfl rfl rfl rfl (ag rfl)) ?_
      show AI _ _ _ _ _ _ #[true, true, true, true, true, true, true, true, true, true, true, false] _;refine aQ (i := 11) (by kernel_rfl) rfl rfl <| bN (an (i := 0) (c := .v _) (by kernel_rfl) rfl rfl rfl rfl (ag rfl)) ?_;show AI _ _ _ _ _ _ #[true, true, true, true, true, true, true, true, true, true, true, true] _;refine br rfl ?_;obtain rfl := ap H;exact ⟨rfl, rfl, t48, aM [0, 0, 0] rfl⟩
    ·refine aL rfl (bm (E := Enc.byte) (bytes := 1) (xs := [.const _]) (l := ([32] : List UInt8)) aa (by kernel_rfl) rfl rfl (by decide) rfl rfl) ?_;show AI _ _ _ _ _ _ #[false, true, false, true, false, false, false, true, true, false, false, false] _;refine cD (i := 0) (j := 5) (by kernel_rfl) rfl rfl rfl rfl ?_ ?_
     ·refine aL rfl (ak (i := 1) aa rfl rfl rfl rfl) ?_;show AI _ _ _ _ _ _ #[true, true, false, true, false, false, false, true, true, false, false, false] _;refine cD (i := 2) (j := 5) (by kernel_rfl) rfl rfl rfl rfl ?_ ?_
      ·refine bt rfl (bA (E := Enc.byte) (bytes := 1) 2 aa aa rfl (by kernel_rfl) rfl rfl rfl rfl g35 e37) ?_;rintro _ _ ⟨t49, rfl, rfl⟩;show AI _ _ _ _ _ _ #[true, true, true, true, false, false, false, true, true, false, false, false] _;refine cD (i := 4) (j := 5) (by kernel_rfl) rfl rfl rfl rfl ?_ ?_
       ·refine bt rfl (aY (bytes := 1) 2 aa af rfl (by kernel_rfl) rfl rfl rfl rfl g39 e41) ?_;rintro _ _ ⟨t50, rfl, rfl⟩;show AI _ _ _ _ _ _ #[true, true, true, true, true, false, false, true, true, false, false, false] _;refine cD (i := 5) (j := 10) (by kernel_rfl) rfl rfl rfl rfl ?_ ?_
        ·refine aL rfl (ak (i := 0) bc rfl rfl rfl rfl) ?_;show AI _ _ _ _ _ _ #[true, true, true, true, true, true, false, true, true, false, false, false] _;refine zk 6 rfl (bC rfl rfl g42) ?_;show AI _ _ _ _ _ _ #[true, true, true, true, true, true, true, true, true, false, false, false] _;refine zk 9 rfl (bC rfl rfl g43) ?_;show AI _ _ _ _ _ _ #[true, true, true, true, true, true, true, true, true, true, false, false] _;refine aQ (i := 10) (by kernel_rfl) rfl rfl <| bN (an (i := 1) (c := slE _ _ _) (by kernel_rfl) rfl rfl rfl rfl (ag rfl)) ?_;show AI _ _ _ _ _ _ #[true, true, true, true, true, true, true, true, true, true, true, false] _;refine aQ (i := 11) (by kernel_rfl) rfl rfl <| bN (an (i := 0) (c := .v _) (by kernel_rfl) rfl rfl rfl rfl (ag rfl)) ?_;show AI _ _ _ _ _ _ #[true, true, true, true, true, true, true, true, true, true, true, true] _;refine br rfl ?_;obtain rfl := ap H;exact ⟨rfl, rfl, t50, aM [0, 0, 0] rfl⟩
        ·refine bN (an (i := 1) (c := slE _ _ _) (by kernel_rfl) rfl rfl rfl rfl (ag rfl)) ?_;show AI _ _ _ _ _ _ #[true, true, true, true, true, false, false, true, true, false, true, false] _;refine aQ (i := 5) (by kernel_rfl) rfl rfl <| aL rfl (ak (i := 0) bc rfl rfl rfl rfl) ?_;show AI _ _ _ _ _ _ #[true, true, true, true, true, true, false, true, true, false, true, false] _;refine zk 6 rfl (bC rfl rfl g42) ?_;show AI _ _ _ _ _ _ #[true, true, true, true, true, true, true, true, true, false, true, false] _;refine zk 9 rfl (bC rfl rfl g43) ?_;show AI _ _ _ _ _ _ #[true, true, true, true, true, true, true, true, true, true, true, false] _;refine aQ (i := 11) (by kernel_rfl) rfl rfl <| bN (an (i := 0) (c := .v _) (by kernel_rfl) rfl rfl rfl rfl (ag rfl)) ?_;show AI _ _ _ _ _ _ #[true, true, true, true, true, true, true, true, true, true, true, true] _;refine br rfl ?_;obtain rfl := ap H;exact ⟨rfl, rfl, t50, aM [0, 0, 0] rfl⟩
       ·refine aL rfl (ak (i := 0) bc rfl rfl rfl rfl) ?_;show AI _ _ _ _ _ _ #[true, true, true, true, false, true, false, true, true, false, false, false] _;refine zk 6 rfl (bC rfl rfl g42) ?_;show AI _ _ _ _ _ _ #[true, true, true, true, false, true, true, true, true, false, false, false] _;refine zk 9 rfl (bC rfl rfl g43) ?_;show AI _ _ _ _ _ _ #[true, true, true, true, false, true, true, true, true, true, false, false] _;refine aQ (i := 4) (by kernel_rfl) rfl rfl <| bt rfl (aY (bytes := 1) 2 aa af rfl (by kernel_rfl) rfl rfl rfl rfl g39 e41) ?_;rintro _ _ ⟨t51, rfl, rfl⟩;show AI _ _ _ _ _ _ #[true, true, true, true, true, true, true, true, true, true, false, false] _;refine aQ (i := 10) (by kernel_rfl) rfl rfl <| bN (an (i := 1) (c := slE _ _ _) (by kernel_rfl) rfl rfl rfl rfl (ag rfl)) ?_;show AI _ _ _ _ _ _ #[true, true, true, true, true, true, true, true, true, true, true, false] _;refine aQ (i := 11) (by kernel_rfl) rfl rfl <| bN (an (i := 0) (c := .v _) (by kernel_rfl) rfl rfl rfl rfl (ag rfl)) ?_;show AI _ _ _ _ _ _ #[true, true, true, true, true, true, true, true, true, true, true, true] _;refine br rfl ?_;obtain rfl := ap H;exact ⟨rfl, rfl, t51, aM [0, 0, 0] rfl⟩
      ·refine aL rfl (ak (i := 0) bc rfl rfl rfl rfl) ?_;show AI _ _ _ _ _ _ #[true, true, false, true, false, true, false, true, true, false, false, false] _;refine zk 6 rfl (bC rfl rfl g42) ?_;show AI _ _ _ _ _ _ #[true, true, false, true, false, true, true, true, true, false, false, false] _;refine zk 9 rfl (bC rfl rfl g43) ?_;show AI _ _ _ _ _ _ #[true, true, false, true, false, true, true, true, true, true, false, false] _;refine aQ (i := 2) (by kernel_rfl) rfl rfl <| bt rfl (bA (E := Enc.byte) (bytes := 1) 2 aa aa rfl (by kernel_rfl) rfl rfl rfl rfl g35 e37) ?_;rintro _ _ ⟨t52, rfl, rfl⟩;show AI _ _ _ _ _ _ #[true, true, true, true, false, true, true, true, true, true, false, false] _;refine aQ (i := 4) (by kernel_rfl) rfl rfl <| bt rfl (aY (bytes := 1) 2 aa af rfl (by kernel_rfl) rfl rfl rfl rfl g39 e41) ?_;rintro _ _ ⟨t53, rfl, rfl⟩;show AI _ _ _ _ _ _ #[true, true, true, true, true, true, true, true, true, true, false, false] _;refine aQ (i := 10) (by kernel_rfl) rfl rfl <| bN (an (i := 1) (c := slE _ _ _) (by kernel_rfl) rfl rfl rfl rfl (ag rfl)) ?_;show AI _ _ _ _ _ _ #[true, true, true, true, true, true, true, true, true, true, true, false] _;refine aQ (i := 11) (by kernel_rfl) rfl rfl <| bN (an (i := 0) (c := .v _) (by kernel_rfl) rfl rfl rfl rfl (ag rfl)) ?_;show AI _ _ _ _ _ _ #[true, true, true, true, true, true, true, true, true, true, true, true] _
       refine br rfl ?_;obtain rfl := ap H;exact ⟨rfl, rfl, t53, aM [0, 0, 0] rfl⟩
     ·refine aL rfl (ak (i := 0) bc rfl rfl rfl rfl) ?_;show AI _ _ _ _ _ _ #[false, true, false, true, false, true, false, true, true, false, false, false] _;refine zk 6 rfl (bC rfl rfl g42) ?_;show AI _ _ _ _ _ _ #[false, true, false, true, false, true, true, true, true, false, false, false] _;refine zk 9 rfl (bC rfl rfl g43) ?_;show AI _ _ _ _ _ _ #[false, true, false, true, false, true, true, true, true, true, false, false] _;refine aQ (i := 0) (by kernel_rfl) rfl rfl <| aL rfl (ak (i := 1) aa rfl rfl rfl rfl) ?_;show AI _ _ _ _ _ _ #[true, true, false, true, false, true, true, true, true, true, false, false] _;refine aQ (i := 2) (by kernel_rfl) rfl rfl <| bt rfl (bA (E := Enc.byte) (bytes := 1) 2 aa aa rfl (by kernel_rfl) rfl rfl rfl rfl g35 e37) ?_;rintro _ _ ⟨t54, rfl, rfl⟩;show AI _ _ _ _ _ _ #[true, true, true, true, false, true, true, true, true, true, false, false] _;refine aQ (i := 4) (by kernel_rfl) rfl rfl <| bt rfl (aY (bytes := 1) 2 aa af rfl (by kernel_rfl) rfl rfl rfl rfl g39 e41) ?_;rintro _ _ ⟨t55, rfl, rfl⟩;show AI _ _ _ _ _ _ #[true, true, true, true, true, true, true, true, true, true, false, false] _;refine aQ (i := 10) (by kernel_rfl) rfl rfl <| bN (an (i := 1) (c := slE _ _ _) (by kernel_rfl) rfl rfl rfl rfl (ag rfl)) ?_;show AI _ _ _ _ _ _ #[true, true, true, true, true, true, true, true, true, true, true, false] _
      refine aQ (i := 11) (by kernel_rfl) rfl rfl <| bN (an (i := 0) (c := .v _) (by kernel_rfl) rfl rfl rfl rfl (ag rfl)) ?_;show AI _ _ _ _ _ _ #[true, true, true, true, true, true, true, true, true, true, true, true] _;refine br rfl ?_;obtain rfl := ap H;exact ⟨rfl, rfl, t55, aM [0, 0, 0] rfl⟩
    ·refine aL rfl (ak (i := 0) bc rfl rfl rfl rfl) ?_;show AI _ _ _ _ _ _ #[false, false, false, true, false, true, false, true, true, false, false, false] _;refine zk 6 rfl (bC rfl rfl g42) ?_;show AI _ _ _ _ _ _ #[false, false, false, true, false, true, true, true, true, false, false, false] _;refine zk 9 rfl (bC rfl rfl g43) ?_;show AI _ _ _ _ _ _ #[false, false, false, true, false, true, true, true, true, true, false, false] _;refine cD (i := 0) (j := 1) (by kernel_rfl) rfl rfl rfl rfl ?_ ?_
     ·refine aL rfl (ak (i := 1) aa rfl rfl rfl rfl) ?_;show AI _ _ _ _ _ _ #[true, false, false, true, false, true, true, true, true, true, false, false] _;refine aQ (i := 1) (by kernel_rfl) rfl rfl <| aL rfl (bm (E := Enc.byte) (bytes := 1) (xs := [.const _]) (l := ([32] : List UInt8)) aa (by kernel_rfl) rfl rfl (by decide) rfl rfl) ?_;show AI _ _ _ _ _ _ #[true, true, false, true, false, true, true, true, true, true, false, false] _;refine aQ (i := 2) (by kernel_rfl) rfl rfl <| bt rfl (bA (E := Enc.byte) (bytes := 1) 2 aa aa rfl (by kernel_rfl) rfl rfl rfl rfl g35 e37) ?_;rintro _ _ ⟨t56, rfl, rfl⟩;show AI _ _ _ _ _ _ #[true, true, true, true, false, true, true, true, true, true, false, false] _;refine aQ (i := 4) (by kernel_rfl) rfl rfl <| bt rfl (aY (bytes := 1) 2 aa af rfl (by kernel_rfl) rfl rfl rfl rfl g39 e41) ?_;rintro _ _ ⟨t57, rfl, rfl⟩;show AI _ _ _ _ _ _ #[true, true, true, true, true, true, true, true, true, true, false, false] _;refine aQ (i := 10) (by kernel_rfl) rfl rfl <| bN (an (i := 1) (c := slE _ _ _) (by kernel_rfl) rfl rfl rfl rfl (ag rfl)) ?_;show AI _ _ _ _ _ _ #[true, true, true, true, true, true, true, true, true, true, true, false] _;refine aQ (i := 11) (by kernel_rfl) rfl rfl <| bN (an (i := 0) (c := .v _) (by kernel_rfl) rfl rfl rfl rfl (ag rfl)) ?_
      show AI _ _ _ _ _ _ #[true, true, true, true, true, true, true, true, true, true, true, true] _;refine br rfl ?_;obtain rfl := ap H;exact ⟨rfl, rfl, t57, aM [0, 0, 0] rfl⟩
     ·refine aL rfl (bm (E := Enc.byte) (bytes := 1) (xs := [.const _]) (l := ([32] : List UInt8)) aa (by kernel_rfl) rfl rfl (by decide) rfl rfl) ?_;show AI _ _ _ _ _ _ #[false, true, false, true, false, true, true, true, true, true, false, false] _;refine aQ (i := 0) (by kernel_rfl) rfl rfl <| aL rfl (ak (i := 1) aa rfl rfl rfl rfl) ?_;show AI _ _ _ _ _ _ #[true, true, false, true, false, true, true, true, true, true, false, false] _;refine aQ (i := 2) (by kernel_rfl) rfl rfl <| bt rfl (bA (E := Enc.byte) (bytes := 1) 2 aa aa rfl (by kernel_rfl) rfl rfl rfl rfl g35 e37) ?_;rintro _ _ ⟨t58, rfl, rfl⟩;show AI _ _ _ _ _ _ #[true, true, true, true, false, true, true, true, true, true, false, false] _;refine aQ (i := 4) (by kernel_rfl) rfl rfl <| bt rfl (aY (bytes := 1) 2 aa af rfl (by kernel_rfl) rfl rfl rfl rfl g39 e41) ?_;rintro _ _ ⟨t59, rfl, rfl⟩;show AI _ _ _ _ _ _ #[true, true, true, true, true, true, true, true, true, true, false, false] _;refine aQ (i := 10) (by kernel_rfl) rfl rfl <| bN (an (i := 1) (c := slE _ _ _) (by kernel_rfl) rfl rfl rfl rfl (ag rfl)) ?_;show AI _ _ _ _ _ _ #[true, true, true, true, true, true, true, true, true, true, true, false] _;refine aQ (i := 11) (by kernel_rfl) rfl rfl <| bN (an (i := 0) (c := .v _) (by kernel_rfl) rfl rfl rfl rfl (ag rfl)) ?_
      show AI _ _ _ _ _ _ #[true, true, true, true, true, true, true, true, true, true, true, true] _;refine br rfl ?_;obtain rfl := ap H;exact ⟨rfl, rfl, t59, aM [0, 0, 0] rfl⟩
   rintro o64 t63;exact Exists.intro (o64, x60.2, t63) ⟨H, ba [3, 3, 0] (.cons (.refl _) (.nil _)) rfl⟩
  rintro ⟨t65, y66, t67⟩ H;replace H : fg y66 = some (r3, r4) := H
  unfold fg at H
  refine ah ?_;obtain ⟨g70, H⟩ := aF H;obtain ⟨x71, e72, H⟩ := bi H;refine ab ?_;show AR _ _ _ _ _ [0, 1, 2, 3] _;refine zR rfl (ak (i := 0) aa rfl rfl rfl rfl) <| zX rfl (aY (bytes := 1) 1 aa af rfl (by kernel_rfl) rfl rfl rfl rfl g70 e72) ?_;rintro _ _ ⟨t69, rfl, rfl⟩;refine zS rfl (ao (av := slE _ _ _) rfl) <| za rfl <| ai <| aP ?_;obtain ⟨rfl, rfl⟩ := gk H;exact Exists.intro _ (And.intro (Unmark.at 2 rfl (.nil _)) (Exists.intro _ (Exists.intro _ ⟨bR rfl (.tok _ _ _) (.refl _), aM [] rfl, rfl, rfl⟩)))
end Go.Proofs.YtdaafnaokdigbaaGreatDoor
namespace Go.Pv
def spB (x : Nat) : Bool := (decide ((x : Int) = 32) || decide ((x : Int) = 13)) || decide ((x : Int) = 10)
def oM (F : Nat) (a1 : Int) : Option Bool :=
some (((decide (a1 = 32)) || (decide (a1 = 13))) || (decide (a1 = 10)))
def jR (F : Nat) (a1 : List UInt8) : Option ((List UInt8) × Bool) :=
lt (Go.Lib.trimPrefix a1 ([61, 63, 117, 116, 102, 45, 56, 63, 66, 63] : List UInt8), Go.Lib.hasPrefix a1 ([61, 63, 117, 116, 102, 45, 56, 63, 66, 63] : List UInt8)) fun x4 =>
bif !x4.2 then
  some (([] : List UInt8), false)
else
  grd (okS x4.1.length) <|
  lt (Go.Lib.trimSuffix x4.1 ([63, 61] : List UInt8), Go.Lib.hasSuffix x4.1 ([63, 61] : List UInt8)) fun x8 =>
  jX (kz F x8.1) fun x10 x11 =>
  some (x10, x8.2 && (decide (x11 = 0)))
def fw (y29 : List UInt8) : Option ((List UInt8)) :=
grd (okW y29 []) <|
some y29
def gQ (F : Nat) (a1 : List (List UInt8)) (rec10 : (Int × (List UInt8)) → Option ((List UInt8))) (y6 : Int) (y8 : List UInt8) : Option ((List UInt8)) :=
bif decide (y6 < (a1.length : Int)) then
  grd (cE y6 a1.length) <|
  lt (at_ a1 y6) fun x14 =>
  jX (jR F x14) fun x16 x17 =>
  bif !x17 then
    grd (okJoin a1 ([32] : List UInt8)) <|
    lt (Go.Av.Str.join ([32] : List UInt8) a1) fun x21 =>
    some x21
  else
    grd (okW y8 x16) <|
    lt (y8 ++ x16) fun x24 =>
    grd (okI (y6 + 1)) <|
    rec10 (y6 + 1, x24)
else
  fw y8
def gP (F : Nat) (a1 : List (List UInt8)) (n : Nat) : (Int × (List UInt8)) → Option ((List UInt8)) :=
  loop (fun rec x => gQ F a1 rec x.1 x.2) n
def jO (F : Nat) (a1 : List (List UInt8)) : Option ((List UInt8)) :=
gP F a1 F (0, [])
def ky (F : Nat) (a1 : List UInt8) : Option ((List UInt8) × (List UInt8) × Int) :=
grd (okS a1.length) <|
lt (Go.Lib.cut a1 ([58] : List UInt8)) fun x8 =>
grd (okS x8.2.1.length) <|
lt (qI spB x8.2.1) fun x11 =>
bnd (jO F x11) fun x13 =>
jX (eI F x8.1 x13) fun x16 x17 =>
lt (decide (x16 = a1)) fun x21 =>
bif ((!x8.2.2) || (!decide (x17 = 0))) || (!x21) then
  some (([] : List UInt8), ([] : List UInt8), 2)
else
  some (x8.1, x13, 0)
def fA (y26 : List ((List UInt8) × List UInt8)) : Option ((List ((List UInt8) × List UInt8)) × Int) :=
some (y26, 0)
def gX (F : Nat) (a1 : List (List UInt8)) (rec9 : ((List ((List UInt8) × List UInt8)) × Int) → Option ((List ((List UInt8) × List UInt8)) × Int)) (y6 : List ((List UInt8) × List UInt8)) (y8 : Int) : Option ((List ((List UInt8) × List UInt8)) × Int) :=
bif decide (y8 < (a1.length : Int)) then
  grd (cE y8 a1.length) <|
  lt (at_ a1 y8) fun x13 =>
  mC (ky F x13) fun x15 x16 x17 =>
  bif !decide (x17 = 0) then
    some ([], x17)
  else
    grd (bw (y6.length + ([(x15, x16)] : List ((List UInt8) × List UInt8)).length)) <|
    lt (y6 ++ ([(x15, x16)] : List ((List UInt8) × List UInt8))) fun x23 =>
    grd (okI (y8 + 1)) <|
    rec9 (x23, y8 + 1)
else
  fA y6
def gW (F : Nat) (a1 : List (List UInt8)) (n : Nat) : ((List ((List UInt8) × List UInt8)) × Int) → Option ((List ((List UInt8) × List UInt8)) × Int) :=
  loop (fun rec x => gX F a1 rec x.1 x.2) n
def jQ (F : Nat) (a1 : List (List UInt8)) : Option ((List ((List UInt8) × List UInt8)) × Int) :=
gW F a1 F ([], 0)
def et (y25 : List (List UInt8)) : Option ((List (List UInt8)) × Int) :=
some (y25, 0)
def ew (F : Nat) (a1 : List ((List UInt8) × List UInt8)) (rec9 : ((List (List UInt8)) × Int) → Option ((List (List UInt8)) × Int)) (y6 : List (List UInt8)) (y8 : Int) : Option ((List (List UInt8)) × Int) :=
bif decide (y8 < (a1.length : Int)) then
  grd (cE y8 a1.length) <|
  lt (at_ a1 y8) fun x13 =>
  jX (eI F x13.1 x13.2) fun x16 x17 =>
  bif !decide (x17 = 0) then
    some ([], x17)
  else
    grd (bw (y6.length + ([x16] : List (List UInt8)).length)) <|
    lt (y6 ++ ([x16] : List (List UInt8))) fun x22 =>
    grd (okI (y8 + 1)) <|
    rec9 (x22, y8 + 1)
else
  et y6
def eu (F : Nat) (a1 : List ((List UInt8) × List UInt8)) (n : Nat) : ((List (List UInt8)) × Int) → Option ((List (List UInt8)) × Int) :=
  loop (fun rec x => ew F a1 rec x.1 x.2) n
def iD (F : Nat) (a1 : List ((List UInt8) × List UInt8)) : Option ((List (List UInt8)) × Int) :=
eu F a1 F ([], 0)
def ik (F : Nat) (a1 : List ((List UInt8) × List UInt8)) : Option ((List UInt8) × Int) :=
bif decide (50 < (a1.length : Int)) then
  some ([], 4)
else
  jX (iD F a1) fun x6 x7 =>
  bif !decide (x7 = 0) then
    some ([], x7)
  else
    grd (jt x6) <|
    lt (List.flatten x6) fun x11 =>
    grd (bw (x11.length + ([13, 10] : List UInt8).length)) <|
    lt (x11 ++ ([13, 10] : List UInt8)) fun x16 =>
    some (x16, 0)
def fy (y50 : List UInt8) (y51 : List (List UInt8)) : Option ((List (List UInt8)) × (List UInt8) × Bool) :=
grd (fP 2 y50.length) <|
lt (hZ y50 2) fun x55 =>
some (y51, x55, decide ((y51.length : Int) ≤ 50))
def fx (y7 : List UInt8) (y8 : List (List UInt8)) (rec10 : ((List UInt8) × (List (List UInt8))) → Option ((List (List UInt8)) × (List UInt8) × Bool)) (y38 : Int) : Option ((List (List UInt8)) × (List UInt8) × Bool) :=
grd (fP y38 y7.length) <|
lt (to_ y7 y38) fun x41 =>
grd (fP y38 y7.length) <|
lt (hZ y7 y38) fun x44 =>
grd (bw (y8.length + ([x41] : List (List UInt8)).length)) <|
lt (y8 ++ ([x41] : List (List UInt8))) fun x48 =>
rec10 (x44, x48)
def gV (y7 : List UInt8) (y8 : List (List UInt8)) (rec10 : ((List UInt8) × (List (List UInt8))) → Option ((List (List UInt8)) × (List UInt8) × Bool)) (rec17 : Int → Option ((List (List UInt8)) × (List UInt8) × Bool)) (y16 : Int) : Option ((List (List UInt8)) × (List UInt8) × Bool) :=
gt ((!(decide (y16 = 0))) && (decide (y16 < (y7.length : Int)))) (cE y16 y7.length) <|
lt (at_ y7 y16) fun x22 =>
bif (decide (y16 = 0)) || ((decide (y16 < (y7.length : Int))) && (decide (x22 = 32))) then
  grd (fP y16 y7.length) <|
  lt (hZ y7 y16) fun x26 =>
  grd (okS x26.length) <|
  grd (decide (2 ≤ ([13, 10] : List UInt8).length)) <|
  grd (okS ([13, 10] : List UInt8).length) <|
  lt (Go.Lib.index x26 ([13, 10] : List UInt8)) fun x32 =>
  bif decide (x32 < 0) then
    some ([], [], false)
  else
    grd (okI (x32 + 2)) <|
    grd (okI (y16 + (x32 + 2))) <|
    rec17 (y16 + (x32 + 2))
else
  fx y7 y8 rec10 y16
def gR (y7 : List UInt8) (y8 : List (List UInt8)) (rec10 : ((List UInt8) × (List (List UInt8))) → Option ((List (List UInt8)) × (List UInt8) × Bool)) (n : Nat) : Int → Option ((List (List UInt8)) × (List UInt8) × Bool) :=
  loop (fun rec x => gV y7 y8 rec10 rec x) n
def gS (F : Nat) (rec10 : ((List UInt8) × (List (List UInt8))) → Option ((List (List UInt8)) × (List UInt8) × Bool)) (y7 : List UInt8) (y8 : List (List UInt8)) : Option ((List (List UInt8)) × (List UInt8) × Bool) :=
lt (Go.Lib.hasPrefix y7 ([13, 10] : List UInt8)) fun x13 =>
bif !x13 then
  gR y7 y8 rec10 F 0
else
  fy y7 y8
def cA (F : Nat) (n : Nat) : ((List UInt8) × (List (List UInt8))) → Option ((List (List UInt8)) × (List UInt8) × Bool) :=
  loop (fun rec x => gS F rec x.1 x.2) n
def jP (F : Nat) (a1 : List UInt8) : Option ((List (List UInt8)) × (List UInt8) × Bool) :=
cA F F (a1, [])
def lN (F : Nat) (a1 : List UInt8) : Option ((List ((List UInt8) × List UInt8)) × (List UInt8) × Int) :=
mC (jP F a1) fun x6 x7 x8 =>
bif !x8 then
  some ([], [], 2)
else
  jX (jQ F x6) fun x11 x12 =>
  bif !decide (x12 = 0) then
    some ([], [], 2)
  else
    grd (okS x7.length) <|
    lt x7 fun x16 =>
    some (x11, x16, 0)
end Go.Pv
namespace Go.Proofs.YtdaafnaokdigbaaGreatDoor
open Go.RowKit Go.Av Go.Pv
theorem pT : ∀ (args : Array Value) (w : World), (callFunc 34 args).run Tryz.prog w = .ok (.enter 34 args) w := fun _ _ => by kernel_rfl
theorem pQ : ∀ (args : Array Value) (w : World), (callFunc 36 args).run Tryz.prog w = .ok (.enter 36 args) w := fun _ _ => by kernel_rfl
theorem pF : ∀ (args : Array Value) (w : World), (callFunc 50 args).run Tryz.prog w = .ok (.enter 50 args) w := fun _ _ => by kernel_rfl
theorem pC : ∀ (args : Array Value) (w : World), (callFunc 68 args).run Tryz.prog w = .ok (.enter 68 args) w := fun _ _ => by kernel_rfl
theorem lG : ∀ (args : Array Value) (w : World), (callFunc 69 args).run Tryz.prog w = .ok (.enter 69 args) w := fun _ _ => by kernel_rfl
theorem pB : ∀ (args : Array Value) (w : World), (callFunc 70 args).run Tryz.prog w = .ok (.enter 70 args) w := fun _ _ => by kernel_rfl
theorem pA : ∀ (args : Array Value) (w : World), (callFunc 75 args).run Tryz.prog w = .ok (.enter 75 args) w := fun _ _ => by kernel_rfl
theorem pz : ∀ (args : Array Value) (w : World), (callFunc 76 args).run Tryz.prog w = .ok (.enter 76 args) w := fun _ _ => by kernel_rfl
theorem py : ∀ (args : Array Value) (w : World), (callFunc 77 args).run Tryz.prog w = .ok (.enter 77 args) w := fun _ _ => by kernel_rfl
theorem px : ∀ (args : Array Value) (w : World), (callFunc 78 args).run Tryz.prog w = .ok (.enter 78 args) w := fun _ _ => by kernel_rfl
theorem pu : ∀ (args : Array Value) (w : World), (callFunc 98 args).run Tryz.prog w = .ok (.enter 98 args) w := fun _ _ => by kernel_rfl
theorem pr : ∀ (args : Array Value) (w : World), (callFunc 99 args).run Tryz.prog w = .ok (.enter 99 args) w := fun _ _ => by kernel_rfl
theorem oB : ∀ (args : Array Value) (w : World), (callFunc 100 args).run Tryz.prog w = .ok (.enter 100 args) w := fun _ _ => by kernel_rfl
theorem oA : ∀ (args : Array Value) (w : World), (callFunc 101 args).run Tryz.prog w = .ok (.enter 101 args) w := fun _ _ => by kernel_rfl
theorem ot : ∀ (args : Array Value) (w : World), (callFunc 125 args).run Tryz.prog w = .ok (.enter 125 args) w := fun _ _ => by kernel_rfl
theorem oq : ∀ (args : Array Value) (w : World), (callFunc 126 args).run Tryz.prog w = .ok (.enter 126 args) w := fun _ _ => by kernel_rfl
theorem oo : ∀ (args : Array Value) (w : World), (callFunc 127 args).run Tryz.prog w = .ok (.enter 127 args) w := fun _ _ => by kernel_rfl
theorem om : ∀ (args : Array Value) (w : World), (callFunc 128 args).run Tryz.prog w = .ok (.enter 128 args) w := fun _ _ => by kernel_rfl
theorem og : ∀ (args : Array Value) (w : World), (callFunc 139 args).run Tryz.prog w = .ok (.enter 139 args) w := fun _ _ => by kernel_rfl
theorem oe : ∀ (args : Array Value) (w : World), (callFunc 140 args).run Tryz.prog w = .ok (.enter 140 args) w := fun _ _ => by kernel_rfl
theorem od : ∀ (args : Array Value) (w : World), (callFunc 141 args).run Tryz.prog w = .ok (.enter 141 args) w := fun _ _ => by kernel_rfl
set_option maxRecDepth 100000 in
set_option maxHeartbeats 1000000 in
theorem oY (F : Nat) (a1 : Int) (r2 : Bool) (H : oM F a1 = some r2) : ACalls Tryz.prog 100 [.v (.int .i32 a1)] [] (Ret (B r2) []) := by
 unfold oM at H
 refine ax Tryz.func100 rfl rfl ?_;show AW _ _ 13 _ _ _;refine ah <| ab ?_;show AR _ _ _ _ _ [0] _;refine za rfl <| ai <| ah <| ab ?_;show AR _ _ _ _ _ [0, 1, 2, 3, 4, 5, 6, 7, 8, 9, 10] _;refine zm rfl <| zS rfl (dv rfl rfl) <| zm rfl <| aZ (l := [6, 7, 8, 9, 10]) 8 (B ((decide (a1 = 32)) || (decide (a1 = 13)))) (fun K => ?_) ?_
 ·rcases aj (decide (a1 = 32)) with h3 | h3
  ·refine zF h3 rfl <| zF h3 rfl <| zS rfl (aC (av := .v _) rfl h3 rfl) ?_;exact K _ 2 _ (ay (fE h3)) rfl rfl
  ·refine zM h3 rfl <| zU h3 rfl (dv rfl rfl) <| zS rfl (aD (av := .v _) rfl h3 rfl) ?_;exact K _ 2 _ (ay (fF h3)) rfl rfl
 refine zm rfl <| aZ (l := [10]) 12 (B (((decide (a1 = 32)) || (decide (a1 = 13))) || (decide (a1 = 10)))) (fun K => ?_) ?_
 ·rcases aj ((decide (a1 = 32)) || (decide (a1 = 13))) with h4 | h4
  ·refine zF h4 rfl <| zF h4 rfl <| zS rfl (aC (av := .v _) rfl h4 rfl) ?_;exact K _ 2 _ (ay (fE h4)) rfl rfl
  ·refine zM h4 rfl <| zU h4 rfl (dv rfl rfl) <| zS rfl (aD (av := .v _) rfl h4 rfl) ?_;exact K _ 2 _ (ay (fF h4)) rfl rfl
 refine za rfl <| ai <| aP ?_;obtain rfl := ap H;exact And.intro rfl (Exists.intro _ (Exists.intro _ ⟨aR rfl (.refl _), aM [] rfl, rfl, rfl⟩))
theorem head_sp (x : Nat) (hx : x ≤ 1114111) : ACalls Tryz.prog 100 [.v (.int .i32 (x : Int))] [] (Ret (.v (.bool (spB x))) []) := oY 0 (x : Int) (spB x) rfl
set_option maxRecDepth 100000 in
set_option maxHeartbeats 1000000 in
theorem nb (F : Nat) (a1 : List UInt8) (r2 : List UInt8) (r3 : Bool) (H : jR F a1 = some (r2, r3)) : ACalls Tryz.prog 125 [S a1] [] (Ret (.tup [S r2, B r3]) []) := by
 unfold jR at H
 refine ax Tryz.func125 rfl rfl ?_;show AW _ _ 32 _ _ _;refine ah <| ab ?_;show AR _ _ _ _ _ [0, 1] _;refine za rfl <| za rfl <| ai <| ah ?_;obtain ⟨x4, e5, H⟩ := bi H;refine ab ?_;show AR _ _ _ _ _ [0, 1, 2, 3, 4, 5, 6] _;refine zm rfl <| am rfl rfl (aN rfl og rfl (show ACalls _ _ _ [] (Ret (.tup [S x4.1, B x4.2]) []) from by subst e5; exact mu a1 ([61, 63, 117, 116, 102, 45, 56, 63, 66, 63] : List UInt8)) ?_);refine zS rfl (ac (av := .tup _) rfl) <| zS rfl (aE (av := .v _) rfl rfl) <| zS rfl (aE (av := .v _) rfl rfl) <| za rfl <| za rfl <| ai <| ah <| ah <| ab ?_;show AR _ _ _ _ _ [0, 1] _;refine zm rfl <| zS rfl (ck rfl) <| ai <| aH rfl (fun c6 => ?_) (fun c6 => ?_)
 ·replace H := bk c6 H;refine ah <| ab ?_;show AR _ _ _ _ _ [0, 1] _;refine za rfl <| za rfl <| ai <| aP ?_;obtain ⟨rfl, rfl⟩ := gk H;exact And.intro rfl (Exists.intro _ (Exists.intro _ ⟨bR rfl (.refl _) (.refl _), aM [] rfl, rfl, rfl⟩))
 ·replace H := bl c6 H;refine aJ <| ah ?_;obtain ⟨g7, H⟩ := aF H;obtain ⟨x8, e9, H⟩ := bi H;refine ab ?_;show AR _ _ _ _ _ [0, 1, 2, 3, 4, 5, 6] _;refine zm rfl <| am rfl rfl (aN rfl oe rfl (show ACalls _ _ _ [] (Ret (.tup [S x8.1, B x8.2]) []) from by subst e9; exact mt x4.1 ([63, 61] : List UInt8) (gl g7)) ?_);refine zS rfl (ac (av := .tup _) rfl) <| zS rfl (aE (av := .v _) rfl rfl) <| zS rfl (aE (av := .v _) rfl rfl) <| za rfl <| za rfl <| ai <| ah ?_;obtain ⟨x10, x11, e12, H⟩ := fm H;refine ab ?_;show AR _ _ _ _ _ [0, 1, 2, 3, 4, 5, 6] _;refine zm rfl <| am rfl rfl (aN rfl od rfl (nS F x8.1 x10 x11 e12) ?_);refine zS rfl (ac (av := .tup _) rfl) <| zS rfl (aE (av := slE _ _ _) rfl rfl) <| zS rfl (aE (av := .v _) rfl rfl) <| zS rfl (ao (av := slE _ _ _) rfl) <| za rfl <| ai <| ah <| ab ?_;show AR _ _ _ _ _ [0, 1, 2, 3, 4, 5, 6, 7, 8] _;refine zS rfl (ac (av := slE _ _ _) rfl) <| zS rfl (bD aa aB af rfl) <| zm rfl <| zm rfl <| aZ (l := [7, 8]) 31 (B (x8.2 && (decide (x11 = 0)))) (fun K => ?_) ?_
  ·rcases aj x8.2 with h13 | h13
   ·refine zM h13 rfl <| zU h13 rfl (dv rfl rfl) <| zS rfl (aC (av := .v _) rfl h13 rfl) ?_;exact K _ 2 _ (ay (cH h13)) rfl rfl
   ·refine zF h13 rfl <| zF h13 rfl <| zS rfl (aD (av := .v _) rfl h13 rfl) ?_;exact K _ 2 _ (ay (cI h13)) rfl rfl
  refine za rfl <| za rfl <| ai <| aP ?_;obtain ⟨rfl, rfl⟩ := gk H;exact And.intro rfl (Exists.intro _ (Exists.intro _ ⟨bR rfl (.refl _) (.refl _), aM [] rfl, rfl, rfl⟩))
set_option maxRecDepth 100000 in
set_option maxHeartbeats 1000000 in
theorem mU (F : Nat) (a1 : List (List UInt8)) (q2 : Option Nat) (r3 : List UInt8) (H : jO F a1 = some r3) : ACalls Tryz.prog 101 [slE Enc.str a1 q2] [] (Ret (S r3) []) := by
 unfold jO at H
 refine ax Tryz.func101 rfl rfl ?_;show AW _ _ 27 _ _ _;refine ah <| ab ?_;show AR _ _ _ _ _ [0] _;refine za rfl <| ai <| ah <| ab ?_;show AR _ _ _ _ _ [0] _;refine zX rfl (jN (zs := [(.pointer none), .slice none 0 0]) (by kernel_rfl)) ?_;rintro _ _ ⟨o4, rfl, rfl⟩;refine ai ?_
 refine fV 0 1 1 5 rfl rfl fun t5 => ?_
 show AW _ _ _ _ _ ⟨_, _, [.tok t5 5, .obj o4 [.v (.pointer none), slE Enc.byte [] (some t5)], .ty o4 142]⟩;refine bP (X := AV × (List UInt8) × Nat) (fun (t28, y29, t30) => ⟨[(3, .pt o4 0)], [], [.obj o4 [t28, slE Enc.byte y29 (some t30)], .ty o4 142, .tok t30 5]⟩) (fun (t28, y29, t30) => fw y29 = some r3 ∧ (t28 = .v (.pointer none) ∨ t28 = .pt o4 0)) ?_ ?_
 ·refine ah <| ab ?_;show AR _ _ _ _ _ [0, 1, 2] _;refine zS rfl (ac (av := slE _ _ _) rfl) <| zS rfl (aG ar rfl) <| zm rfl <| ai <| aO <| bZ (X := Nat × Int × AV × (List UInt8) × Nat) (fun (n11, y6, t7, y8, t9) => ⟨[(0, slE Enc.str a1 q2), (3, .pt o4 0), (8, slE Enc.str a1 q2), (9, i64 (a1.length : Int)), (10, i64 y6)], [], [.obj o4 [t7, slE Enc.byte y8 (some t9)], .ty o4 142, .tok t9 5]⟩) (fun (n11, y6, t7, y8, t9) => gP F a1 n11 (y6, y8) = some r3 ∧ (t7 = .v (.pointer none) ∨ t7 = .pt o4 0)) (fun (n11, y6, t7, y8, t9) => n11) (F, 0, (.v (.pointer none)), [], t5) ⟨H, .inl rfl⟩ (ba [1, 1, 0] (.cons (.refl _) (.cons (.refl _) (.cons (.refl _) (.cons (.refl _) (.cons (.refl _) (.nil _)))))) rfl) ?_;rintro ⟨n11, y6, t7, y8, t9⟩ ⟨H, ht7⟩;obtain ⟨n11, rfl, H⟩ := cB H;replace H : gQ F a1 (gP F a1 n11) y6 y8 = some r3 := H
  unfold gQ at H
  refine ah <| ab ?_;show AR _ _ _ _ _ [0] _;refine zS rfl (bI rfl rfl) <| ai <| ah <| aH rfl (fun c12 => ?_) (fun c12 => ?_)
  ·replace H := bk c12 H;refine aJ <| ah <| aO <| ah ?_;obtain ⟨g13, H⟩ := aF H;obtain ⟨x14, e15, H⟩ := bi H;refine ab ?_;show AR _ _ _ _ _ [0, 1, 2] _;refine zS rfl (bn (E := Enc.str) ar (by kernel_rfl) rfl rfl g13 e15) <| zS rfl (aU af rfl rfl) <| za rfl <| ai <| ah ?_;obtain ⟨x16, x17, e18, H⟩ := fm H;refine ab ?_;show AR _ _ _ _ _ [0, 1, 2, 3, 4, 5, 6] _;refine zm rfl <| am rfl rfl (aN rfl ot rfl (nb F x14 x16 x17 e18) ?_);refine zS rfl (ac (av := .tup _) rfl) <| zS rfl (aE (av := .v _) rfl rfl) <| zS rfl (aE (av := .v _) rfl rfl) <| za rfl <| za rfl <| ai <| ah <| ah <| ab ?_;show AR _ _ _ _ _ [0, 1] _;refine zm rfl <| zS rfl (ck rfl) <| ai <| aH rfl (fun c19 => ?_) (fun c19 => ?_)
   ·replace H := bk c19 H;refine ah ?_;obtain ⟨g20, H⟩ := aF H;obtain ⟨x21, e22, H⟩ := bi H;refine ab ?_;show AR _ _ _ _ _ [0, 1, 2] _;refine zS rfl (ac (av := slE _ _ _) rfl) <| am rfl rfl (aN rfl oq rfl (show ACalls _ _ _ [] (Ret (S x21) []) from by subst e22; exact nd a1 ([32] : List UInt8) q2 (oL g20).1 (oL g20).2) ?_);refine za rfl <| ai <| aP ?_;obtain rfl := ap H;exact And.intro rfl (Exists.intro _ (Exists.intro _ ⟨aR rfl (.refl _), aM [] rfl, rfl, rfl⟩))
   ·replace H := bl c19 H;refine aJ ?_;obtain ⟨g23, H⟩ := aF H;obtain ⟨x24, e25, H⟩ := bi H;refine ab ?_;show AR _ _ _ _ _ [0, 1] _;refine zm rfl <| am rfl rfl (AO.callAt [0, 0, 0] rfl oo rfl (cN  o4 (t7) ht7 y8 x16 t9 (okW_s g23)) rfl (fun c A' h => by cases h.1) ?_)
    rintro av A' ⟨h, t26, rfl⟩; cases h
    rw [e25]
    refine ai ?_;obtain ⟨g27, H⟩ := aF H;refine ab ?_;show AR _ _ _ _ _ [0, 1] _;refine zS rfl (bC rfl rfl g27) <| zm rfl <| ai ?_;exact Exists.intro (n11, y6 + 1, (.pt o4 0), x24, t26) ⟨⟨H, .inr rfl⟩, Nat.lt_succ_self _, ba [0, 0, 0] (.cons (.refl _) (.cons (.refl _) (.cons (.refl _) (.cons (.refl _) (.cons (.refl _) (.nil _)))))) rfl⟩
  ·replace H := bl c12 H;refine bQ ?_;exact Exists.intro (t7, y8, t9) ⟨⟨H, ht7⟩, ba [0, 0, 0] (.cons (.refl _) (.nil _)) rfl⟩
 rintro ⟨t28, y29, t30⟩ ⟨H, ht28⟩;replace H : fw y29 = some r3 := H
 unfold fw at H
 refine ah ?_;obtain ⟨g32, H⟩ := aF H;refine ab ?_;show AR _ _ _ _ _ [0, 1] _;refine am rfl rfl (AO.callAt [0, 1] rfl om rfl (fO  o4 (t28) y29 t30 (okW0_s g32)) rfl (fun c A' h => by cases h.1) ?_)
 rintro av A' ⟨h, rfl⟩; cases h
 refine za rfl <| ai <| aP ?_;obtain rfl := ap H;exact And.intro rfl (Exists.intro _ (Exists.intro _ ⟨aR rfl (.refl _), aM [] rfl, rfl, rfl⟩))
abbrev _root_.Go.Av.cw := @Tryz.underlying71
set_option maxRecDepth 100000 in
set_option maxHeartbeats 1000000 in
theorem nQ (F : Nat) (a1 : List UInt8) (q2 : Option Nat) (r3 : List UInt8) (r4 : List UInt8) (r5 : Int) (H : ky F a1 = some (r3, r4, r5)) : ACalls Tryz.prog 77 [slE Enc.byte a1 q2] [] (Ret (.tup [.agg [S r3, S r4], i64 r5]) []) := by
 unfold ky at H
 refine ax Tryz.func77 rfl rfl ?_;show AW _ _ 43 _ _ _;refine ah <| ab ?_;show AR _ _ _ _ _ [0, 1] _;refine zX rfl (dd (zs := [.string ⟨#[]⟩, .string ⟨#[]⟩]) (by kernel_rfl)) ?_;rintro _ _ ⟨o6, rfl, rfl⟩;refine za rfl <| ai <| ah ?_;obtain ⟨g7, H⟩ := aF H;obtain ⟨x8, e9, H⟩ := bi H;refine ab ?_;show AR _ _ _ _ _ [0, 1, 2, 3, 4, 5, 6, 7, 8, 9] _;refine zS rfl (ac (av := slE _ _ _) rfl) <| zS rfl (bD aa aB af rfl) <| am rfl rfl (aN rfl pu rfl (show ACalls _ _ _ [] (Ret (.tup [S x8.1, S x8.2.1, B x8.2.2]) []) from by subst e9; exact lib_Cut a1 ([58] : List UInt8) (gl g7)) ?_);refine zS rfl (ac (av := .tup _) rfl) <| zS rfl (aE (av := .v _) rfl rfl) <| zS rfl (aE (av := .v _) rfl rfl) <| zS rfl (aE (av := .v _) rfl rfl) <| za rfl <| za rfl <| za rfl <| ai <| ah ?_;obtain ⟨g10, H⟩ := aF H;obtain ⟨x11, e12, H⟩ := bi H;refine ab ?_;show AR _ _ _ _ _ [0, 1, 2] _;refine zm rfl <| am rfl rfl (aN rfl pr rfl (show ACalls _ _ _ [] (Ret (slE Enc.str x11 none) []) from by subst e12; exact lk 100 spB x8.2.1 oB head_sp (gl g10)) ?_);refine zS rfl (ao (av := slE _ _ _) rfl) <| ai <| ah ?_;obtain ⟨x13, e14, H⟩ := dz H;refine ab ?_;show AR _ _ _ _ _ [0, 1, 2, 3, 4, 5] _;refine zm rfl <| zS rfl (ac (av := slE _ _ _) rfl) <| am rfl rfl (aN rfl oA rfl (mU F x11 none x13 e14) ?_)
 refine zS rfl (jx (zs := [.string ⟨#[]⟩, .string ⟨#[]⟩]) (ps := [(0, 1), (1, 1)]) (cs := [S x8.1, S x13]) (by kernel_rfl) rfl rfl) <| zX rfl (dd (zs := [.string ⟨#[]⟩, .string ⟨#[]⟩]) (by kernel_rfl)) ?_;rintro _ _ ⟨o15, rfl, rfl⟩;refine s0 rfl rfl (cP (i := 0) (vs := [S x8.1, S x13]) (by kernel_rfl) rfl rfl (by simp [cc, slE]) rfl (ag rfl)) <| AR.freezeCp 8 0 rfl rfl ?_;show AR _ _ _ _ _ _ ⟨_, _, [.obj o6 [S ([] : List UInt8), S ([] : List UInt8)]]⟩;refine ai <| ah <| ah ?_;obtain ⟨x16, x17, e18, H⟩ := fm H;refine ab ?_;show AR _ _ _ _ _ [0, 1, 2, 3, 4, 5, 6] _;refine zS rfl (du cw rfl (n := 2) (by kernel_rfl) rfl (ag rfl)) <| am rfl rfl (aN rfl lG rfl (kE F x8.1 x13 x16 x17 e18) ?_);refine zS rfl (ac (av := .tup _) rfl) <| zS rfl (aE (av := slE _ _ _) rfl rfl) <| zS rfl (aE (av := .v _) rfl rfl) <| zS rfl (ao (av := slE _ _ _) rfl) <| za rfl <| ai <| ah ?_;obtain ⟨x21, e22, H⟩ := bi H;refine ab ?_;show AR _ _ _ _ _ [0, 1, 2, 3, 4, 5, 6, 7, 8, 9, 10, 11] _;refine zm rfl <| zS rfl (ck rfl) <| zm rfl <| aZ (l := [6, 7, 8, 9, 10, 11]) 34 (B ((!x8.2.2) || (!decide (x17 = 0)))) (fun K => ?_) ?_
 ·rcases aj (!x8.2.2) with h19 | h19
  ·refine zF h19 rfl <| zF h19 rfl <| zS rfl (aC (av := .v _) rfl h19 rfl) ?_;exact K _ 2 _ (ay (fE h19)) rfl rfl
  ·refine zM h19 rfl <| zU h19 rfl (eE rfl rfl) <| zS rfl (aD (av := .v _) rfl h19 rfl) ?_;exact K _ 2 _ (ay (fF h19)) rfl rfl
 refine zm rfl <| aZ (l := []) 40 (B (((!x8.2.2) || (!decide (x17 = 0))) || (!x21))) (fun K => ?_) ?_
 ·rcases aj ((!x8.2.2) || (!decide (x17 = 0))) with h20 | h20
  ·refine zF h20 rfl <| zF h20 rfl <| zF h20 rfl <| zF h20 rfl <| zS rfl (aC (av := .v _) rfl h20 rfl) ?_;exact K _ 4 _ (ay (fE h20)) rfl rfl
  ·refine zU h20 rfl (ac (av := slE _ _ _) rfl) <| zU h20 rfl (ac (av := slE _ _ _) rfl) <| zT h20 rfl (aN rfl pQ rfl (show ACalls _ _ _ [] (Ret (B x21) []) from by subst e22; exact ja x16 a1 none q2) ?_);refine zU h20 rfl (ck rfl) <| zS rfl (aD (av := .v _) rfl h20 rfl) ?_;exact K _ 4 _ (ay (fF h20)) rfl rfl
 refine ai <| aH rfl (fun c23 => ?_) (fun c23 => ?_)
 ·replace H := bk c23 H;refine ah <| ab ?_;show AR _ _ _ _ _ [0, 1, 2] _;refine zS rfl (jx (zs := [.string ⟨#[]⟩, .string ⟨#[]⟩]) (ps := [(0, 1), (1, 1)]) (cs := [S ([] : List UInt8), S ([] : List UInt8)]) (by kernel_rfl) rfl rfl) <| s0 rfl rfl (cP (i := 0) (vs := [S ([] : List UInt8), S ([] : List UInt8)]) (by kernel_rfl) rfl rfl (by simp [cc, slE]) rfl (ag rfl)) <| za rfl <| ai <| aP ?_;obtain ⟨rfl, rfl, rfl⟩ := il H;exact And.intro rfl (Exists.intro _ (Exists.intro _ ⟨kA (kO rfl (CellV.agg (off := 0) (cs := [S ([] : List UInt8), S ([] : List UInt8)]) (n := 2) 0 cw rfl (by kernel_rfl) rfl rfl (ag rfl)) ((show PlaceV _ _ _ (.tmp _) _ from (.refl _)))), aM [] rfl, rfl, rfl⟩))
 ·replace H := bl c23 H;refine aJ <| ah <| ab ?_;show AR _ _ _ _ _ [0, 1, 2] _;refine zS rfl (du cw rfl (n := 2) (by kernel_rfl) rfl (ag rfl)) <| s0 rfl rfl (cP (i := 0) (vs := [S x8.1, S x13]) (by kernel_rfl) rfl rfl (by simp [cc, slE]) rfl (ag rfl)) <| za rfl <| ai <| aP ?_;obtain ⟨rfl, rfl, rfl⟩ := il H;exact And.intro rfl (Exists.intro _ (Exists.intro _ ⟨kA (kO rfl (CellV.agg (off := 0) (cs := [S x8.1, S x13]) (n := 2) 0 cw rfl (by kernel_rfl) rfl rfl (ag rfl)) ((show PlaceV _ _ _ (.tmp _) _ from (.refl _)))), aM [] rfl, rfl, rfl⟩))
abbrev _root_.Go.Av.aq := @Tryz.underlying23
abbrev _root_.Go.Av.bX := @Tryz.underlying72
set_option maxRecDepth 100000 in
set_option maxHeartbeats 1000000 in
theorem mZ (F : Nat) (a1 : List (List UInt8)) (q2 : Option Nat) (r3 : List ((List UInt8) × List UInt8)) (r4 : Int) (H : jQ F a1 = some (r3, r4)) : ACalls Tryz.prog 76 [slE (Enc.sl Enc.byte) a1 q2, .v (.func (.func 77) #[] #[])] [] (Ret (.tup [slE (de Enc.str Enc.str) r3 none, i64 r4]) []) := by
 unfold jQ at H
 refine ax Tryz.func76 rfl rfl ?_;show AW _ _ 32 _ _ _;refine ah <| ab ?_;show AR _ _ _ _ _ [0, 1] _;refine za rfl <| za rfl <| ai <| ah <| ab ?_;show AR _ _ _ _ _ [0] _;refine za rfl <| ai ?_
 refine cq 6 2 71 rfl fun t5 => ?_
 show AW _ _ _ _ _ ⟨(6, slE (de Enc.str Enc.str) [] (some t5)) :: _, _, _⟩;refine bP (X := (List ((List UInt8) × List UInt8)) × Nat) (fun (y26, t27) => ⟨[(6, slE (de Enc.str Enc.str) y26 (some t27))], [], [.tok t27 71]⟩) (fun (y26, t27) => fA y26 = some (r3, r4)) ?_ ?_
 ·refine ah <| ab ?_;show AR _ _ _ _ _ [0, 1, 2] _;refine zS rfl (ac (av := slE _ _ _) rfl) <| zS rfl (aG aq rfl) <| zm rfl <| ai <| aO <| bZ (X := Nat × (List ((List UInt8) × List UInt8)) × Nat × Int) (fun (n10, y6, t7, y8) => ⟨[(1, .v (.func (.func 77) #[] #[])), (6, slE (de Enc.str Enc.str) y6 (some t7)), (11, slE (Enc.sl Enc.byte) a1 q2), (12, i64 (a1.length : Int)), (13, i64 y8)], [], [.tok t7 71]⟩) (fun (n10, y6, t7, y8) => gW F a1 n10 (y6, y8) = some (r3, r4)) (fun (n10, y6, t7, y8) => n10) (F, [], t5, 0) H (ba [0] (.cons (.refl _) (.cons (.refl _) (.cons (.refl _) (.cons (.refl _) (.cons (.refl _) (.nil _)))))) rfl) ?_;rintro ⟨n10, y6, t7, y8⟩ H;obtain ⟨n10, rfl, H⟩ := cB H;replace H : gX F a1 (gW F a1 n10) y6 y8 = some (r3, r4) := H
  unfold gX at H
  refine ah <| ab ?_;show AR _ _ _ _ _ [0] _;refine zS rfl (bI rfl rfl) <| ai <| ah <| aH rfl (fun c11 => ?_) (fun c11 => ?_)
  ·replace H := bk c11 H;refine aJ <| ah <| aO <| ah ?_;obtain ⟨g12, H⟩ := aF H;obtain ⟨x13, e14, H⟩ := bi H;refine ab ?_;show AR _ _ _ _ _ [0, 1, 2] _;refine zS rfl (bn (E := (Enc.sl Enc.byte)) aq (by kernel_rfl) rfl rfl g12 e14) <| zS rfl (aU aa rfl rfl) <| zS rfl (ao (av := slE _ _ _) rfl) <| ai <| ah ?_;obtain ⟨x15, x16, x17, e18, H⟩ := iR H;refine ab ?_;show AR _ _ _ _ _ [0, 1, 2, 3, 4, 5, 6, 7, 8] _;refine zm rfl <| zS rfl (ac (av := slE _ _ _) rfl) <| am rfl rfl (AO.callFp rfl (.inr ⟨rfl, rfl, rfl⟩) py rfl (nQ F x13 none x15 x16 x17 e18) ?_);refine zS rfl (ac (av := .tup _) rfl) <| zS rfl (aE (av := .agg _) rfl rfl) <| zS rfl (aE (av := .v _) rfl rfl) <| zX rfl (dd (zs := [.string ⟨#[]⟩, .string ⟨#[]⟩]) (by kernel_rfl)) ?_;rintro _ _ ⟨o19, rfl, rfl⟩;refine s0 rfl rfl (cP (i := 0) (vs := [S x15, S x16]) (by kernel_rfl) rfl rfl (by simp [cc, slE]) rfl (ag rfl)) <| AR.freezeCp 9 0 rfl rfl ?_;show AR _ _ _ _ _ _ ⟨_, _, [.tok t7 71]⟩;refine za rfl <| ai <| ah <| ah <| ab ?_;show AR _ _ _ _ _ [0, 1] _;refine zm rfl <| zS rfl (eE rfl rfl) <| ai <| aH rfl (fun c20 => ?_) (fun c20 => ?_)
   ·replace H := bk c20 H;refine ah <| ab ?_;show AR _ _ _ _ _ [0, 1, 2] _;refine zm rfl <| za rfl <| za rfl <| ai <| aP ?_;obtain ⟨rfl, rfl⟩ := gk H;exact And.intro rfl (Exists.intro _ (Exists.intro _ ⟨bR rfl (.nil _) (.refl _), aM [] rfl, rfl, rfl⟩))
   ·replace H := bl c20 H;refine aJ ?_;obtain ⟨g22, H⟩ := aF H;obtain ⟨x23, e24, H⟩ := bi H;refine ab ?_;show AR _ _ _ _ _ [0, 1, 2, 3, 4] _;refine zS rfl (ac (av := slE _ _ _) rfl) <| zS rfl (du cw rfl (n := 2) (by kernel_rfl) rfl (ag rfl)) <| zR rfl (jW (E := (de Enc.str Enc.str)) (bytes := 32) (zs := [.string ⟨#[]⟩, .string ⟨#[]⟩]) (l := ([(x15, x16)] : List ((List UInt8) × List UInt8))) bX (by kernel_rfl) (by kernel_rfl) rfl rfl rfl rfl rfl) <| zX rfl (bA (E := (de Enc.str Enc.str)) (bytes := 32) 0 bX bX rfl (by kernel_rfl) rfl rfl rfl rfl g22 e24) ?_;rintro _ _ ⟨t21, rfl, rfl⟩;refine zS rfl (ao (av := slE _ _ _) rfl) <| ai ?_;obtain ⟨g25, H⟩ := aF H;refine ab ?_;show AR _ _ _ _ _ [0, 1] _;refine zS rfl (bC rfl rfl g25) <| zm rfl <| ai ?_;exact Exists.intro (n10, x23, t21, y8 + 1) ⟨H, Nat.lt_succ_self _, ba [0] (.cons (.refl _) (.cons (.refl _) (.cons (.refl _) (.cons (.refl _) (.cons (.refl _) (.nil _)))))) rfl⟩
  ·replace H := bl c11 H;refine bQ ?_;exact Exists.intro (y6, t7) ⟨H, ba [0] (.cons (.refl _) (.nil _)) rfl⟩
 rintro ⟨y26, t27⟩ H;replace H : fA y26 = some (r3, r4) := H
 unfold fA at H
 refine ah <| ab ?_;show AR _ _ _ _ _ [0, 1, 2] _;refine zS rfl (ac (av := slE _ _ _) rfl) <| zS rfl (ao (av := slE _ _ _) rfl) <| za rfl <| ai <| aP ?_;obtain ⟨rfl, rfl⟩ := gk H;exact And.intro rfl (Exists.intro _ (Exists.intro _ ⟨bR rfl (.tok _ _ _) (.refl _), aM [] rfl, rfl, rfl⟩))
set_option maxRecDepth 100000 in
set_option maxHeartbeats 1000000 in
theorem na (F : Nat) (a1 : List ((List UInt8) × List UInt8)) (q2 : Option Nat) (r3 : List (List UInt8)) (r4 : Int) (H : iD F a1 = some (r3, r4)) : ACalls Tryz.prog 68 [slE (de Enc.str Enc.str) a1 q2, .v (.func (.func 69) #[] #[])] [] (Ret (.tup [slE (Enc.sl Enc.byte) r3 none, i64 r4]) []) := by
 unfold iD at H
 refine ax Tryz.func68 rfl rfl ?_;show AW _ _ 32 _ _ _;refine ah <| ab ?_;show AR _ _ _ _ _ [0, 1] _;refine za rfl <| za rfl <| ai <| ah <| ab ?_;show AR _ _ _ _ _ [0] _;refine za rfl <| ai ?_
 refine cq 6 1 26 rfl fun t5 => ?_
 show AW _ _ _ _ _ ⟨(6, slE (Enc.sl Enc.byte) [] (some t5)) :: _, _, _⟩;refine bP (X := (List (List UInt8)) × Nat) (fun (y25, t26) => ⟨[(6, slE (Enc.sl Enc.byte) y25 (some t26))], [], [.tok t26 26]⟩) (fun (y25, t26) => et y25 = some (r3, r4)) ?_ ?_
 ·refine ah <| ab ?_;show AR _ _ _ _ _ [0, 1, 2] _;refine zS rfl (ac (av := slE _ _ _) rfl) <| zS rfl (aG bX rfl) <| zm rfl <| ai <| aO <| bZ (X := Nat × (List (List UInt8)) × Nat × Int) (fun (n10, y6, t7, y8) => ⟨[(1, .v (.func (.func 69) #[] #[])), (6, slE (Enc.sl Enc.byte) y6 (some t7)), (11, slE (de Enc.str Enc.str) a1 q2), (12, i64 (a1.length : Int)), (13, i64 y8)], [], [.tok t7 26]⟩) (fun (n10, y6, t7, y8) => eu F a1 n10 (y6, y8) = some (r3, r4)) (fun (n10, y6, t7, y8) => n10) (F, [], t5, 0) H (ba [0] (.cons (.refl _) (.cons (.refl _) (.cons (.refl _) (.cons (.refl _) (.cons (.refl _) (.nil _)))))) rfl) ?_;rintro ⟨n10, y6, t7, y8⟩ H;obtain ⟨n10, rfl, H⟩ := cB H;replace H : ew F a1 (eu F a1 n10) y6 y8 = some (r3, r4) := H
  unfold ew at H
  refine ah <| ab ?_;show AR _ _ _ _ _ [0] _;refine zS rfl (bI rfl rfl) <| ai <| ah <| aH rfl (fun c11 => ?_) (fun c11 => ?_)
  ·replace H := bk c11 H;refine aJ <| ah <| aO <| ah ?_;obtain ⟨g12, H⟩ := aF H;obtain ⟨x13, e14, H⟩ := bi H;refine ab ?_;show AR _ _ _ _ _ [0, 1, 2, 3] _;refine zS rfl (bn (E := (de Enc.str Enc.str)) bX (by kernel_rfl) rfl rfl g12 e14) <| zS rfl (du cw rfl (n := 2) (by kernel_rfl) rfl (ag rfl)) <| zX rfl (dd (zs := [.string ⟨#[]⟩, .string ⟨#[]⟩]) (by kernel_rfl)) ?_;rintro _ _ ⟨o15, rfl, rfl⟩;refine s0 rfl rfl (cP (i := 0) (vs := [S x13.1, S x13.2]) (by kernel_rfl) rfl rfl (by simp [cc, slE]) rfl (ag rfl)) <| AR.freezeCp 8 0 rfl rfl ?_;show AR _ _ _ _ _ _ ⟨_, _, [.tok t7 26]⟩;refine ai <| ah ?_;obtain ⟨x16, x17, e18, H⟩ := fm H;refine ab ?_;show AR _ _ _ _ _ [0, 1, 2, 3, 4, 5, 6, 7] _;refine zm rfl <| zS rfl (du cw rfl (n := 2) (by kernel_rfl) rfl (ag rfl)) <| am rfl rfl (AO.callFp rfl (.inr ⟨rfl, rfl, rfl⟩) lG rfl (kE F x13.1 x13.2 x16 x17 e18) ?_);refine zS rfl (ac (av := .tup _) rfl) <| zS rfl (aE (av := slE _ _ _) rfl rfl) <| zS rfl (aE (av := .v _) rfl rfl) <| zS rfl (ao (av := slE _ _ _) rfl) <| za rfl <| ai <| ah <| ah <| ab ?_;show AR _ _ _ _ _ [0, 1] _;refine zm rfl <| zS rfl (eE rfl rfl) <| ai <| aH rfl (fun c19 => ?_) (fun c19 => ?_)
   ·replace H := bk c19 H;refine ah <| ab ?_;show AR _ _ _ _ _ [0, 1, 2] _;refine zm rfl <| za rfl <| za rfl <| ai <| aP ?_;obtain ⟨rfl, rfl⟩ := gk H;exact And.intro rfl (Exists.intro _ (Exists.intro _ ⟨bR rfl (.nil _) (.refl _), aM [] rfl, rfl, rfl⟩))
   ·replace H := bl c19 H;refine aJ ?_;obtain ⟨g21, H⟩ := aF H;obtain ⟨x22, e23, H⟩ := bi H;refine ab ?_;show AR _ _ _ _ _ [0, 1, 2, 3, 4] _;refine zS rfl (ac (av := slE _ _ _) rfl) <| zS rfl (ac (av := slE _ _ _) rfl) <| zR rfl (bm (E := (Enc.sl Enc.byte)) (bytes := 24) (xs := [.tmp 27]) (l := ([x16] : List (List UInt8))) aq (by kernel_rfl) rfl rfl (by decide) rfl rfl) <| zX rfl (bA (E := (Enc.sl Enc.byte)) (bytes := 24) 0 aq aq rfl (by kernel_rfl) rfl rfl rfl rfl g21 e23) ?_;rintro _ _ ⟨t20, rfl, rfl⟩;refine zS rfl (ao (av := slE _ _ _) rfl) <| ai ?_;obtain ⟨g24, H⟩ := aF H;refine ab ?_;show AR _ _ _ _ _ [0, 1] _;refine zS rfl (bC rfl rfl g24) <| zm rfl <| ai ?_;exact Exists.intro (n10, x22, t20, y8 + 1) ⟨H, Nat.lt_succ_self _, ba [0] (.cons (.refl _) (.cons (.refl _) (.cons (.refl _) (.cons (.refl _) (.cons (.refl _) (.nil _)))))) rfl⟩
  ·replace H := bl c11 H;refine bQ ?_;exact Exists.intro (y6, t7) ⟨H, ba [0] (.cons (.refl _) (.nil _)) rfl⟩
 rintro ⟨y25, t26⟩ H;replace H : et y25 = some (r3, r4) := H
 unfold et at H
 refine ah <| ab ?_;show AR _ _ _ _ _ [0, 1, 2] _;refine zS rfl (ac (av := slE _ _ _) rfl) <| zS rfl (ao (av := slE _ _ _) rfl) <| za rfl <| ai <| aP ?_;obtain ⟨rfl, rfl⟩ := gk H;exact And.intro rfl (Exists.intro _ (Exists.intro _ ⟨bR rfl (.tok _ _ _) (.refl _), aM [] rfl, rfl, rfl⟩))
set_option maxRecDepth 100000 in
set_option maxHeartbeats 1000000 in
theorem pa (F : Nat) (a1 : List ((List UInt8) × List UInt8)) (q2 : Option Nat) (r3 : List UInt8) (r4 : Int) (H : ik F a1 = some (r3, r4)) : ACalls Tryz.prog 46 [slE (de Enc.str Enc.str) a1 q2] [] (Ret (.tup [slE Enc.byte r3 none, i64 r4]) []) := by
 unfold ik at H
 refine ax Tryz.func46 rfl rfl ?_;show AW _ _ 20 _ _ _;refine ah <| ab ?_;show AR _ _ _ _ _ [0, 1] _;refine za rfl <| za rfl <| ai <| ah <| ah <| ab ?_;show AR _ _ _ _ _ [0, 1, 2] _;refine zS rfl (ac (av := slE _ _ _) rfl) <| zS rfl (aG bX rfl) <| zS rfl (cF rfl rfl) <| ai <| aH rfl (fun c5 => ?_) (fun c5 => ?_)
 ·replace H := bk c5 H;refine ah <| ab ?_;show AR _ _ _ _ _ [0, 1] _;refine za rfl <| za rfl <| ai <| aP ?_;obtain ⟨rfl, rfl⟩ := gk H;exact And.intro rfl (Exists.intro _ (Exists.intro _ ⟨bR rfl (.nil _) (.refl _), aM [] rfl, rfl, rfl⟩))
 ·replace H := bl c5 H;refine aJ <| ah ?_;obtain ⟨x6, x7, e8, H⟩ := fm H;refine ab ?_;show AR _ _ _ _ _ [0, 1, 2, 3, 4, 5, 6] _;refine zS rfl (ac (av := slE _ _ _) rfl) <| am rfl rfl (aN rfl pC rfl (na F a1 q2 x6 x7 e8) ?_);refine zS rfl (ac (av := .tup _) rfl) <| zS rfl (aE (av := slE _ _ _) rfl rfl) <| zS rfl (aE (av := .v _) rfl rfl) <| zS rfl (ao (av := slE _ _ _) rfl) <| za rfl <| ai <| ah <| ah <| ab ?_;show AR _ _ _ _ _ [0, 1] _;refine zm rfl <| zS rfl (eE rfl rfl) <| ai <| aH rfl (fun c9 => ?_) (fun c9 => ?_)
  ·replace H := bk c9 H;refine ah <| ab ?_;show AR _ _ _ _ _ [0, 1, 2] _;refine zm rfl <| za rfl <| za rfl <| ai <| aP ?_;obtain ⟨rfl, rfl⟩ := gk H;exact And.intro rfl (Exists.intro _ (Exists.intro _ ⟨bR rfl (.nil _) (.refl _), aM [] rfl, rfl, rfl⟩))
  ·replace H := bl c9 H;refine aJ <| ah ?_;obtain ⟨g10, H⟩ := aF H;obtain ⟨x11, e12, H⟩ := bi H;obtain ⟨g15, H⟩ := aF H;obtain ⟨x16, e17, H⟩ := bi H;refine ab ?_;show AR _ _ _ _ _ [0, 1, 2, 3, 4] _;refine zS rfl (ac (av := slE _ _ _) rfl) <| am rfl rfl (AO.callAt [] rfl pB rfl (li x6 none g10) rfl (fun c A' h => by obtain ⟨_, h, _⟩ := h; cases h) ?_)
   rintro av A' ⟨t13, h, rfl⟩; cases h; rw [e12]
   refine zX rfl (mw (bytes := 1) 0 aa af rfl (by kernel_rfl) rfl rfl rfl rfl g15 e17) ?_;rintro _ _ ⟨t14, rfl, rfl⟩;refine zS rfl (ao (av := slE _ _ _) rfl) <| za rfl <| ai <| aP ?_;obtain ⟨rfl, rfl⟩ := gk H;exact And.intro rfl (Exists.intro _ (Exists.intro _ ⟨bR rfl (.tok _ _ _) (.refl _), aM [] rfl, rfl, rfl⟩))
set_option maxRecDepth 100000 in
set_option maxHeartbeats 1000000 in
theorem mY (F : Nat) (a1 : List UInt8) (q2 : Option Nat) (r3 : List (List UInt8)) (r4 : List UInt8) (r5 : Bool) (H : jP F a1 = some (r3, r4, r5)) : ACalls Tryz.prog 75 [slE Enc.byte a1 q2] [] (Ret (.tup [slE (Enc.sl Enc.byte) r3 none, slE Enc.byte r4 none, B r5]) []) := by
 unfold jP at H
 refine ax Tryz.func75 rfl rfl ?_;show AW _ _ 54 _ _ _;refine ah <| ab ?_;show AR _ _ _ _ _ [0, 1, 2] _;refine za rfl <| za rfl <| za rfl <| ai ?_
 refine cq 2 1 26 rfl fun t6 => ?_
 show AW _ _ _ _ _ ⟨(2, slE (Enc.sl Enc.byte) [] (some t6)) :: _, _, _⟩;refine bP (X := (List UInt8) × (List (List UInt8)) × Nat) (fun (y50, y51, t52) => ⟨[(0, slE Enc.byte y50 none), (2, slE (Enc.sl Enc.byte) y51 (some t52))], [], [.tok t52 26]⟩) (fun (y50, y51, t52) => fy y50 y51 = some (r3, r4, r5)) ?_ ?_
 ·refine aO <| bZ (X := Nat × (List UInt8) × (List (List UInt8)) × Nat) (fun (n11, y7, y8, t9) => ⟨[(0, slE Enc.byte y7 none), (2, slE (Enc.sl Enc.byte) y8 (some t9))], [], [.tok t9 26]⟩) (fun (n11, y7, y8, t9) => cA F n11 (y7, y8) = some (r3, r4, r5)) (fun (n11, y7, y8, t9) => n11) (F, a1, [], t6) H (ba [0] (.cons (.tok _ _ _) (.cons (.refl _) (.nil _))) rfl) ?_;rintro ⟨n11, y7, y8, t9⟩ H;obtain ⟨n11, rfl, H⟩ := cB H;replace H : gS F (cA F n11) y7 y8 = some (r3, r4, r5) := H
  unfold gS at H
  refine ah <| ah ?_;obtain ⟨x13, e14, H⟩ := bi H;refine ab ?_;show AR _ _ _ _ _ [0, 1, 2, 3, 4] _;refine zS rfl (ac (av := slE _ _ _) rfl) <| zX rfl (gg (E := Enc.byte) (bytes := 1) (xs := [.const _, .const _]) (l := ([13, 10] : List UInt8)) aa (by kernel_rfl) rfl rfl (by decide) rfl rfl) ?_;rintro _ _ ⟨t12, rfl, rfl⟩;refine zR rfl (ej 0 aa aB rfl (by simp) rfl) <| am rfl rfl (aN rfl pF rfl (show ACalls _ _ _ [] (Ret (B x13) []) from by subst e14; exact eB y7 ([13, 10] : List UInt8) none (some t12)) ?_);refine zS rfl (ck rfl) <| ai <| aH rfl (fun c15 => ?_) (fun c15 => ?_)
  ·replace H := bk c15 H;refine aJ <| aO <| ah <| ab ?_;show AR _ _ _ _ _ [0] _;refine za rfl <| ai <| bP (X := Int) (fun y38 => ⟨[(0, slE Enc.byte y7 none), (2, slE (Enc.sl Enc.byte) y8 (some t9)), (5, i64 y38)], [], [.tok t9 26]⟩) (fun y38 => fx y7 y8 (cA F n11) y38 = some (r3, r4, r5)) ?_ ?_
   ·refine aO <| bZ (X := Nat × Int) (fun (n18, y16) => ⟨[(0, slE Enc.byte y7 none), (2, slE (Enc.sl Enc.byte) y8 (some t9)), (5, i64 y16)], [], [.tok t9 26]⟩) (fun (n18, y16) => gR y7 y8 (cA F n11) n18 y16 = some (r3, r4, r5)) (fun (n18, y16) => n18) (F, 0) H (ba [1] (.cons (.refl _) (.cons (.refl _) (.cons (.refl _) (.nil _)))) rfl) ?_;rintro ⟨n18, y16⟩ H;obtain ⟨n18, rfl, H⟩ := cB H;replace H : gV y7 y8 (cA F n11) (gR y7 y8 (cA F n11) n18) y16 = some (r3, r4, r5) := H
    unfold gV at H
    refine ah <| ah ?_;obtain ⟨g21, H⟩ := eA H;obtain ⟨x22, e23, H⟩ := bi H;refine ab ?_;show AR _ _ _ _ _ [0, 1, 2, 3, 4, 5, 6, 7, 8, 9, 10, 11, 12, 13, 14] _;refine zm rfl <| zS rfl (dv rfl rfl) <| zm rfl <| aZ (l := []) 26 (B ((decide (y16 = 0)) || ((decide (y16 < (y7.length : Int))) && (decide (x22 = 32))))) (fun K => ?_) ?_
    ·rcases aj (decide (y16 = 0)) with h19 | h19
     ·refine zF h19 rfl <| zF h19 rfl <| zF h19 rfl <| zF h19 rfl <| zF h19 rfl <| gU rfl rfl rfl rfl rfl <| gU rfl rfl rfl rfl rfl <| gU rfl rfl rfl rfl rfl <| gU rfl rfl rfl rfl rfl <| gU rfl rfl rfl rfl rfl <| zF h19 rfl <| zS rfl (aC (av := .v _) rfl h19 rfl) ?_;exact K _ 11 _ (ay (fE h19)) rfl rfl
     ·refine zM h19 rfl <| zU h19 rfl (ac (av := slE _ _ _) rfl) <| zU h19 rfl (aG aa rfl) <| zU h19 rfl (bI rfl rfl) <| zM h19 rfl <| aZ (l := [14]) 25 (B ((decide (y16 < (y7.length : Int))) && (decide (x22 = 32)))) (fun K => ?_) ?_
      ·rcases aj (decide (y16 < (y7.length : Int))) with h20 | h20
       ·refine zU h20 rfl (ac (av := slE _ _ _) rfl) <| zM h20 rfl <| zU h20 rfl (bn (E := Enc.byte) aa (by kernel_rfl) rfl rfl (g21 (and_tt (nf h19) h20)) e23) <| zU h20 rfl (aU aB rfl rfl) <| zU h20 rfl (iV (a := x22) (b := 32) rfl rfl) <| zU h19 rfl (aC (av := .v _) rfl h20 rfl) ?_;exact K _ 5 _ (ay (cH h20)) rfl rfl
       ·refine zF h20 rfl <| zF h20 rfl <| zF h20 rfl <| zF h20 rfl <| zF h20 rfl <| zU h19 rfl (aD (av := .v _) rfl h20 rfl) ?_;exact K _ 5 _ (ay (cI h20)) rfl rfl
      refine zS rfl (aD (av := .v _) rfl h19 rfl) ?_;exact K _ 6 _ (ay (fF h19)) rfl rfl
    refine ai <| aH rfl (fun c24 => ?_) (fun c24 => ?_)
    ·replace H := bk c24 H;refine aJ <| aO <| ah ?_;obtain ⟨g25, H⟩ := aF H;obtain ⟨x26, e27, H⟩ := bi H;obtain ⟨g29, H⟩ := aF H;obtain ⟨g30, H⟩ := aF H;obtain ⟨g31, H⟩ := aF H;obtain ⟨x32, e33, H⟩ := bi H;refine ab ?_;show AR _ _ _ _ _ [0, 1, 2, 3, 4, 5, 6] _;refine zS rfl (ac (av := slE _ _ _) rfl) <| zm rfl <| zS rfl (fu (E := Enc.byte) aa (by kernel_rfl) rfl rfl g25 e27) <| zX rfl (gg (E := Enc.byte) (bytes := 1) (xs := [.const _, .const _]) (l := ([13, 10] : List UInt8)) aa (by kernel_rfl) rfl rfl (by decide) rfl rfl) ?_;rintro _ _ ⟨t28, rfl, rfl⟩;refine zR rfl (ej 0 aa aB rfl (by simp) rfl) <| am rfl rfl (aN rfl pT rfl (show ACalls _ _ _ [] (Ret (i64 x32) []) from by subst e33; exact iZ x26 ([13, 10] : List UInt8) none (some t28) (gl g29) (of_decide_eq_true g30) (gl g31)) ?_);refine za rfl <| ai <| ah <| ah <| ab ?_;show AR _ _ _ _ _ [0, 1] _;refine zm rfl <| zS rfl (bI rfl rfl) <| ai <| aH rfl (fun c34 => ?_) (fun c34 => ?_)
     ·replace H := bk c34 H;refine ah <| ab ?_;show AR _ _ _ _ _ [0, 1, 2] _;refine za rfl <| za rfl <| za rfl <| ai ?_
      refine cq 2 1 26 rfl fun t35 => ?_
      show AW _ _ _ _ _ ⟨(2, slE (Enc.sl Enc.byte) [] (some t35)) :: _, _, _⟩;refine aP ?_;obtain ⟨rfl, rfl, rfl⟩ := il H;exact And.intro rfl (Exists.intro _ (Exists.intro _ ⟨bz rfl (.tok _ _ _) (.nil _) (.refl _), aM [] rfl, rfl, rfl⟩))
     ·replace H := bl c34 H;refine aJ ?_;obtain ⟨g36, H⟩ := aF H;obtain ⟨g37, H⟩ := aF H;refine ab ?_;show AR _ _ _ _ _ [0, 1, 2, 3, 4] _;refine zm rfl <| zm rfl <| zS rfl (bC rfl rfl g36) <| zS rfl (bC rfl rfl g37) <| za rfl <| ai ?_;exact Exists.intro (n18, y16 + (x32 + 2)) ⟨H, Nat.lt_succ_self _, ba [1] (.cons (.refl _) (.cons (.refl _) (.cons (.refl _) (.nil _)))) rfl⟩
    ·replace H := bl c24 H;refine bQ ?_;exact Exists.intro y16 ⟨H, ba [0] (.cons (.refl _) (.cons (.refl _) (.cons (.refl _) (.nil _)))) rfl⟩
   rintro y38 H;replace H : fx y7 y8 (cA F n11) y38 = some (r3, r4, r5) := H
   unfold fx at H
   obtain ⟨g40, H⟩ := aF H;obtain ⟨x41, e42, H⟩ := bi H;obtain ⟨g43, H⟩ := aF H;obtain ⟨x44, e45, H⟩ := bi H;obtain ⟨g47, H⟩ := aF H;obtain ⟨x48, e49, H⟩ := bi H;refine bH (by kernel_rfl) ?_;show AI _ _ _ _ _ 11 (Array.replicate 11 false) _;refine zk 0 rfl (ac (av := slE _ _ _) rfl) ?_;show AI _ _ _ _ _ _ #[true, false, false, false, false, false, false, false, false, false, false] _;refine zk 1 rfl (ac (av := slE _ _ _) rfl) ?_;show AI _ _ _ _ _ _ #[true, true, false, false, false, false, false, false, false, false, false] _;refine zk 2 rfl (mv rfl) ?_;show AI _ _ _ _ _ _ #[true, true, true, false, false, false, false, false, false, false, false] _;refine zk 3 rfl (jw (E := Enc.byte) aa (by kernel_rfl) rfl rfl g40 e42) ?_;show AI _ _ _ _ _ _ #[true, true, true, true, false, false, false, false, false, false, false] _;refine zk 6 rfl (ac (av := slE _ _ _) rfl) ?_;show AI _ _ _ _ _ _ #[true, true, true, true, false, false, true, false, false, false, false] _;refine zk 7 rfl (mv rfl) ?_;show AI _ _ _ _ _ _ #[true, true, true, true, false, false, true, true, false, false, false] _;refine zk 8 rfl (fu (E := Enc.byte) aa (by kernel_rfl) rfl rfl g43 e45) ?_;show AI _ _ _ _ _ _ #[true, true, true, true, false, false, true, true, true, false, false] _;refine aQ (i := 4) (by kernel_rfl) rfl rfl <| aL rfl (bm (E := (Enc.sl Enc.byte)) (bytes := 24) (xs := [.tmp 42]) (l := ([x41] : List (List UInt8))) aq (by kernel_rfl) rfl rfl (by decide) rfl rfl) ?_
   show AI _ _ _ _ _ _ #[true, true, true, true, true, false, true, true, true, false, false] _;refine aQ (i := 5) (by kernel_rfl) rfl rfl <| bt rfl (bA (E := (Enc.sl Enc.byte)) (bytes := 24) 0 aq aq rfl (by kernel_rfl) rfl rfl rfl rfl g47 e49) ?_;rintro _ _ ⟨t46, rfl, rfl⟩;show AI _ _ _ _ _ _ #[true, true, true, true, true, true, true, true, true, false, false] _;refine zk 9 rfl (ao (av := slE _ _ _) rfl) ?_;show AI _ _ _ _ _ _ #[true, true, true, true, true, true, true, true, true, true, false] _;refine zk 10 rfl (ao (av := slE _ _ _) rfl) ?_;show AI _ _ _ _ _ _ #[true, true, true, true, true, true, true, true, true, true, true] _;refine br rfl ?_;exact Exists.intro (n11, x44, x48, t46) ⟨H, Nat.lt_succ_self _, ba [0] (.cons (.refl _) (.cons (.refl _) (.nil _))) rfl⟩
  ·replace H := bl c15 H;refine bQ ?_;exact Exists.intro (y7, y8, t9) ⟨H, ba [1] (.cons (.refl _) (.cons (.refl _) (.nil _))) rfl⟩
 rintro ⟨y50, y51, t52⟩ H;replace H : fy y50 y51 = some (r3, r4, r5) := H
 unfold fy at H
 refine ah ?_;obtain ⟨g54, H⟩ := aF H;obtain ⟨x55, e56, H⟩ := bi H;refine bH (by kernel_rfl) ?_;show AI _ _ _ _ _ 9 (Array.replicate 9 false) _;refine zk 0 rfl (ac (av := slE _ _ _) rfl) ?_;show AI _ _ _ _ _ _ #[true, false, false, false, false, false, false, false, false] _;refine zk 1 rfl (ac (av := slE _ _ _) rfl) ?_;show AI _ _ _ _ _ _ #[true, true, false, false, false, false, false, false, false] _;refine zk 2 rfl (fu (E := Enc.byte) aa (by kernel_rfl) rfl rfl g54 e56) ?_;show AI _ _ _ _ _ _ #[true, true, true, false, false, false, false, false, false] _;refine zk 3 rfl (ac (av := slE _ _ _) rfl) ?_;show AI _ _ _ _ _ _ #[true, true, true, true, false, false, false, false, false] _;refine zk 4 rfl (aG aq rfl) ?_;show AI _ _ _ _ _ _ #[true, true, true, true, true, false, false, false, false] _;refine zk 5 rfl (hU rfl rfl) ?_;show AI _ _ _ _ _ _ #[true, true, true, true, true, true, false, false, false] _;refine zk 6 rfl (ao (av := slE _ _ _) rfl) ?_;show AI _ _ _ _ _ _ #[true, true, true, true, true, true, true, false, false] _;refine zk 7 rfl (ao (av := slE _ _ _) rfl) ?_;show AI _ _ _ _ _ _ #[true, true, true, true, true, true, true, true, false] _;refine zk 8 rfl (asg rfl) ?_;show AI _ _ _ _ _ _ #[true, true, true, true, true, true, true, true, true] _;refine br rfl <| aP ?_;obtain ⟨rfl, rfl, rfl⟩ := il H;exact And.intro rfl (Exists.intro _ (Exists.intro _ ⟨bz rfl (.tok _ _ _) (.refl _) (.refl _), aM [] rfl, rfl, rfl⟩))
set_option maxRecDepth 100000 in
set_option maxHeartbeats 1000000 in
theorem oZ (F : Nat) (a1 : List UInt8) (q2 : Option Nat) (r3 : List ((List UInt8) × List UInt8)) (r4 : List UInt8) (r5 : Int) (H : lN F a1 = some (r3, r4, r5)) : ACalls Tryz.prog 55 [slE Enc.byte a1 q2] [] (Ret (.tup [slE (de Enc.str Enc.str) r3 none, slE Enc.byte r4 none, i64 r5]) []) := by
 unfold lN at H
 refine ax Tryz.func55 rfl rfl ?_;show AW _ _ 28 _ _ _;refine ah <| ab ?_;show AR _ _ _ _ _ [0, 1, 2] _;refine za rfl <| za rfl <| za rfl <| ai <| ah ?_;obtain ⟨x6, x7, x8, e9, H⟩ := iR H;refine ab ?_;show AR _ _ _ _ _ [0, 1, 2, 3, 4, 5, 6, 7, 8] _;refine zS rfl (ac (av := slE _ _ _) rfl) <| am rfl rfl (aN rfl pA rfl (mY F a1 q2 x6 x7 x8 e9) ?_);refine zS rfl (ac (av := .tup _) rfl) <| zS rfl (aE (av := slE _ _ _) rfl rfl) <| zS rfl (aE (av := slE _ _ _) rfl rfl) <| zS rfl (aE (av := .v _) rfl rfl) <| zS rfl (ao (av := slE _ _ _) rfl) <| zS rfl (ao (av := slE _ _ _) rfl) <| za rfl <| ai <| ah <| ah <| ab ?_;show AR _ _ _ _ _ [0, 1] _;refine zm rfl <| zS rfl (ck rfl) <| ai <| aH rfl (fun c10 => ?_) (fun c10 => ?_)
 ·replace H := bk c10 H;refine ah <| ab ?_;show AR _ _ _ _ _ [0, 1, 2] _;refine za rfl <| za rfl <| za rfl <| ai <| aP ?_;obtain ⟨rfl, rfl, rfl⟩ := il H;exact And.intro rfl (Exists.intro _ (Exists.intro _ ⟨bz rfl (.nil _) (.nil _) (.refl _), aM [] rfl, rfl, rfl⟩))
 ·replace H := bl c10 H;refine aJ <| ah ?_;obtain ⟨x11, x12, e13, H⟩ := fm H;refine ab ?_;show AR _ _ _ _ _ [0, 1, 2, 3, 4, 5, 6] _;refine zS rfl (ac (av := slE _ _ _) rfl) <| am rfl rfl (aN rfl pz rfl (mZ F x6 none x11 x12 e13) ?_);refine zS rfl (ac (av := .tup _) rfl) <| zS rfl (aE (av := slE _ _ _) rfl rfl) <| zS rfl (aE (av := .v _) rfl rfl) <| zS rfl (ao (av := slE _ _ _) rfl) <| za rfl <| ai <| ah <| ah <| ab ?_;show AR _ _ _ _ _ [0, 1] _;refine zm rfl <| zS rfl (eE rfl rfl) <| ai <| aH rfl (fun c14 => ?_) (fun c14 => ?_)
  ·replace H := bk c14 H;refine ah <| ab ?_;show AR _ _ _ _ _ [0, 1, 2] _;refine za rfl <| za rfl <| za rfl <| ai <| aP ?_;obtain ⟨rfl, rfl, rfl⟩ := il H;exact And.intro rfl (Exists.intro _ (Exists.intro _ ⟨bz rfl (.nil _) (.nil _) (.refl _), aM [] rfl, rfl, rfl⟩))
  ·replace H := bl c14 H;refine aJ <| ah ?_;obtain ⟨g15, H⟩ := aF H;obtain ⟨x16, e17, H⟩ := bi H;refine ab ?_;show AR _ _ _ _ _ [0, 1, 2, 3, 4, 5] _;refine zS rfl (ac (av := slE _ _ _) rfl) <| zS rfl (ac (av := slE _ _ _) rfl) <| am rfl rfl (aN rfl px rfl (show ACalls _ _ _ [] (Ret (slE Enc.byte x16 none) []) from by subst e17; exact lj x7 none (gl g15)) ?_);refine zS rfl (ao (av := slE _ _ _) rfl) <| zS rfl (ao (av := slE _ _ _) rfl) <| za rfl <| ai <| aP ?_;obtain ⟨rfl, rfl, rfl⟩ := il H;exact And.intro rfl (Exists.intro _ (Exists.intro _ ⟨bz rfl (.refl _) (.refl _) (.refl _), aM [] rfl, rfl, rfl⟩))
end Go.Proofs.YtdaafnaokdigbaaGreatDoor
namespace Go.Pv
def jZ : List UInt8 := [97, 98, 99, 100, 101, 102, 103, 104, 105, 106, 107, 108, 109, 110, 111, 112, 113, 114, 115, 116, 117, 118, 119, 120, 121, 122, 48, 49, 50, 51, 52, 53, 54, 55, 56, 57, 47, 45, 61, 59, 32]
def parta_k2 : List UInt8 := [67, 111, 110, 116, 101, 110, 116, 45, 84, 114, 97, 110, 115, 102, 101, 114, 45, 69, 110, 99, 111, 100, 105, 110, 103]
def ic (F : Nat) (a1 : List UInt8) (a4 : List UInt8) : Option Bool :=
grd (bw a4.length) <|
grd (okS a1.length) <|
grd (decide (2 ≤ a4.length)) <|
grd (okS a4.length) <|
lt (Go.Lib.contains a1 a4) fun x11 =>
some x11
def dE : Option Int :=
some (-1)
def dG (F : Nat) (a1 : List (List UInt8)) (a4 : List UInt8) (rec7 : Int → Option Int) (y6 : Int) : Option Int :=
bif decide (y6 < (a1.length : Int)) then
  grd (cE y6 a1.length) <|
  lt (at_ a1 y6) fun x11 =>
  bnd (ic F x11 a4) fun x13 =>
  bif x13 then
    some y6
  else
    grd (okI (y6 + 1)) <|
    rec7 (y6 + 1)
else
  dE
def dF (F : Nat) (a1 : List (List UInt8)) (a4 : List UInt8) (n : Nat) : Int → Option Int :=
  loop (fun rec x => dG F a1 a4 rec x) n
def gz (F : Nat) (a1 : List (List UInt8)) (a4 : List UInt8) : Option Int :=
dF F a1 a4 F 0
def cW (F : Nat) (a1 : List (List UInt8)) (a4 : List UInt8) : Option Bool :=
bnd (gz F a1 a4) fun x6 =>
some (decide (0 ≤ x6))
def cT (F : Nat) (a1 : List (List UInt8)) (rec5 : Int → Option ((List UInt8))) (y4 : Int) : Option ((List UInt8)) :=
grd (okI y4) <|
lt (Go.Lib.itoa y4) fun x8 =>
grd (bw (([61, 95] : List UInt8).length + x8.length)) <|
lt (([61, 95] : List UInt8) ++ x8) fun x11 =>
bnd (cW F a1 x11) fun x14 =>
bif !x14 then
  some x11
else
  grd (okI (y4 + 1)) <|
  rec5 (y4 + 1)
def cS (F : Nat) (a1 : List (List UInt8)) (n : Nat) : Int → Option ((List UInt8)) :=
  loop (fun rec x => cT F a1 rec x) n
def ei (F : Nat) (a1 : List (List UInt8)) : Option ((List UInt8)) :=
cS F a1 F 0
def dp (a1 : List UInt8) : Option Bool :=
gt ((!decide (a1 = ([] : List UInt8))) && (decide ((a1.length : Int) ≤ 60))) (okS a1.length) <|
lt (Go.Lib.trimB a1 32) fun x18 =>
gt (((!decide (a1 = ([] : List UInt8))) && (decide ((a1.length : Int) ≤ 60))) && (decide (x18 = a1))) (okS a1.length) <|
lt (Go.Lib.contains a1 ([32, 32] : List UInt8)) fun x22 =>
some ((((!decide (a1 = ([] : List UInt8))) && (decide ((a1.length : Int) ≤ 60))) && (decide (x18 = a1))) && (!x22))
def eQ (a1 : List UInt8) (rec4 : Int → Option Bool) (y3 : Int) : Option Bool :=
bif decide (y3 < (a1.length : Int)) then
  grd (cE y3 a1.length) <|
  lt (at_ a1 y3) fun x8 =>
  lt (Go.Lib.indexByte jZ x8) fun x10 =>
  bif decide (x10 < 0) then
    some false
  else
    grd (okI (y3 + 1)) <|
    rec4 (y3 + 1)
else
  dp a1
def eP (a1 : List UInt8) (n : Nat) : Int → Option Bool :=
  loop (fun rec x => eQ a1 rec x) n
def jm (F : Nat) (a1 : List UInt8) : Option Bool :=
eP a1 F 0
def jl (F : Nat) (a1 : List UInt8) : Option Bool :=
bnd (jm F a1) fun x3 =>
some (!x3)
def dB : Option Int :=
some (-1)
def dD (F : Nat) (a1 : List (List UInt8)) (rec5 : Int → Option Int) (y4 : Int) : Option Int :=
bif decide (y4 < (a1.length : Int)) then
  grd (cE y4 a1.length) <|
  lt (at_ a1 y4) fun x9 =>
  bnd (jl F x9) fun x11 =>
  bif x11 then
    some y4
  else
    grd (okI (y4 + 1)) <|
    rec5 (y4 + 1)
else
  dB
def dC (F : Nat) (a1 : List (List UInt8)) (n : Nat) : Int → Option Int :=
  loop (fun rec x => dD F a1 rec x) n
def gy (F : Nat) (a1 : List (List UInt8)) : Option Int :=
dC F a1 F 0
def dH (F : Nat) (a1 : List (List UInt8)) : Option Bool :=
bnd (gy F a1) fun x4 =>
some (decide (0 ≤ x4))
def fI (a6 : List UInt8) (x10 : List UInt8) (y24 : List UInt8) : Option ((List UInt8)) :=
grd (bw (y24.length + x10.length)) <|
lt (y24 ++ x10) fun x29 =>
grd (bw (x29.length + a6.length)) <|
lt (x29 ++ a6) fun x33 =>
grd (bw (x33.length + ([13, 10] : List UInt8).length)) <|
lt (x33 ++ ([13, 10] : List UInt8)) fun x37 =>
some x37
def jh (F : Nat) (a2 : List UInt8) (a4 : List UInt8) (a5 : List UInt8) (a6 : List UInt8) : Option ((List UInt8)) :=
jX (ik F ([(([67, 111, 110, 116, 101, 110, 116, 45, 84, 121, 112, 101] : List UInt8), a5), (parta_k2, ([113, 117, 111, 116, 101, 100, 45, 112, 114, 105, 110, 116, 97, 98, 108, 101] : List UInt8))] : List ((List UInt8) × List UInt8))) fun x10 x11 =>
grd (bw (([45, 45] : List UInt8).length + a4.length)) <|
lt (([45, 45] : List UInt8) ++ a4) fun x14 =>
grd (bw (x14.length + ([13, 10] : List UInt8).length)) <|
lt (x14 ++ ([13, 10] : List UInt8)) fun x17 =>
grd (bw (a2.length + x17.length)) <|
lt (a2 ++ x17) fun x21 =>
fI a6 x10 x21
def eR (x34 : List UInt8) (y54 : List UInt8) : Option ((List UInt8) × (List UInt8) × Int) :=
grd (bw (([45, 45] : List UInt8).length + x34.length)) <|
lt (([45, 45] : List UInt8) ++ x34) fun x58 =>
grd (bw (x58.length + ([45, 45] : List UInt8).length)) <|
lt (x58 ++ ([45, 45] : List UInt8)) fun x61 =>
grd (bw (x61.length + ([13, 10] : List UInt8).length)) <|
lt (x61 ++ ([13, 10] : List UInt8)) fun x64 =>
grd (bw (y54.length + x64.length)) <|
lt (y54 ++ x64) fun x68 =>
some (x68, x34, 0)
def eV (F : Nat) (a1 : List (List UInt8)) (y31 : List (List UInt8)) (x34 : List UInt8) (rec41 : (Int × (List UInt8)) → Option ((List UInt8) × (List UInt8) × Int)) (y38 : Int) (y39 : List UInt8) : Option ((List UInt8) × (List UInt8) × Int) :=
bif decide (y38 < (y31.length : Int)) then
  grd (cE y38 y31.length) <|
  lt (at_ y31 y38) fun x45 =>
  grd (cE y38 a1.length) <|
  lt (at_ a1 y38) fun x48 =>
  bnd (jh F y39 x34 x48 x45) fun x50 =>
  grd (okI (y38 + 1)) <|
  rec41 (y38 + 1, x50)
else
  eR x34 y39
def eT (F : Nat) (a1 : List (List UInt8)) (y31 : List (List UInt8)) (x34 : List UInt8) (n : Nat) : (Int × (List UInt8)) → Option ((List UInt8) × (List UInt8) × Int) :=
  loop (fun rec x => eV F a1 y31 x34 rec x.1 x.2) n
def dS (F : Nat) (a1 : List (List UInt8)) (y31 : List (List UInt8)) : Option ((List UInt8) × (List UInt8) × Int) :=
bnd (ei F y31) fun x34 =>
eT F a1 y31 x34 F (0, [])
def eU (F : Nat) (a1 : List (List UInt8)) (a3 : List (List UInt8)) (rec18 : ((List (List UInt8)) × Int) → Option ((List UInt8) × (List UInt8) × Int)) (y15 : List (List UInt8)) (y17 : Int) : Option ((List UInt8) × (List UInt8) × Int) :=
bif decide (y17 < (a3.length : Int)) then
  grd (cE y17 a3.length) <|
  lt (at_ a3 y17) fun x22 =>
  bnd (jk F x22) fun x24 =>
  grd (bw (y15.length + ([x24] : List (List UInt8)).length)) <|
  lt (y15 ++ ([x24] : List (List UInt8))) fun x28 =>
  grd (okI (y17 + 1)) <|
  rec18 (x28, y17 + 1)
else
  dS F a1 y15
def eS (F : Nat) (a1 : List (List UInt8)) (a3 : List (List UInt8)) (n : Nat) : ((List (List UInt8)) × Int) → Option ((List UInt8) × (List UInt8) × Int) :=
  loop (fun rec x => eU F a1 a3 rec x.1 x.2) n
def eH (F : Nat) (a1 : List (List UInt8)) (a3 : List (List UInt8)) : Option ((List UInt8) × (List UInt8) × Int) :=
bndc (!(((!decide ((a1.length : Int) = (a3.length : Int))) || (decide ((a3.length : Int) = 0))) || (decide (8 < (a3.length : Int))))) (dH F a1) fun x11 =>
bif (((!decide ((a1.length : Int) = (a3.length : Int))) || (decide ((a3.length : Int) = 0))) || (decide (8 < (a3.length : Int)))) || x11 then
  some ([], ([] : List UInt8), 1)
else
  eS F a1 a3 F ([], 0)
def lM (F : Nat) (a1 : List UInt8) : Option ((List UInt8) × (List UInt8) × Bool) :=
mC (lN F a1) fun x6 x7 x8 =>
bif ((!decide (x8 = 0)) || (!decide ((x6.length : Int) = 2))) || (decide ((x7.length : Int) < 2)) then
  some (([] : List UInt8), [], false)
else
  grd (okI ((x7.length : Int) - 2)) <|
  grd (fP ((x7.length : Int) - 2) x7.length) <|
  lt (to_ x7 ((x7.length : Int) - 2)) fun x15 =>
  jX (kw F x15) fun x17 x18 =>
  grd (cE 0 x6.length) <|
  lt (at_ x6 0) fun x21 =>
  some (x21.2, x17, decide (x18 = 0))
def eh (F : Nat) (a1 : List UInt8) (a3 : List UInt8) (y63 : List (List UInt8)) (y65 : List (List UInt8)) : Option ((List (List UInt8)) × (List (List UInt8)) × Int) :=
mC (eH F y63 y65) fun x68 x69 x70 =>
lt (decide (x68 = a1)) fun x74 =>
bif ((!decide (x70 = 0)) || (!decide (x69 = a3))) || (!x74) then
  some ([], [], 2)
else
  some (y63, y65, 0)
def gM (F : Nat) (a1 : List UInt8) (a3 : List UInt8) (rec14 : ((List (List UInt8)) × (List (List UInt8)) × (List UInt8)) → Option ((List (List UInt8)) × (List (List UInt8)) × Int)) (y9 : List (List UInt8)) (y11 : List (List UInt8)) (y13 : List UInt8) : Option ((List (List UInt8)) × (List (List UInt8)) × Int) :=
bif decide ((y11.length : Int) ≤ 8) then
  grd (bw (([45, 45] : List UInt8).length + a3.length)) <|
  lt (([45, 45] : List UInt8) ++ a3) fun x18 =>
  grd (bw (x18.length + ([13, 10] : List UInt8).length)) <|
  lt (x18 ++ ([13, 10] : List UInt8)) fun x21 =>
  grd (bw x21.length) <|
  grd (decide (1 ≤ x21.length)) <|
  lt (Go.Lib.trimPrefix y13 x21, Go.Lib.hasPrefix y13 x21) fun x26 =>
  bif !x26.2 then
    eh F a1 a3 y9 y11
  else
    grd (bw (([45, 45] : List UInt8).length + a3.length)) <|
    lt (([45, 45] : List UInt8) ++ a3) fun x30 =>
    grd (bw x30.length) <|
    grd (okS x26.1.length) <|
    grd (decide (2 ≤ x30.length)) <|
    grd (okS x30.length) <|
    lt (Go.Lib.index x26.1 x30) fun x37 =>
    bif decide (x37 < 0) then
      some ([], [], 2)
    else
      grd (fP x37 x26.1.length) <|
      lt (to_ x26.1 x37) fun x41 =>
      mC (lM F x41) fun x43 x44 x45 =>
      bif !x45 then
        some ([], [], 2)
      else
        grd (fP x37 x26.1.length) <|
        lt (hZ x26.1 x37) fun x49 =>
        grd (bw (y9.length + ([x43] : List (List UInt8)).length)) <|
        lt (y9 ++ ([x43] : List (List UInt8))) fun x53 =>
        grd (bw (y11.length + ([x44] : List (List UInt8)).length)) <|
        lt (y11 ++ ([x44] : List (List UInt8))) fun x57 =>
        rec14 (x53, x57, x49)
else
  eh F a1 a3 y9 y11
def gL (F : Nat) (a1 : List UInt8) (a3 : List UInt8) (n : Nat) : ((List (List UInt8)) × (List (List UInt8)) × (List UInt8)) → Option ((List (List UInt8)) × (List (List UInt8)) × Int) :=
  loop (fun rec x => gM F a1 a3 rec x.1 x.2.1 x.2.2) n
def jM (F : Nat) (a1 : List UInt8) (a3 : List UInt8) : Option ((List (List UInt8)) × (List (List UInt8)) × Int) :=
gL F a1 a3 F ([], [], a1)
end Go.Pv
namespace Go.Proofs.YtdaafnaokdigbaaGreatDoor
open Go.RowKit Go.Av Go.Pv
theorem qi : ∀ (args : Array Value) (w : World), (callFunc 10 args).run Tryz.prog w = .ok (.enter 10 args) w := fun _ _ => by kernel_rfl
theorem qg : ∀ (args : Array Value) (w : World), (callFunc 12 args).run Tryz.prog w = .ok (.enter 12 args) w := fun _ _ => by kernel_rfl
theorem qd : ∀ (args : Array Value) (w : World), (callFunc 20 args).run Tryz.prog w = .ok (.enter 20 args) w := fun _ _ => by kernel_rfl
theorem qc : ∀ (args : Array Value) (w : World), (callFunc 21 args).run Tryz.prog w = .ok (.enter 21 args) w := fun _ _ => by kernel_rfl
theorem qb : ∀ (args : Array Value) (w : World), (callFunc 22 args).run Tryz.prog w = .ok (.enter 22 args) w := fun _ _ => by kernel_rfl
theorem qa : ∀ (args : Array Value) (w : World), (callFunc 23 args).run Tryz.prog w = .ok (.enter 23 args) w := fun _ _ => by kernel_rfl
theorem pZ : ∀ (args : Array Value) (w : World), (callFunc 24 args).run Tryz.prog w = .ok (.enter 24 args) w := fun _ _ => by kernel_rfl
theorem pY : ∀ (args : Array Value) (w : World), (callFunc 27 args).run Tryz.prog w = .ok (.enter 27 args) w := fun _ _ => by kernel_rfl
theorem pX : ∀ (args : Array Value) (w : World), (callFunc 28 args).run Tryz.prog w = .ok (.enter 28 args) w := fun _ _ => by kernel_rfl
theorem pW : ∀ (args : Array Value) (w : World), (callFunc 29 args).run Tryz.prog w = .ok (.enter 29 args) w := fun _ _ => by kernel_rfl
theorem pV : ∀ (args : Array Value) (w : World), (callFunc 30 args).run Tryz.prog w = .ok (.enter 30 args) w := fun _ _ => by kernel_rfl
theorem pU : ∀ (args : Array Value) (w : World), (callFunc 33 args).run Tryz.prog w = .ok (.enter 33 args) w := fun _ _ => by kernel_rfl
theorem pS : ∀ (args : Array Value) (w : World), (callFunc 34 args).run Tryz.prog w = .ok (.enter 34 args) w := fun _ _ => by kernel_rfl
theorem pR : ∀ (args : Array Value) (w : World), (callFunc 35 args).run Tryz.prog w = .ok (.enter 35 args) w := fun _ _ => by kernel_rfl
theorem pP : ∀ (args : Array Value) (w : World), (callFunc 36 args).run Tryz.prog w = .ok (.enter 36 args) w := fun _ _ => by kernel_rfl
theorem pM : ∀ (args : Array Value) (w : World), (callFunc 40 args).run Tryz.prog w = .ok (.enter 40 args) w := fun _ _ => by kernel_rfl
theorem pL : ∀ (args : Array Value) (w : World), (callFunc 41 args).run Tryz.prog w = .ok (.enter 41 args) w := fun _ _ => by kernel_rfl
theorem pJ : ∀ (args : Array Value) (w : World), (callFunc 42 args).run Tryz.prog w = .ok (.enter 42 args) w := fun _ _ => by kernel_rfl
theorem pI : ∀ (args : Array Value) (w : World), (callFunc 43 args).run Tryz.prog w = .ok (.enter 43 args) w := fun _ _ => by kernel_rfl
theorem pH : ∀ (args : Array Value) (w : World), (callFunc 46 args).run Tryz.prog w = .ok (.enter 46 args) w := fun _ _ => by kernel_rfl
theorem pG : ∀ (args : Array Value) (w : World), (callFunc 49 args).run Tryz.prog w = .ok (.enter 49 args) w := fun _ _ => by kernel_rfl
theorem pE : ∀ (args : Array Value) (w : World), (callFunc 55 args).run Tryz.prog w = .ok (.enter 55 args) w := fun _ _ => by kernel_rfl
theorem pD : ∀ (args : Array Value) (w : World), (callFunc 56 args).run Tryz.prog w = .ok (.enter 56 args) w := fun _ _ => by kernel_rfl
set_option maxRecDepth 100000 in
set_option maxHeartbeats 1000000 in
theorem nL (F : Nat) (a1 : List UInt8) (q2 : Option Nat) (o3 : Nat) (a4 : List UInt8) (r5 : Bool) (H : ic F a1 a4 = some r5) : ACalls Tryz.prog 29 [slE Enc.byte a1 q2, .pt o3 0] [.obj o3 [S a4]] (fun e A' => e = .ret (B r5) ∧ A' = [.obj o3 [S a4]]) := by
 unfold ic at H
 refine ax Tryz.func29 rfl rfl ?_;show AW _ _ 8 _ _ _;refine ah <| ab ?_;show AR _ _ _ _ _ [0] _;refine za rfl <| ai <| ah ?_;obtain ⟨g6, H⟩ := aF H;obtain ⟨g8, H⟩ := aF H;obtain ⟨g9, H⟩ := aF H;obtain ⟨g10, H⟩ := aF H;obtain ⟨x11, e12, H⟩ := bi H;refine ab ?_;show AR _ _ _ _ _ [0, 1, 2, 3, 4] _;refine zS rfl (ac (av := slE _ _ _) rfl) <| zR rfl (ak (i := 0) af rfl rfl rfl rfl) <| zX rfl (cV (bytes := 1) af aa aB rfl g6) ?_;rintro _ _ ⟨t7, rfl, rfl⟩;refine am rfl rfl (aN rfl pV rfl (show ACalls _ _ _ [] (Ret (B x11) []) from by subst e12; exact jS a1 a4 q2 (some t7) (gl g8) (of_decide_eq_true g9) (gl g10)) ?_);refine za rfl <| ai <| aP ?_;obtain rfl := ap H;exact And.intro rfl (Exists.intro _ (Exists.intro _ ⟨aR rfl (.refl _), aM [1] rfl, rfl, rfl⟩))
set_option maxRecDepth 100000 in
set_option maxHeartbeats 1000000 in
theorem md (F : Nat) (a1 : List (List UInt8)) (q2 : Option Nat) (o3 : Nat) (a4 : List UInt8) (r5 : Int) (H : gz F a1 a4 = some r5) : ACalls Tryz.prog 49 [slE (Enc.sl Enc.byte) a1 q2, .fn (.func 29) [] [.pt o3 0]] [.obj o3 [S a4]] (fun e A' => e = .ret (i64 r5) ∧ A' = [.obj o3 [S a4]]) := by
 unfold gz at H
 refine ax Tryz.func49 rfl rfl ?_;show AW _ _ 19 _ _ _;refine ah <| ab ?_;show AR _ _ _ _ _ [0] _;refine za rfl <| ai <| bP (X := Unit) (fun _ => ⟨[], [], [.obj o3 [S a4]]⟩) (fun _ => dE = some r5) ?_ ?_
 ·refine ah <| ab ?_;show AR _ _ _ _ _ [0, 1, 2] _;refine zS rfl (ac (av := slE _ _ _) rfl) <| zS rfl (aG aq rfl) <| zm rfl <| ai <| aO <| bZ (X := Nat × Int) (fun (n8, y6) => ⟨[(0, slE (Enc.sl Enc.byte) a1 q2), (1, .fn (.func 29) [] [.pt o3 0]), (7, i64 (a1.length : Int)), (8, i64 y6)], [], [.obj o3 [S a4]]⟩) (fun (n8, y6) => dF F a1 a4 n8 y6 = some r5) (fun (n8, y6) => n8) (F, 0) H (ba [0] (.cons (.refl _) (.cons (.refl _) (.cons (.refl _) (.cons (.refl _) (.nil _))))) rfl) ?_;rintro ⟨n8, y6⟩ H;obtain ⟨n8, rfl, H⟩ := cB H;replace H : dG F a1 a4 (dF F a1 a4 n8) y6 = some r5 := H
  unfold dG at H
  refine ah <| ab ?_;show AR _ _ _ _ _ [0] _;refine zS rfl (bI rfl rfl) <| ai <| ah <| aH rfl (fun c9 => ?_) (fun c9 => ?_)
  ·replace H := bk c9 H;refine aJ <| ah <| aO <| ah <| ab ?_;show AR _ _ _ _ _ [0, 1] _;refine zm rfl <| za rfl <| ai <| ah ?_;obtain ⟨g10, H⟩ := aF H;obtain ⟨x11, e12, H⟩ := bi H;obtain ⟨x13, e14, H⟩ := dz H;refine ab ?_;show AR _ _ _ _ _ [0, 1, 2, 3, 4, 5] _;refine zS rfl (ac (av := .fn _ _ _) rfl) <| zS rfl (ac (av := slE _ _ _) rfl) <| zm rfl <| zS rfl (bn (E := (Enc.sl Enc.byte)) aq (by kernel_rfl) rfl rfl g10 e12) <| zS rfl (aU aa rfl rfl) <| am rfl rfl (AO.callFAt [0] rfl (.inl rfl) pW rfl (nL F x11 none o3 a4 x13 e14) rfl (fun c A' h => by cases h.1) ?_)
   rintro av A' ⟨h, rfl⟩; cases h
   refine ai <| aH rfl (fun c15 => ?_) (fun c15 => ?_)
   ·replace H := bk c15 H;refine ah <| ab ?_;show AR _ _ _ _ _ [0, 1] _;refine zm rfl <| za rfl <| ai <| aP ?_;obtain rfl := ap H;exact And.intro rfl (Exists.intro _ (Exists.intro _ ⟨aR rfl (.refl _), aM [0] rfl, rfl, rfl⟩))
   ·replace H := bl c15 H;refine aJ ?_;obtain ⟨g16, H⟩ := aF H;refine ab ?_;show AR _ _ _ _ _ [0, 1] _;refine zS rfl (bC rfl rfl g16) <| zm rfl <| ai ?_;exact Exists.intro (n8, y6 + 1) ⟨H, Nat.lt_succ_self _, ba [0] (.cons (.refl _) (.cons (.refl _) (.cons (.refl _) (.cons (.refl _) (.nil _))))) rfl⟩
  ·replace H := bl c9 H;refine bQ ?_;exact Exists.intro () ⟨H, ba [0] (.nil _) rfl⟩
 rintro _ H;replace H : dE = some r5 := H
 unfold dE at H
 refine ah <| ab ?_;show AR _ _ _ _ _ [0] _;refine za rfl <| ai <| aP ?_;obtain rfl := ap H;exact And.intro rfl (Exists.intro _ (Exists.intro _ ⟨aR rfl (.refl _), aM [0] rfl, rfl, rfl⟩))
set_option maxRecDepth 100000 in
set_option maxHeartbeats 1000000 in
theorem kj (F : Nat) (a1 : List (List UInt8)) (q2 : Option Nat) (o3 : Nat) (a4 : List UInt8) (r5 : Bool) (H : cW F a1 a4 = some r5) : ACalls Tryz.prog 28 [slE (Enc.sl Enc.byte) a1 q2, .fn (.func 29) [] [.pt o3 0]] [.obj o3 [S a4]] (fun e A' => e = .ret (B r5) ∧ A' = [.obj o3 [S a4]]) := by
 unfold cW at H
 refine ax Tryz.func28 rfl rfl ?_;show AW _ _ 9 _ _ _;refine ah <| ab ?_;show AR _ _ _ _ _ [0] _;refine za rfl <| ai <| ah ?_;obtain ⟨x6, e7, H⟩ := dz H;refine ab ?_;show AR _ _ _ _ _ [0, 1, 2, 3, 4] _;refine zS rfl (ac (av := slE _ _ _) rfl) <| zS rfl (ac (av := .fn _ _ _) rfl) <| am rfl rfl (AO.callAt [0] rfl pG rfl (md F a1 q2 o3 a4 x6 e7) rfl (fun c A' h => by cases h.1) ?_)
 rintro av A' ⟨h, rfl⟩; cases h
 refine zS rfl (gm rfl rfl) <| za rfl <| ai <| aP ?_;obtain rfl := ap H;exact And.intro rfl (Exists.intro _ (Exists.intro _ ⟨aR rfl (.refl _), aM [0] rfl, rfl, rfl⟩))
set_option maxRecDepth 100000 in
set_option maxHeartbeats 1000000 in
theorem iI (F : Nat) (a1 : List (List UInt8)) (q2 : Option Nat) (r3 : List UInt8) (H : ei F a1 = some r3) : ACalls Tryz.prog 12 [slE (Enc.sl Enc.byte) a1 q2] [] (Ret (S r3) []) := by
 unfold ei at H
 refine ax Tryz.func12 rfl rfl ?_;show AW _ _ 15 _ _ _;refine ah <| ab ?_;show AR _ _ _ _ _ [0] _;refine za rfl <| ai <| ah <| ab ?_;show AR _ _ _ _ _ [0] _;refine za rfl <| ai <| aO <| bZ (X := Nat × Int) (fun (n6, y4) => ⟨[(0, slE (Enc.sl Enc.byte) a1 q2), (3, i64 y4)], [], []⟩) (fun (n6, y4) => cS F a1 n6 y4 = some r3) (fun (n6, y4) => n6) (F, 0) H (ba [] (.cons (.refl _) (.cons (.refl _) (.nil _))) rfl) ?_;rintro ⟨n6, y4⟩ H;obtain ⟨n6, rfl, H⟩ := cB H;replace H : cT F a1 (cS F a1 n6) y4 = some r3 := H
 unfold cT at H
 refine ah <| aO <| ah ?_;obtain ⟨g7, H⟩ := aF H;obtain ⟨x8, e9, H⟩ := bi H;obtain ⟨g10, H⟩ := aF H;obtain ⟨x11, e12, H⟩ := bi H;refine ab ?_;show AR _ _ _ _ _ [0, 1, 2, 3, 4] _;refine zm rfl <| am rfl rfl (aN rfl pY rfl (show ACalls _ _ _ [] (Ret (S x8) []) from by subst e9; exact nZ y4 (okI_s g7)) ?_);refine zS rfl (da rfl rfl g10 e12) <| zX rfl (dd (zs := [.string ⟨#[]⟩]) (by kernel_rfl)) ?_;rintro _ _ ⟨o13, rfl, rfl⟩;refine s0 rfl rfl (an (i := 0) (c := .v _) (by kernel_rfl) rfl rfl rfl rfl (ag rfl)) <| ai <| ah ?_;obtain ⟨x14, e15, H⟩ := dz H;refine ab ?_;show AR _ _ _ _ _ [0, 1, 2, 3] _;refine zS rfl (ac (av := slE _ _ _) rfl) <| zS rfl (iv rfl rfl) <| am rfl rfl (AO.callAt [0] rfl pX rfl (kj F a1 q2 o13 x11 x14 e15) rfl (fun c A' h => by cases h.1) ?_)
 rintro av A' ⟨h, rfl⟩; cases h
 refine zS rfl (ck rfl) <| ai <| aH rfl (fun c16 => ?_) (fun c16 => ?_)
 ·replace H := bk c16 H;refine ah <| ab ?_;show AR _ _ _ _ _ [0, 1] _;refine zR rfl (ak (i := 0) af rfl rfl rfl rfl) <| za rfl <| ai <| aP ?_;obtain rfl := ap H;exact And.intro rfl (Exists.intro _ (Exists.intro _ ⟨aR rfl (.refl _), aM [] rfl, rfl, rfl⟩))
 ·replace H := bl c16 H;refine aJ ?_;obtain ⟨g17, H⟩ := aF H;refine ab ?_;show AR _ _ _ _ _ [0, 1, 2] _;refine zm rfl <| zS rfl (bC rfl rfl g17) <| za rfl <| ai ?_;exact Exists.intro (n6, y4 + 1) ⟨H, Nat.lt_succ_self _, ba [] (.cons (.refl _) (.cons (.refl _) (.nil _))) rfl⟩
set_option maxRecDepth 100000 in
set_option maxHeartbeats 1000000 in
theorem nK (F : Nat) (a1 : List UInt8) (r2 : Bool) (H : jm F a1 = some r2) : ACalls Tryz.prog 22 [S a1] [] (Ret (B r2) []) := by
 unfold jm at H
 refine ax Tryz.func22 rfl rfl ?_;show AW _ _ 33 _ _ _;refine ah <| ab ?_;show AR _ _ _ _ _ [0] _;refine za rfl <| ai <| bP (X := Unit) (fun _ => ⟨[(0, S a1)], [], []⟩) (fun _ => dp a1 = some r2) ?_ ?_
 ·refine ah <| ab ?_;show AR _ _ _ _ _ [0, 1, 2] _;refine zm rfl <| zS rfl (bg af rfl) <| zm rfl <| ai <| aO <| bZ (X := Nat × Int) (fun (n5, y3) => ⟨[(0, S a1), (5, i64 (a1.length : Int)), (6, i64 y3)], [], []⟩) (fun (n5, y3) => eP a1 n5 y3 = some r2) (fun (n5, y3) => n5) (F, 0) H (ba [] (.cons (.refl _) (.cons (.refl _) (.cons (.refl _) (.nil _)))) rfl) ?_;rintro ⟨n5, y3⟩ H;obtain ⟨n5, rfl, H⟩ := cB H;replace H : eQ a1 (eP a1 n5) y3 = some r2 := H
  unfold eQ at H
  refine ah <| ab ?_;show AR _ _ _ _ _ [0] _;refine zS rfl (bI rfl rfl) <| ai <| ah <| aH rfl (fun c6 => ?_) (fun c6 => ?_)
  ·replace H := bk c6 H;refine aJ <| ah <| aO <| ah <| ab ?_;show AR _ _ _ _ _ [0, 1] _;refine zm rfl <| za rfl <| ai <| ah ?_;obtain ⟨g7, H⟩ := aF H;obtain ⟨x8, e9, H⟩ := bi H;obtain ⟨x10, e11, H⟩ := bi H;refine ab ?_;show AR _ _ _ _ _ [0, 1, 2, 3, 4] _;refine zm rfl <| zm rfl <| zS rfl (cj af rfl rfl g7 e9) <| am rfl rfl (aN rfl pL rfl (show ACalls _ _ _ [] (Ret (i64 x10) []) from by subst e11; exact gO jZ x8) ?_);refine zS rfl (bI rfl rfl) <| ai <| aH rfl (fun c12 => ?_) (fun c12 => ?_)
   ·replace H := bk c12 H;refine ah <| ab ?_;show AR _ _ _ _ _ [0] _;refine za rfl <| ai <| aP ?_;obtain rfl := ap H;exact And.intro rfl (Exists.intro _ (Exists.intro _ ⟨aR rfl (.refl _), aM [] rfl, rfl, rfl⟩))
   ·replace H := bl c12 H;refine aJ ?_;obtain ⟨g13, H⟩ := aF H;refine ab ?_;show AR _ _ _ _ _ [0, 1] _;refine zS rfl (bC rfl rfl g13) <| zm rfl <| ai ?_;exact Exists.intro (n5, y3 + 1) ⟨H, Nat.lt_succ_self _, ba [] (.cons (.refl _) (.cons (.refl _) (.cons (.refl _) (.nil _)))) rfl⟩
  ·replace H := bl c6 H;refine bQ ?_;exact Exists.intro () ⟨H, ba [] (.cons (.refl _) (.nil _)) rfl⟩
 rintro _ H;replace H : dp a1 = some r2 := H
 unfold dp at H
 refine ah ?_;obtain ⟨g17, H⟩ := eA H;obtain ⟨x18, e19, H⟩ := bi H;obtain ⟨g21, H⟩ := eA H;obtain ⟨x22, e23, H⟩ := bi H;refine ab ?_;show AR _ _ _ _ _ [0, 1, 2, 3, 4, 5, 6, 7, 8, 9, 10, 11, 12, 13, 14, 15, 16, 17, 18] _;refine zm rfl <| zS rfl (fX rfl rfl) <| zm rfl <| aZ (l := [7, 8, 9, 10, 11, 12, 13, 14, 15, 16, 17, 18]) 21 (B ((!decide (a1 = ([] : List UInt8))) && (decide ((a1.length : Int) ≤ 60)))) (fun K => ?_) ?_
 ·rcases aj (!decide (a1 = ([] : List UInt8))) with h15 | h15
  ·refine zM h15 rfl <| zU h15 rfl (bg af rfl) <| zU h15 rfl (hU rfl rfl) <| zS rfl (aC (av := .v _) rfl h15 rfl) ?_;exact K _ 3 _ (ay (cH h15)) rfl rfl
  ·refine zF h15 rfl <| zF h15 rfl <| zF h15 rfl <| zS rfl (aD (av := .v _) rfl h15 rfl) ?_;exact K _ 3 _ (ay (cI h15)) rfl rfl
 refine zm rfl <| aZ (l := [13, 14, 15, 16, 17, 18]) 27 (B (((!decide (a1 = ([] : List UInt8))) && (decide ((a1.length : Int) ≤ 60))) && (decide (x18 = a1)))) (fun K => ?_) ?_
 ·rcases aj ((!decide (a1 = ([] : List UInt8))) && (decide ((a1.length : Int) ≤ 60))) with h16 | h16
  ·refine zM h16 rfl <| zT h16 rfl (aN rfl pJ rfl (show ACalls _ _ _ [] (Ret (S x18) []) from by subst e19; exact mJ a1 32 (by decide) (gl (g17 h16))) ?_);refine zM h16 rfl <| zU h16 rfl (iO rfl rfl) <| zS rfl (aC (av := .v _) rfl h16 rfl) ?_;exact K _ 4 _ (ay (cH h16)) rfl rfl
  ·refine zF h16 rfl <| zF h16 rfl <| zF h16 rfl <| zF h16 rfl <| zS rfl (aD (av := .v _) rfl h16 rfl) ?_;exact K _ 4 _ (ay (cI h16)) rfl rfl
 refine zm rfl <| aZ (l := [18]) 32 (B ((((!decide (a1 = ([] : List UInt8))) && (decide ((a1.length : Int) ≤ 60))) && (decide (x18 = a1))) && (!x22))) (fun K => ?_) ?_
 ·rcases aj (((!decide (a1 = ([] : List UInt8))) && (decide ((a1.length : Int) ≤ 60))) && (decide (x18 = a1))) with h20 | h20
  ·refine zM h20 rfl <| zT h20 rfl (aN rfl pI rfl (show ACalls _ _ _ [] (Ret (B x22) []) from by subst e23; exact iw a1 ([32, 32] : List UInt8) (gl (g21 h20))) ?_);refine zU h20 rfl (ck rfl) <| zS rfl (aC (av := .v _) rfl h20 rfl) ?_;exact K _ 3 _ (ay (cH h20)) rfl rfl
  ·refine zF h20 rfl <| zF h20 rfl <| zF h20 rfl <| zS rfl (aD (av := .v _) rfl h20 rfl) ?_;exact K _ 3 _ (ay (cI h20)) rfl rfl
 refine za rfl <| ai <| aP ?_;obtain rfl := ap H;exact And.intro rfl (Exists.intro _ (Exists.intro _ ⟨aR rfl (.refl _), aM [] rfl, rfl, rfl⟩))
set_option maxRecDepth 100000 in
set_option maxHeartbeats 1000000 in
theorem nJ (F : Nat) (a1 : List UInt8) (r2 : Bool) (H : jl F a1 = some r2) : ACalls Tryz.prog 21 [S a1] [] (Ret (B r2) []) := by
 unfold jl at H
 refine ax Tryz.func21 rfl rfl ?_;show AW _ _ 6 _ _ _;refine ah <| ab ?_;show AR _ _ _ _ _ [0] _;refine za rfl <| ai <| ah ?_;obtain ⟨x3, e4, H⟩ := dz H;refine ab ?_;show AR _ _ _ _ _ [0, 1, 2, 3] _;refine zm rfl <| am rfl rfl (aN rfl qb rfl (nK F a1 x3 e4) ?_);refine zS rfl (ck rfl) <| za rfl <| ai <| aP ?_;obtain rfl := ap H;exact And.intro rfl (Exists.intro _ (Exists.intro _ ⟨aR rfl (.refl _), aM [] rfl, rfl, rfl⟩))
set_option maxRecDepth 100000 in
set_option maxHeartbeats 1000000 in
theorem mc (F : Nat) (a1 : List (List UInt8)) (q2 : Option Nat) (r3 : Int) (H : gy F a1 = some r3) : ACalls Tryz.prog 40 [slE Enc.str a1 q2, .v (.func (.func 21) #[] #[])] [] (Ret (i64 r3) []) := by
 unfold gy at H
 refine ax Tryz.func40 rfl rfl ?_;show AW _ _ 19 _ _ _;refine ah <| ab ?_;show AR _ _ _ _ _ [0] _;refine za rfl <| ai <| bP (X := Unit) (fun _ => ⟨[], [], []⟩) (fun _ => dB = some r3) ?_ ?_
 ·refine ah <| ab ?_;show AR _ _ _ _ _ [0, 1, 2] _;refine zS rfl (ac (av := slE _ _ _) rfl) <| zS rfl (aG ar rfl) <| zm rfl <| ai <| aO <| bZ (X := Nat × Int) (fun (n6, y4) => ⟨[(0, slE Enc.str a1 q2), (1, .v (.func (.func 21) #[] #[])), (7, i64 (a1.length : Int)), (8, i64 y4)], [], []⟩) (fun (n6, y4) => dC F a1 n6 y4 = some r3) (fun (n6, y4) => n6) (F, 0) H (ba [] (.cons (.refl _) (.cons (.refl _) (.cons (.refl _) (.cons (.refl _) (.nil _))))) rfl) ?_;rintro ⟨n6, y4⟩ H;obtain ⟨n6, rfl, H⟩ := cB H;replace H : dD F a1 (dC F a1 n6) y4 = some r3 := H
  unfold dD at H
  refine ah <| ab ?_;show AR _ _ _ _ _ [0] _;refine zS rfl (bI rfl rfl) <| ai <| ah <| aH rfl (fun c7 => ?_) (fun c7 => ?_)
  ·replace H := bk c7 H;refine aJ <| ah <| aO <| ah <| ab ?_;show AR _ _ _ _ _ [0, 1] _;refine zm rfl <| za rfl <| ai <| ah ?_;obtain ⟨g8, H⟩ := aF H;obtain ⟨x9, e10, H⟩ := bi H;obtain ⟨x11, e12, H⟩ := dz H;refine ab ?_;show AR _ _ _ _ _ [0, 1, 2, 3, 4, 5] _;refine zm rfl <| zS rfl (ac (av := slE _ _ _) rfl) <| zm rfl <| zS rfl (bn (E := Enc.str) ar (by kernel_rfl) rfl rfl g8 e10) <| zS rfl (aU af rfl rfl) <| am rfl rfl (AO.callFp rfl (.inr ⟨rfl, rfl, rfl⟩) qc rfl (nJ F x9 x11 e12) ?_);refine ai <| aH rfl (fun c13 => ?_) (fun c13 => ?_)
   ·replace H := bk c13 H;refine ah <| ab ?_;show AR _ _ _ _ _ [0, 1] _;refine zm rfl <| za rfl <| ai <| aP ?_;obtain rfl := ap H;exact And.intro rfl (Exists.intro _ (Exists.intro _ ⟨aR rfl (.refl _), aM [] rfl, rfl, rfl⟩))
   ·replace H := bl c13 H;refine aJ ?_;obtain ⟨g14, H⟩ := aF H;refine ab ?_;show AR _ _ _ _ _ [0, 1] _;refine zS rfl (bC rfl rfl g14) <| zm rfl <| ai ?_;exact Exists.intro (n6, y4 + 1) ⟨H, Nat.lt_succ_self _, ba [] (.cons (.refl _) (.cons (.refl _) (.cons (.refl _) (.cons (.refl _) (.nil _))))) rfl⟩
  ·replace H := bl c7 H;refine bQ ?_;exact Exists.intro () ⟨H, ba [] (.nil _) rfl⟩
 rintro _ H;replace H : dB = some r3 := H
 unfold dB at H
 refine ah <| ab ?_;show AR _ _ _ _ _ [0] _;refine za rfl <| ai <| aP ?_;obtain rfl := ap H;exact And.intro rfl (Exists.intro _ (Exists.intro _ ⟨aR rfl (.refl _), aM [] rfl, rfl, rfl⟩))
set_option maxRecDepth 100000 in
set_option maxHeartbeats 1000000 in
theorem ki (F : Nat) (a1 : List (List UInt8)) (q2 : Option Nat) (r3 : Bool) (H : dH F a1 = some r3) : ACalls Tryz.prog 20 [slE Enc.str a1 q2, .v (.func (.func 21) #[] #[])] [] (Ret (B r3) []) := by
 unfold dH at H
 refine ax Tryz.func20 rfl rfl ?_;show AW _ _ 9 _ _ _;refine ah <| ab ?_;show AR _ _ _ _ _ [0] _;refine za rfl <| ai <| ah ?_;obtain ⟨x4, e5, H⟩ := dz H;refine ab ?_;show AR _ _ _ _ _ [0, 1, 2, 3, 4] _;refine zS rfl (ac (av := slE _ _ _) rfl) <| zm rfl <| am rfl rfl (aN rfl pM rfl (mc F a1 q2 x4 e5) ?_);refine zS rfl (gm rfl rfl) <| za rfl <| ai <| aP ?_;obtain rfl := ap H;exact And.intro rfl (Exists.intro _ (Exists.intro _ ⟨aR rfl (.refl _), aM [] rfl, rfl, rfl⟩))
set_option maxRecDepth 100000 in
set_option maxHeartbeats 1000000 in
theorem oW (F : Nat) (o1 : Nat) (a2 : List UInt8) (t3 : Nat) (a4 : List UInt8) (a5 : List UInt8) (a6 : List UInt8) (q7 : Option Nat) (r8 : List UInt8) (H : jh F a2 a4 a5 a6 = some r8) : ACalls Tryz.prog 24 [.pt o1 0, S a5, slE Enc.byte a6 q7] [.obj o1 [slE Enc.byte a2 (some t3), S a4], .tok t3 5] (fun e A' => e = .ret (.tup []) ∧ ∃ t9, A' = [.obj o1 [slE Enc.byte r8 (some t9), S a4], .tok t9 5]) := by
 unfold jh at H
 refine ax Tryz.func24 rfl rfl ?_;show AW _ _ 42 _ _ _;refine ah ?_;obtain ⟨x10, x11, e12, H⟩ := fm H;refine ab ?_;show AR _ _ _ _ _ [0, 1, 2, 3, 4, 5, 6, 7, 8, 9] _;refine zm rfl <| zS rfl (jx (zs := [.string ⟨#[]⟩, .string ⟨#[]⟩]) (ps := [(0, 1), (1, 1)]) (cs := [S ([67, 111, 110, 116, 101, 110, 116, 45, 84, 121, 112, 101] : List UInt8), S a5]) (by kernel_rfl) rfl rfl) <| zS rfl (jx (zs := [.string ⟨#[]⟩, .string ⟨#[]⟩]) (ps := [(0, 1), (1, 1)]) (cs := [S parta_k2, S ([113, 117, 111, 116, 101, 100, 45, 112, 114, 105, 110, 116, 97, 98, 108, 101] : List UInt8)]) (by kernel_rfl) rfl rfl) <| zR rfl (jW (E := (de Enc.str Enc.str)) (bytes := 32) (zs := [.string ⟨#[]⟩, .string ⟨#[]⟩]) (l := ([(([67, 111, 110, 116, 101, 110, 116, 45, 84, 121, 112, 101] : List UInt8), a5), (parta_k2, ([113, 117, 111, 116, 101, 100, 45, 112, 114, 105, 110, 116, 97, 98, 108, 101] : List UInt8))] : List ((List UInt8) × List UInt8))) bX (by kernel_rfl) (by kernel_rfl) rfl rfl rfl rfl rfl) <| am rfl rfl (aN rfl pH rfl (pa F ([(([67, 111, 110, 116, 101, 110, 116, 45, 84, 121, 112, 101] : List UInt8), a5), (parta_k2, ([113, 117, 111, 116, 101, 100, 45, 112, 114, 105, 110, 116, 97, 98, 108, 101] : List UInt8))] : List ((List UInt8) × List UInt8)) none x10 x11 e12) ?_)
 refine zS rfl (ac (av := .tup _) rfl) <| zS rfl (aE (av := slE _ _ _) rfl rfl) <| zS rfl (aE (av := .v _) rfl rfl) <| zS rfl (ao (av := slE _ _ _) rfl) <| za rfl <| ai <| bP (X := (List UInt8) × Nat) (fun (y24, t25) => ⟨[(0, .pt o1 0), (2, slE Enc.byte a6 q7), (6, slE Enc.byte x10 none)], [], [.obj o1 [slE Enc.byte y24 (some t25), S a4], .tok t25 5]⟩) (fun (y24, t25) => fI a6 x10 y24 = some r8) ?_ ?_
 ·obtain ⟨g13, H⟩ := aF H;obtain ⟨x14, e15, H⟩ := bi H;obtain ⟨g16, H⟩ := aF H;obtain ⟨x17, e18, H⟩ := bi H;obtain ⟨g20, H⟩ := aF H;obtain ⟨x21, e22, H⟩ := bi H;refine bH (by kernel_rfl) ?_;show AI _ _ _ _ _ 15 (Array.replicate 15 false) _;refine zk 0 rfl (ac (av := .pt _ _) rfl) ?_;show AI _ _ _ _ _ _ #[true, false, false, false, false, false, false, false, false, false, false, false, false, false, false] _;refine zk 1 rfl (ac (av := .pt _ _) rfl) ?_;show AI _ _ _ _ _ _ #[true, true, false, false, false, false, false, false, false, false, false, false, false, false, false] _;refine zk 2 rfl (az rfl) ?_;show AI _ _ _ _ _ _ #[true, true, true, false, false, false, false, false, false, false, false, false, false, false, false] _;refine zk 3 rfl (au (n := 0) (by kernel_rfl) rfl) ?_;show AI _ _ _ _ _ _ #[true, true, true, true, false, false, false, false, false, false, false, false, false, false, false] _;refine zk 5 rfl (ac (av := .pt _ _) rfl) ?_;show AI _ _ _ _ _ _ #[true, true, true, true, false, true, false, false, false, false, false, false, false, false, false] _;refine zk 6 rfl (az rfl) ?_;show AI _ _ _ _ _ _ #[true, true, true, true, false, true, true, false, false, false, false, false, false, false, false] _;refine zk 7 rfl (au (n := 1) (by kernel_rfl) rfl) ?_;show AI _ _ _ _ _ _ #[true, true, true, true, false, true, true, true, false, false, false, false, false, false, false] _;refine cD (i := 4) (j := 8) (by kernel_rfl) rfl rfl rfl rfl ?_ ?_
  ·refine aL rfl (ak (i := 0) aa rfl rfl rfl rfl) ?_;show AI _ _ _ _ _ _ #[true, true, true, true, true, true, true, true, false, false, false, false, false, false, false] _;refine aQ (i := 8) (by kernel_rfl) rfl rfl <| aL rfl (ak (i := 0) af rfl rfl rfl rfl) ?_;show AI _ _ _ _ _ _ #[true, true, true, true, true, true, true, true, true, false, false, false, false, false, false] _;refine zk 9 rfl (da rfl rfl g13 e15) ?_;show AI _ _ _ _ _ _ #[true, true, true, true, true, true, true, true, true, true, false, false, false, false, false] _;refine zk 10 rfl (da rfl rfl g16 e18) ?_;show AI _ _ _ _ _ _ #[true, true, true, true, true, true, true, true, true, true, true, false, false, false, false] _;refine aQ (i := 11) (by kernel_rfl) rfl rfl <| bt rfl (aY (bytes := 1) 1 aa af rfl (by kernel_rfl) rfl rfl rfl rfl g20 e22) ?_;rintro _ _ ⟨t19, rfl, rfl⟩;show AI _ _ _ _ _ _ #[true, true, true, true, true, true, true, true, true, true, true, true, false, false, false] _;refine zk 12 rfl (az rfl) ?_;show AI _ _ _ _ _ _ #[true, true, true, true, true, true, true, true, true, true, true, true, true, false, false] _;refine zk 13 rfl (au (n := 0) (by kernel_rfl) rfl) ?_;show AI _ _ _ _ _ _ #[true, true, true, true, true, true, true, true, true, true, true, true, true, true, false] _;refine aQ (i := 14) (by kernel_rfl) rfl rfl <| bN (an (i := 0) (c := slE _ _ _) (by kernel_rfl) rfl rfl rfl rfl (ag rfl)) ?_
   show AI _ _ _ _ _ _ #[true, true, true, true, true, true, true, true, true, true, true, true, true, true, true] _;refine br rfl ?_;exact Exists.intro (x21, t19) ⟨H, ba [0, 0] (.cons (.refl _) (.cons (.refl _) (.cons (.refl _) (.nil _)))) rfl⟩
  ·refine aL rfl (ak (i := 0) af rfl rfl rfl rfl) ?_;show AI _ _ _ _ _ _ #[true, true, true, true, false, true, true, true, true, false, false, false, false, false, false] _;refine zk 9 rfl (da rfl rfl g13 e15) ?_;show AI _ _ _ _ _ _ #[true, true, true, true, false, true, true, true, true, true, false, false, false, false, false] _;refine zk 10 rfl (da rfl rfl g16 e18) ?_;show AI _ _ _ _ _ _ #[true, true, true, true, false, true, true, true, true, true, true, false, false, false, false] _;refine aQ (i := 4) (by kernel_rfl) rfl rfl <| aL rfl (ak (i := 0) aa rfl rfl rfl rfl) ?_;show AI _ _ _ _ _ _ #[true, true, true, true, true, true, true, true, true, true, true, false, false, false, false] _;refine aQ (i := 11) (by kernel_rfl) rfl rfl <| bt rfl (aY (bytes := 1) 1 aa af rfl (by kernel_rfl) rfl rfl rfl rfl g20 e22) ?_;rintro _ _ ⟨t23, rfl, rfl⟩;show AI _ _ _ _ _ _ #[true, true, true, true, true, true, true, true, true, true, true, true, false, false, false] _;refine zk 12 rfl (az rfl) ?_;show AI _ _ _ _ _ _ #[true, true, true, true, true, true, true, true, true, true, true, true, true, false, false] _;refine zk 13 rfl (au (n := 0) (by kernel_rfl) rfl) ?_;show AI _ _ _ _ _ _ #[true, true, true, true, true, true, true, true, true, true, true, true, true, true, false] _;refine aQ (i := 14) (by kernel_rfl) rfl rfl <| bN (an (i := 0) (c := slE _ _ _) (by kernel_rfl) rfl rfl rfl rfl (ag rfl)) ?_
   show AI _ _ _ _ _ _ #[true, true, true, true, true, true, true, true, true, true, true, true, true, true, true] _;refine br rfl ?_;exact Exists.intro (x21, t23) ⟨H, ba [0, 0] (.cons (.refl _) (.cons (.refl _) (.cons (.refl _) (.nil _)))) rfl⟩
 rintro ⟨y24, t25⟩ H;replace H : fI a6 x10 y24 = some r8 := H
 unfold fI at H
 obtain ⟨g28, H⟩ := aF H;obtain ⟨x29, e30, H⟩ := bi H;obtain ⟨g32, H⟩ := aF H;obtain ⟨x33, e34, H⟩ := bi H;obtain ⟨g36, H⟩ := aF H;obtain ⟨x37, e38, H⟩ := bi H;refine ab ?_;show AR _ _ _ _ _ [0, 1, 2, 3, 4, 5, 6, 7, 8, 9, 10, 11, 12] _;refine zS rfl (ac (av := .pt _ _) rfl) <| zS rfl (ac (av := .pt _ _) rfl) <| zS rfl (az rfl) <| zS rfl (au (n := 0) (by kernel_rfl) rfl) <| zR rfl (ak (i := 0) aa rfl rfl rfl rfl) <| zS rfl (ac (av := slE _ _ _) rfl) <| zX rfl (bA (E := Enc.byte) (bytes := 1) 1 aa aa rfl (by kernel_rfl) rfl rfl rfl rfl g28 e30) ?_;rintro _ _ ⟨t27, rfl, rfl⟩;refine zS rfl (ac (av := slE _ _ _) rfl) <| zX rfl (bA (E := Enc.byte) (bytes := 1) 1 aa aa rfl (by kernel_rfl) rfl rfl rfl rfl g32 e34) ?_;rintro _ _ ⟨t31, rfl, rfl⟩;refine zX rfl (aY (bytes := 1) 1 aa af rfl (by kernel_rfl) rfl rfl rfl rfl g36 e38) ?_;rintro _ _ ⟨t35, rfl, rfl⟩;refine zS rfl (az rfl) <| zS rfl (au (n := 0) (by kernel_rfl) rfl) <| s0 rfl rfl (an (i := 0) (c := slE _ _ _) (by kernel_rfl) rfl rfl rfl rfl (ag rfl)) <| ai ?_;obtain rfl := ap H;exact And.intro rfl (Exists.intro _ (Exists.intro _ ⟨cG rfl, aM [0, 0] rfl, rfl, t35, rfl⟩))
set_option maxRecDepth 100000 in
set_option maxHeartbeats 1000000 in
theorem gx (F : Nat) (a1 : List (List UInt8)) (q2 : Option Nat) (a3 : List (List UInt8)) (q4 : Option Nat) (r5 : List UInt8) (r6 : List UInt8) (r7 : Int) (H : eH F a1 a3 = some (r5, r6, r7)) : ACalls Tryz.prog 10 [slE Enc.str a1 q2, slE (Enc.sl Enc.byte) a3 q4] [] (Ret (.tup [slE Enc.byte r5 none, S r6, i64 r7]) []) := by
 unfold eH at H
 refine ax Tryz.func10 rfl rfl ?_;show AW _ _ 82 _ _ _;refine ah <| ab ?_;show AR _ _ _ _ _ [0, 1, 2] _;refine za rfl <| za rfl <| za rfl <| ai <| ah <| ah ?_;obtain ⟨x11, e12, H⟩ := nE H;refine ab ?_;show AR _ _ _ _ _ [0, 1, 2, 3, 4, 5, 6, 7, 8, 9, 10, 11, 12, 13, 14, 15, 16, 17, 18] _;refine zS rfl (ac (av := slE _ _ _) rfl) <| zS rfl (aG ar rfl) <| zS rfl (ac (av := slE _ _ _) rfl) <| zS rfl (aG aq rfl) <| zS rfl (eE rfl rfl) <| zm rfl <| aZ (l := [10, 11, 12, 13, 14, 15, 16, 17, 18]) 23 (B ((!decide ((a1.length : Int) = (a3.length : Int))) || (decide ((a3.length : Int) = 0)))) (fun K => ?_) ?_
 ·rcases aj (!decide ((a1.length : Int) = (a3.length : Int))) with h8 | h8
  ·refine zF h8 rfl <| zF h8 rfl <| zF h8 rfl <| zS rfl (aC (av := .v _) rfl h8 rfl) ?_;exact K _ 3 _ (ay (fE h8)) rfl rfl
  ·refine zU h8 rfl (ac (av := slE _ _ _) rfl) <| zU h8 rfl (aG aq rfl) <| zU h8 rfl (dv rfl rfl) <| zS rfl (aD (av := .v _) rfl h8 rfl) ?_;exact K _ 3 _ (ay (fF h8)) rfl rfl
 refine zm rfl <| aZ (l := [15, 16, 17, 18]) 28 (B (((!decide ((a1.length : Int) = (a3.length : Int))) || (decide ((a3.length : Int) = 0))) || (decide (8 < (a3.length : Int))))) (fun K => ?_) ?_
 ·rcases aj ((!decide ((a1.length : Int) = (a3.length : Int))) || (decide ((a3.length : Int) = 0))) with h9 | h9
  ·refine zF h9 rfl <| zF h9 rfl <| zF h9 rfl <| zS rfl (aC (av := .v _) rfl h9 rfl) ?_;exact K _ 3 _ (ay (fE h9)) rfl rfl
  ·refine zU h9 rfl (ac (av := slE _ _ _) rfl) <| zU h9 rfl (aG aq rfl) <| zU h9 rfl (cF rfl rfl) <| zS rfl (aD (av := .v _) rfl h9 rfl) ?_;exact K _ 3 _ (ay (fF h9)) rfl rfl
 refine zm rfl <| aZ (l := []) 32 (B ((((!decide ((a1.length : Int) = (a3.length : Int))) || (decide ((a3.length : Int) = 0))) || (decide (8 < (a3.length : Int)))) || x11)) (fun K => ?_) ?_
 ·rcases aj (((!decide ((a1.length : Int) = (a3.length : Int))) || (decide ((a3.length : Int) = 0))) || (decide (8 < (a3.length : Int)))) with h10 | h10
  ·refine zF h10 rfl <| zF h10 rfl <| zS rfl (aC (av := .v _) rfl h10 rfl) ?_;exact K _ 2 _ (ay (fE h10)) rfl rfl
  ·refine zU h10 rfl (ac (av := slE _ _ _) rfl) <| zT h10 rfl (aN rfl qd rfl (ki F a1 q2 x11 (e12 (nf h10))) ?_);refine zS rfl (aD (av := .v _) rfl h10 rfl) ?_;exact K _ 2 _ (ay (fF h10)) rfl rfl
 refine ai <| aH rfl (fun c13 => ?_) (fun c13 => ?_)
 ·replace H := bk c13 H;refine ah <| ab ?_;show AR _ _ _ _ _ [0, 1, 2] _;refine za rfl <| za rfl <| za rfl <| ai <| aP ?_;obtain ⟨rfl, rfl, rfl⟩ := il H;exact And.intro rfl (Exists.intro _ (Exists.intro _ ⟨bz rfl (.nil _) (.refl _) (.refl _), aM [] rfl, rfl, rfl⟩))
 ·replace H := bl c13 H;refine aJ <| ah <| ab ?_;show AR _ _ _ _ _ [0] _;refine za rfl <| ai ?_
  refine cq 7 1 26 rfl fun t14 => ?_
  show AW _ _ _ _ _ ⟨(7, slE (Enc.sl Enc.byte) [] (some t14)) :: _, _, _⟩;refine bP (X := (List (List UInt8)) × Nat) (fun (y31, t32) => ⟨[(0, slE Enc.str a1 q2), (7, slE (Enc.sl Enc.byte) y31 (some t32))], [], [.tok t32 26]⟩) (fun (y31, t32) => dS F a1 y31 = some (r5, r6, r7)) ?_ ?_
  ·refine ah <| ab ?_;show AR _ _ _ _ _ [0, 1, 2] _;refine zS rfl (ac (av := slE _ _ _) rfl) <| zS rfl (aG aq rfl) <| zm rfl <| ai <| aO <| bZ (X := Nat × (List (List UInt8)) × Nat × Int) (fun (n19, y15, t16, y17) => ⟨[(0, slE Enc.str a1 q2), (7, slE (Enc.sl Enc.byte) y15 (some t16)), (33, slE (Enc.sl Enc.byte) a3 q4), (34, i64 (a3.length : Int)), (35, i64 y17)], [], [.tok t16 26]⟩) (fun (n19, y15, t16, y17) => eS F a1 a3 n19 (y15, y17) = some (r5, r6, r7)) (fun (n19, y15, t16, y17) => n19) (F, [], t14, 0) H (ba [0] (.cons (.refl _) (.cons (.refl _) (.cons (.refl _) (.cons (.refl _) (.cons (.refl _) (.nil _)))))) rfl) ?_;rintro ⟨n19, y15, t16, y17⟩ H;obtain ⟨n19, rfl, H⟩ := cB H;replace H : eU F a1 a3 (eS F a1 a3 n19) y15 y17 = some (r5, r6, r7) := H
   unfold eU at H
   refine ah <| ab ?_;show AR _ _ _ _ _ [0] _;refine zS rfl (bI rfl rfl) <| ai <| ah <| aH rfl (fun c20 => ?_) (fun c20 => ?_)
   ·replace H := bk c20 H;refine aJ <| ah <| aO <| ah ?_;obtain ⟨g21, H⟩ := aF H;obtain ⟨x22, e23, H⟩ := bi H;refine ab ?_;show AR _ _ _ _ _ [0, 1, 2] _;refine zS rfl (bn (E := (Enc.sl Enc.byte)) aq (by kernel_rfl) rfl rfl g21 e23) <| zS rfl (aU aa rfl rfl) <| zS rfl (ao (av := slE _ _ _) rfl) <| ai ?_;obtain ⟨x24, e25, H⟩ := dz H;obtain ⟨g27, H⟩ := aF H;obtain ⟨x28, e29, H⟩ := bi H;refine ab ?_;show AR _ _ _ _ _ [0, 1, 2, 3, 4, 5] _;refine zS rfl (ac (av := slE _ _ _) rfl) <| zS rfl (ac (av := slE _ _ _) rfl) <| am rfl rfl (aN rfl qa rfl (nH F x22 none x24 e25) ?_);refine zR rfl (bm (E := (Enc.sl Enc.byte)) (bytes := 24) (xs := [.tmp 41]) (l := ([x24] : List (List UInt8))) aq (by kernel_rfl) rfl rfl (by decide) rfl rfl) <| zX rfl (bA (E := (Enc.sl Enc.byte)) (bytes := 24) 0 aq aq rfl (by kernel_rfl) rfl rfl rfl rfl g27 e29) ?_;rintro _ _ ⟨t26, rfl, rfl⟩;refine zS rfl (ao (av := slE _ _ _) rfl) <| ai ?_;obtain ⟨g30, H⟩ := aF H;refine ab ?_;show AR _ _ _ _ _ [0, 1] _;refine zS rfl (bC rfl rfl g30) <| zm rfl <| ai ?_;exact Exists.intro (n19, x28, t26, y17 + 1) ⟨H, Nat.lt_succ_self _, ba [0] (.cons (.refl _) (.cons (.refl _) (.cons (.refl _) (.cons (.refl _) (.cons (.refl _) (.nil _)))))) rfl⟩
   ·replace H := bl c20 H;refine bQ ?_;exact Exists.intro (y15, t16) ⟨H, ba [0] (.cons (.refl _) (.cons (.refl _) (.nil _))) rfl⟩
  rintro ⟨y31, t32⟩ H;replace H : dS F a1 y31 = some (r5, r6, r7) := H
  unfold dS at H
  refine ah ?_;obtain ⟨x34, e35, H⟩ := dz H;refine ab ?_;show AR _ _ _ _ _ [0, 1, 2, 3, 4] _;refine zS rfl (ac (av := slE _ _ _) rfl) <| am rfl rfl (aN rfl qg rfl (iI F y31 (some t32) x34 e35) ?_);refine zS rfl (jx (zs := [.slice none 0 0, .string ⟨#[]⟩]) (ps := [(0, 1), (1, 1)]) (cs := [ko, S x34]) (by kernel_rfl) rfl rfl) <| zX rfl (nt rfl (.inr ⟨_, rfl⟩)) ?_;rintro _ _ ⟨o36, rfl, rfl⟩;refine zS rfl (ao (av := .pt _ _) rfl) <| ai ?_
  refine fV 0 0 1 5 rfl rfl fun t37 => ?_
  show AW _ _ _ _ _ ⟨_, _, [.tok t37 5, .obj o36 [slE Enc.byte [] (some t37), S x34], .tok t32 26]⟩;refine ah <| ab ?_;show AR _ _ _ _ _ [0, 1, 2] _;refine zS rfl (ac (av := .pt _ _) rfl) <| zS rfl (iv rfl rfl) <| zS rfl (ao (av := .fn _ _ _) rfl) <| ai <| bP (X := (List UInt8) × Nat) (fun (y54, t55) => ⟨[(10, .pt o36 0)], [], [.obj o36 [slE Enc.byte y54 (some t55), S x34], .tok t55 5]⟩) (fun (y54, t55) => eR x34 y54 = some (r5, r6, r7)) ?_ ?_
  ·refine ah <| ab ?_;show AR _ _ _ _ _ [0, 1, 2] _;refine zS rfl (ac (av := slE _ _ _) rfl) <| zS rfl (aG aq rfl) <| zm rfl <| ai <| aO <| bZ (X := Nat × Int × (List UInt8) × Nat) (fun (n42, y38, y39, t40) => ⟨[(0, slE Enc.str a1 q2), (10, .pt o36 0), (11, .fn (.func 24) [.pt o36 0] []), (51, slE (Enc.sl Enc.byte) y31 (some t32)), (52, i64 (y31.length : Int)), (53, i64 y38)], [], [.obj o36 [slE Enc.byte y39 (some t40), S x34], .tok t32 26, .tok t40 5]⟩) (fun (n42, y38, y39, t40) => eT F a1 y31 x34 n42 (y38, y39) = some (r5, r6, r7)) (fun (n42, y38, y39, t40) => n42) (F, 0, [], t37) H (ba [1, 1, 0] (.cons (.refl _) (.cons (.refl _) (.cons (.refl _) (.cons (.refl _) (.cons (.refl _) (.cons (.refl _) (.nil _))))))) rfl) ?_;rintro ⟨n42, y38, y39, t40⟩ H;obtain ⟨n42, rfl, H⟩ := cB H;replace H : eV F a1 y31 x34 (eT F a1 y31 x34 n42) y38 y39 = some (r5, r6, r7) := H
   unfold eV at H
   refine ah <| ab ?_;show AR _ _ _ _ _ [0] _;refine zS rfl (bI rfl rfl) <| ai <| ah <| aH rfl (fun c43 => ?_) (fun c43 => ?_)
   ·replace H := bk c43 H;refine aJ <| ah <| aO <| ah ?_;obtain ⟨g44, H⟩ := aF H;obtain ⟨x45, e46, H⟩ := bi H;refine ab ?_;show AR _ _ _ _ _ [0, 1, 2, 3, 4] _;refine zm rfl <| zS rfl (bn (E := (Enc.sl Enc.byte)) aq (by kernel_rfl) rfl rfl g44 e46) <| zS rfl (aU aa rfl rfl) <| za rfl <| zS rfl (ao (av := slE _ _ _) rfl) <| ai ?_;obtain ⟨g47, H⟩ := aF H;obtain ⟨x48, e49, H⟩ := bi H;obtain ⟨x50, e51, H⟩ := dz H;refine ab ?_;show AR _ _ _ _ _ [0, 1, 2, 3, 4, 5, 6] _;refine zS rfl (ac (av := .fn _ _ _) rfl) <| zS rfl (ac (av := slE _ _ _) rfl) <| zm rfl <| zS rfl (bn (E := Enc.str) ar (by kernel_rfl) rfl rfl g47 e49) <| zS rfl (aU af rfl rfl) <| zS rfl (ac (av := slE _ _ _) rfl) <| am rfl rfl (AO.callFAt [0, 1] rfl (.inl rfl) pZ rfl (oW F o36 y39 t40 x34 x48 x45 none x50 e51) rfl (fun c A' h => by cases h.1) ?_)
    rintro av A' ⟨h, t52, rfl⟩; cases h
    refine ai ?_;obtain ⟨g53, H⟩ := aF H;refine ab ?_;show AR _ _ _ _ _ [0, 1] _;refine zS rfl (bC rfl rfl g53) <| zm rfl <| ai ?_;exact Exists.intro (n42, y38 + 1, x50, t52) ⟨H, Nat.lt_succ_self _, ba [0, 1, 0] (.cons (.refl _) (.cons (.refl _) (.cons (.refl _) (.cons (.refl _) (.cons (.refl _) (.cons (.refl _) (.nil _))))))) rfl⟩
   ·replace H := bl c43 H;refine bQ ?_;exact Exists.intro (y39, t40) ⟨H, ba [0, 1] (.cons (.refl _) (.nil _)) rfl⟩
  rintro ⟨y54, t55⟩ H;replace H : eR x34 y54 = some (r5, r6, r7) := H
  unfold eR at H
  refine ah ?_;obtain ⟨g57, H⟩ := aF H;obtain ⟨x58, e59, H⟩ := bi H;obtain ⟨g60, H⟩ := aF H;obtain ⟨x61, e62, H⟩ := bi H;obtain ⟨g63, H⟩ := aF H;obtain ⟨x64, e65, H⟩ := bi H;obtain ⟨g67, H⟩ := aF H;obtain ⟨x68, e69, H⟩ := bi H;refine bH (by kernel_rfl) ?_;show AI _ _ _ _ _ 19 (Array.replicate 19 false) _;refine zk 0 rfl (ac (av := .pt _ _) rfl) ?_;show AI _ _ _ _ _ _ #[true, false, false, false, false, false, false, false, false, false, false, false, false, false, false, false, false, false, false] _;refine zk 1 rfl (az rfl) ?_;show AI _ _ _ _ _ _ #[true, true, false, false, false, false, false, false, false, false, false, false, false, false, false, false, false, false, false] _;refine zk 2 rfl (au (n := 0) (by kernel_rfl) rfl) ?_;show AI _ _ _ _ _ _ #[true, true, true, false, false, false, false, false, false, false, false, false, false, false, false, false, false, false, false] _;refine zk 4 rfl (ac (av := .pt _ _) rfl) ?_;show AI _ _ _ _ _ _ #[true, true, true, false, true, false, false, false, false, false, false, false, false, false, false, false, false, false, false] _;refine zk 5 rfl (az rfl) ?_;show AI _ _ _ _ _ _ #[true, true, true, false, true, true, false, false, false, false, false, false, false, false, false, false, false, false, false] _;refine zk 6 rfl (au (n := 1) (by kernel_rfl) rfl) ?_;show AI _ _ _ _ _ _ #[true, true, true, false, true, true, true, false, false, false, false, false, false, false, false, false, false, false, false] _
  refine zk 12 rfl (ac (av := .pt _ _) rfl) ?_;show AI _ _ _ _ _ _ #[true, true, true, false, true, true, true, false, false, false, false, false, true, false, false, false, false, false, false] _;refine zk 13 rfl (az rfl) ?_;show AI _ _ _ _ _ _ #[true, true, true, false, true, true, true, false, false, false, false, false, true, true, false, false, false, false, false] _;refine zk 14 rfl (au (n := 1) (by kernel_rfl) rfl) ?_;show AI _ _ _ _ _ _ #[true, true, true, false, true, true, true, false, false, false, false, false, true, true, true, false, false, false, false] _;refine AI.three (i := 3) (j := 7) (l := 15) (by kernel_rfl) rfl rfl rfl rfl rfl rfl ?_ ?_ ?_
  ·refine aL rfl (ak (i := 0) aa rfl rfl rfl rfl) ?_;show AI _ _ _ _ _ _ #[true, true, true, true, true, true, true, false, false, false, false, false, true, true, true, false, false, false, false] _;refine cD (i := 7) (j := 15) (by kernel_rfl) rfl rfl rfl rfl ?_ ?_
   ·refine aL rfl (ak (i := 0) af rfl rfl rfl rfl) ?_;show AI _ _ _ _ _ _ #[true, true, true, true, true, true, true, true, false, false, false, false, true, true, true, false, false, false, false] _;refine zk 8 rfl (da rfl rfl g57 e59) ?_;show AI _ _ _ _ _ _ #[true, true, true, true, true, true, true, true, true, false, false, false, true, true, true, false, false, false, false] _;refine zk 9 rfl (da rfl rfl g60 e62) ?_;show AI _ _ _ _ _ _ #[true, true, true, true, true, true, true, true, true, true, false, false, true, true, true, false, false, false, false] _;refine zk 10 rfl (da rfl rfl g63 e65) ?_;show AI _ _ _ _ _ _ #[true, true, true, true, true, true, true, true, true, true, true, false, true, true, true, false, false, false, false] _;refine cD (i := 11) (j := 15) (by kernel_rfl) rfl rfl rfl rfl ?_ ?_
    ·refine bt rfl (aY (bytes := 1) 1 aa af rfl (by kernel_rfl) rfl rfl rfl rfl g67 e69) ?_;rintro _ _ ⟨t66, rfl, rfl⟩;show AI _ _ _ _ _ _ #[true, true, true, true, true, true, true, true, true, true, true, true, true, true, true, false, false, false, false] _;refine zk 16 rfl (ao (av := slE _ _ _) rfl) ?_;show AI _ _ _ _ _ _ #[true, true, true, true, true, true, true, true, true, true, true, true, true, true, true, false, true, false, false] _;refine aQ (i := 15) (by kernel_rfl) rfl rfl <| aL rfl (ak (i := 0) af rfl rfl rfl rfl) ?_;show AI _ _ _ _ _ _ #[true, true, true, true, true, true, true, true, true, true, true, true, true, true, true, true, true, false, false] _;refine zk 17 rfl (asg rfl) ?_;show AI _ _ _ _ _ _ #[true, true, true, true, true, true, true, true, true, true, true, true, true, true, true, true, true, true, false] _;refine zk 18 rfl (asg rfl) ?_;show AI _ _ _ _ _ _ #[true, true, true, true, true, true, true, true, true, true, true, true, true, true, true, true, true, true, true] _;refine br rfl <| aP ?_;obtain ⟨rfl, rfl, rfl⟩ := il H;exact And.intro rfl (Exists.intro _ (Exists.intro _ ⟨bz rfl (.tok _ _ _) (.refl _) (.refl _), aM [] rfl, rfl, rfl⟩))
    ·refine aL rfl (ak (i := 0) af rfl rfl rfl rfl) ?_;show AI _ _ _ _ _ _ #[true, true, true, true, true, true, true, true, true, true, true, false, true, true, true, true, false, false, false] _;refine aQ (i := 11) (by kernel_rfl) rfl rfl <| bt rfl (aY (bytes := 1) 1 aa af rfl (by kernel_rfl) rfl rfl rfl rfl g67 e69) ?_;rintro _ _ ⟨t70, rfl, rfl⟩;show AI _ _ _ _ _ _ #[true, true, true, true, true, true, true, true, true, true, true, true, true, true, true, true, false, false, false] _;refine zk 16 rfl (ao (av := slE _ _ _) rfl) ?_;show AI _ _ _ _ _ _ #[true, true, true, true, true, true, true, true, true, true, true, true, true, true, true, true, true, false, false] _;refine zk 17 rfl (asg rfl) ?_;show AI _ _ _ _ _ _ #[true, true, true, true, true, true, true, true, true, true, true, true, true, true, true, true, true, true, false] _;refine zk 18 rfl (asg rfl) ?_;show AI _ _ _ _ _ _ #[true, true, true, true, true, true, true, true, true, true, true, true, true, true, true, true, true, true, true] _;refine br rfl <| aP ?_;obtain ⟨rfl, rfl, rfl⟩ := il H;exact And.intro rfl (Exists.intro _ (Exists.intro _ ⟨bz rfl (.tok _ _ _) (.refl _) (.refl _), aM [] rfl, rfl, rfl⟩))
   ·refine aL rfl (ak (i := 0) af rfl rfl rfl rfl) ?_;show AI _ _ _ _ _ _ #[true, true, true, true, true, true, true, false, false, false, false, false, true, true, true, true, false, false, false] _;refine aQ (i := 7) (by kernel_rfl) rfl rfl <| aL rfl (ak (i := 0) af rfl rfl rfl rfl) ?_;show AI _ _ _ _ _ _ #[true, true, true, true, true, true, true, true, false, false, false, false, true, true, true, true, false, false, false] _;refine zk 8 rfl (da rfl rfl g57 e59) ?_;show AI _ _ _ _ _ _ #[true, true, true, true, true, true, true, true, true, false, false, false, true, true, true, true, false, false, false] _;refine zk 9 rfl (da rfl rfl g60 e62) ?_;show AI _ _ _ _ _ _ #[true, true, true, true, true, true, true, true, true, true, false, false, true, true, true, true, false, false, false] _;refine zk 10 rfl (da rfl rfl g63 e65) ?_;show AI _ _ _ _ _ _ #[true, true, true, true, true, true, true, true, true, true, true, false, true, true, true, true, false, false, false] _;refine aQ (i := 11) (by kernel_rfl) rfl rfl <| bt rfl (aY (bytes := 1) 1 aa af rfl (by kernel_rfl) rfl rfl rfl rfl g67 e69) ?_;rintro _ _ ⟨t71, rfl, rfl⟩;show AI _ _ _ _ _ _ #[true, true, true, true, true, true, true, true, true, true, true, true, true, true, true, true, false, false, false] _;refine zk 16 rfl (ao (av := slE _ _ _) rfl) ?_;show AI _ _ _ _ _ _ #[true, true, true, true, true, true, true, true, true, true, true, true, true, true, true, true, true, false, false] _
    refine zk 17 rfl (asg rfl) ?_;show AI _ _ _ _ _ _ #[true, true, true, true, true, true, true, true, true, true, true, true, true, true, true, true, true, true, false] _;refine zk 18 rfl (asg rfl) ?_;show AI _ _ _ _ _ _ #[true, true, true, true, true, true, true, true, true, true, true, true, true, true, true, true, true, true, true] _;refine br rfl <| aP ?_;obtain ⟨rfl, rfl, rfl⟩ := il H;exact And.intro rfl (Exists.intro _ (Exists.intro _ ⟨bz rfl (.tok _ _ _) (.refl _) (.refl _), aM [] rfl, rfl, rfl⟩))
  ·refine aL rfl (ak (i := 0) af rfl rfl rfl rfl) ?_;show AI _ _ _ _ _ _ #[true, true, true, false, true, true, true, true, false, false, false, false, true, true, true, false, false, false, false] _;refine zk 8 rfl (da rfl rfl g57 e59) ?_;show AI _ _ _ _ _ _ #[true, true, true, false, true, true, true, true, true, false, false, false, true, true, true, false, false, false, false] _;refine zk 9 rfl (da rfl rfl g60 e62) ?_;show AI _ _ _ _ _ _ #[true, true, true, false, true, true, true, true, true, true, false, false, true, true, true, false, false, false, false] _;refine zk 10 rfl (da rfl rfl g63 e65) ?_;show AI _ _ _ _ _ _ #[true, true, true, false, true, true, true, true, true, true, true, false, true, true, true, false, false, false, false] _;refine cD (i := 3) (j := 15) (by kernel_rfl) rfl rfl rfl rfl ?_ ?_
   ·refine aL rfl (ak (i := 0) aa rfl rfl rfl rfl) ?_;show AI _ _ _ _ _ _ #[true, true, true, true, true, true, true, true, true, true, true, false, true, true, true, false, false, false, false] _;refine cD (i := 11) (j := 15) (by kernel_rfl) rfl rfl rfl rfl ?_ ?_
    ·refine bt rfl (aY (bytes := 1) 1 aa af rfl (by kernel_rfl) rfl rfl rfl rfl g67 e69) ?_;rintro _ _ ⟨t72, rfl, rfl⟩;show AI _ _ _ _ _ _ #[true, true, true, true, true, true, true, true, true, true, true, true, true, true, true, false, false, false, false] _;refine zk 16 rfl (ao (av := slE _ _ _) rfl) ?_;show AI _ _ _ _ _ _ #[true, true, true, true, true, true, true, true, true, true, true, true, true, true, true, false, true, false, false] _;refine aQ (i := 15) (by kernel_rfl) rfl rfl <| aL rfl (ak (i := 0) af rfl rfl rfl rfl) ?_;show AI _ _ _ _ _ _ #[true, true, true, true, true, true, true, true, true, true, true, true, true, true, true, true, true, false, false] _;refine zk 17 rfl (asg rfl) ?_;show AI _ _ _ _ _ _ #[true, true, true, true, true, true, true, true, true, true, true, true, true, true, true, true, true, true, false] _;refine zk 18 rfl (asg rfl) ?_;show AI _ _ _ _ _ _ #[true, true, true, true, true, true, true, true, true, true, true, true, true, true, true, true, true, true, true] _;refine br rfl <| aP ?_;obtain ⟨rfl, rfl, rfl⟩ := il H;exact And.intro rfl (Exists.intro _ (Exists.intro _ ⟨bz rfl (.tok _ _ _) (.refl _) (.refl _), aM [] rfl, rfl, rfl⟩))
    ·refine aL rfl (ak (i := 0) af rfl rfl rfl rfl) ?_;show AI _ _ _ _ _ _ #[true, true, true, true, true, true, true, true, true, true, true, false, true, true, true, true, false, false, false] _;refine aQ (i := 11) (by kernel_rfl) rfl rfl <| bt rfl (aY (bytes := 1) 1 aa af rfl (by kernel_rfl) rfl rfl rfl rfl g67 e69) ?_;rintro _ _ ⟨t73, rfl, rfl⟩;show AI _ _ _ _ _ _ #[true, true, true, true, true, true, true, true, true, true, true, true, true, true, true, true, false, false, false] _;refine zk 16 rfl (ao (av := slE _ _ _) rfl) ?_;show AI _ _ _ _ _ _ #[true, true, true, true, true, true, true, true, true, true, true, true, true, true, true, true, true, false, false] _;refine zk 17 rfl (asg rfl) ?_;show AI _ _ _ _ _ _ #[true, true, true, true, true, true, true, true, true, true, true, true, true, true, true, true, true, true, false] _;refine zk 18 rfl (asg rfl) ?_;show AI _ _ _ _ _ _ #[true, true, true, true, true, true, true, true, true, true, true, true, true, true, true, true, true, true, true] _;refine br rfl <| aP ?_;obtain ⟨rfl, rfl, rfl⟩ := il H;exact And.intro rfl (Exists.intro _ (Exists.intro _ ⟨bz rfl (.tok _ _ _) (.refl _) (.refl _), aM [] rfl, rfl, rfl⟩))
   ·refine aL rfl (ak (i := 0) af rfl rfl rfl rfl) ?_;show AI _ _ _ _ _ _ #[true, true, true, false, true, true, true, true, true, true, true, false, true, true, true, true, false, false, false] _;refine aQ (i := 3) (by kernel_rfl) rfl rfl <| aL rfl (ak (i := 0) aa rfl rfl rfl rfl) ?_;show AI _ _ _ _ _ _ #[true, true, true, true, true, true, true, true, true, true, true, false, true, true, true, true, false, false, false] _;refine aQ (i := 11) (by kernel_rfl) rfl rfl <| bt rfl (aY (bytes := 1) 1 aa af rfl (by kernel_rfl) rfl rfl rfl rfl g67 e69) ?_;rintro _ _ ⟨t74, rfl, rfl⟩;show AI _ _ _ _ _ _ #[true, true, true, true, true, true, true, true, true, true, true, true, true, true, true, true, false, false, false] _;refine zk 16 rfl (ao (av := slE _ _ _) rfl) ?_;show AI _ _ _ _ _ _ #[true, true, true, true, true, true, true, true, true, true, true, true, true, true, true, true, true, false, false] _;refine zk 17 rfl (asg rfl) ?_;show AI _ _ _ _ _ _ #[true, true, true, true, true, true, true, true, true, true, true, true, true, true, true, true, true, true, false] _;refine zk 18 rfl (asg rfl) ?_;show AI _ _ _ _ _ _ #[true, true, true, true, true, true, true, true, true, true, true, true, true, true, true, true, true, true, true] _;refine br rfl <| aP ?_;obtain ⟨rfl, rfl, rfl⟩ := il H;exact And.intro rfl (Exists.intro _ (Exists.intro _ ⟨bz rfl (.tok _ _ _) (.refl _) (.refl _), aM [] rfl, rfl, rfl⟩))
  ·refine aL rfl (ak (i := 0) af rfl rfl rfl rfl) ?_;show AI _ _ _ _ _ _ #[true, true, true, false, true, true, true, false, false, false, false, false, true, true, true, true, false, false, false] _;refine cD (i := 3) (j := 7) (by kernel_rfl) rfl rfl rfl rfl ?_ ?_
   ·refine aL rfl (ak (i := 0) aa rfl rfl rfl rfl) ?_;show AI _ _ _ _ _ _ #[true, true, true, true, true, true, true, false, false, false, false, false, true, true, true, true, false, false, false] _;refine aQ (i := 7) (by kernel_rfl) rfl rfl <| aL rfl (ak (i := 0) af rfl rfl rfl rfl) ?_;show AI _ _ _ _ _ _ #[true, true, true, true, true, true, true, true, false, false, false, false, true, true, true, true, false, false, false] _;refine zk 8 rfl (da rfl rfl g57 e59) ?_;show AI _ _ _ _ _ _ #[true, true, true, true, true, true, true, true, true, false, false, false, true, true, true, true, false, false, false] _;refine zk 9 rfl (da rfl rfl g60 e62) ?_;show AI _ _ _ _ _ _ #[true, true, true, true, true, true, true, true, true, true, false, false, true, true, true, true, false, false, false] _;refine zk 10 rfl (da rfl rfl g63 e65) ?_;show AI _ _ _ _ _ _ #[true, true, true, true, true, true, true, true, true, true, true, false, true, true, true, true, false, false, false] _;refine aQ (i := 11) (by kernel_rfl) rfl rfl <| bt rfl (aY (bytes := 1) 1 aa af rfl (by kernel_rfl) rfl rfl rfl rfl g67 e69) ?_;rintro _ _ ⟨t75, rfl, rfl⟩;show AI _ _ _ _ _ _ #[true, true, true, true, true, true, true, true, true, true, true, true, true, true, true, true, false, false, false] _;refine zk 16 rfl (ao (av := slE _ _ _) rfl) ?_;show AI _ _ _ _ _ _ #[true, true, true, true, true, true, true, true, true, true, true, true, true, true, true, true, true, false, false] _
    refine zk 17 rfl (asg rfl) ?_;show AI _ _ _ _ _ _ #[true, true, true, true, true, true, true, true, true, true, true, true, true, true, true, true, true, true, false] _;refine zk 18 rfl (asg rfl) ?_;show AI _ _ _ _ _ _ #[true, true, true, true, true, true, true, true, true, true, true, true, true, true, true, true, true, true, true] _;refine br rfl <| aP ?_;obtain ⟨rfl, rfl, rfl⟩ := il H;exact And.intro rfl (Exists.intro _ (Exists.intro _ ⟨bz rfl (.tok _ _ _) (.refl _) (.refl _), aM [] rfl, rfl, rfl⟩))
   ·refine aL rfl (ak (i := 0) af rfl rfl rfl rfl) ?_;show AI _ _ _ _ _ _ #[true, true, true, false, true, true, true, true, false, false, false, false, true, true, true, true, false, false, false] _;refine zk 8 rfl (da rfl rfl g57 e59) ?_;show AI _ _ _ _ _ _ #[true, true, true, false, true, true, true, true, true, false, false, false, true, true, true, true, false, false, false] _;refine zk 9 rfl (da rfl rfl g60 e62) ?_;show AI _ _ _ _ _ _ #[true, true, true, false, true, true, true, true, true, true, false, false, true, true, true, true, false, false, false] _;refine zk 10 rfl (da rfl rfl g63 e65) ?_;show AI _ _ _ _ _ _ #[true, true, true, false, true, true, true, true, true, true, true, false, true, true, true, true, false, false, false] _;refine aQ (i := 3) (by kernel_rfl) rfl rfl <| aL rfl (ak (i := 0) aa rfl rfl rfl rfl) ?_;show AI _ _ _ _ _ _ #[true, true, true, true, true, true, true, true, true, true, true, false, true, true, true, true, false, false, false] _;refine aQ (i := 11) (by kernel_rfl) rfl rfl <| bt rfl (aY (bytes := 1) 1 aa af rfl (by kernel_rfl) rfl rfl rfl rfl g67 e69) ?_;rintro _ _ ⟨t76, rfl, rfl⟩;show AI _ _ _ _ _ _ #[true, true, true, true, true, true, true, true, true, true, true, true, true, true, true, true, false, false, false] _;refine zk 16 rfl (ao (av := slE _ _ _) rfl) ?_;show AI _ _ _ _ _ _ #[true, true, true, true, true, true, true, true, true, true, true, true, true, true, true, true, true, false, false] _
    refine zk 17 rfl (asg rfl) ?_;show AI _ _ _ _ _ _ #[true, true, true, true, true, true, true, true, true, true, true, true, true, true, true, true, true, true, false] _;refine zk 18 rfl (asg rfl) ?_;show AI _ _ _ _ _ _ #[true, true, true, true, true, true, true, true, true, true, true, true, true, true, true, true, true, true, true] _;refine br rfl <| aP ?_;obtain ⟨rfl, rfl, rfl⟩ := il H;exact And.intro rfl (Exists.intro _ (Exists.intro _ ⟨bz rfl (.tok _ _ _) (.refl _) (.refl _), aM [] rfl, rfl, rfl⟩))
set_option maxRecDepth 100000 in
set_option maxHeartbeats 1000000 in
theorem oX (F : Nat) (a1 : List UInt8) (q2 : Option Nat) (r3 : List UInt8) (r4 : List UInt8) (r5 : Bool) (H : lM F a1 = some (r3, r4, r5)) : ACalls Tryz.prog 35 [slE Enc.byte a1 q2] [] (Ret (.tup [S r3, slE Enc.byte r4 none, B r5]) []) := by
 unfold lM at H
 refine ax Tryz.func35 rfl rfl ?_;show AW _ _ 43 _ _ _;refine ah <| ab ?_;show AR _ _ _ _ _ [0, 1, 2] _;refine za rfl <| za rfl <| za rfl <| ai <| ah ?_;obtain ⟨x6, x7, x8, e9, H⟩ := iR H;refine ab ?_;show AR _ _ _ _ _ [0, 1, 2, 3, 4, 5, 6, 7, 8] _;refine zS rfl (ac (av := slE _ _ _) rfl) <| am rfl rfl (aN rfl pE rfl (oZ F a1 q2 x6 x7 x8 e9) ?_);refine zS rfl (ac (av := .tup _) rfl) <| zS rfl (aE (av := slE _ _ _) rfl rfl) <| zS rfl (aE (av := slE _ _ _) rfl rfl) <| zS rfl (aE (av := .v _) rfl rfl) <| zS rfl (ao (av := slE _ _ _) rfl) <| zS rfl (ao (av := slE _ _ _) rfl) <| za rfl <| ai <| ah <| ah <| ab ?_;show AR _ _ _ _ _ [0, 1, 2, 3, 4, 5, 6, 7, 8, 9, 10, 11] _;refine zm rfl <| zS rfl (eE rfl rfl) <| zm rfl <| aZ (l := [7, 8, 9, 10, 11]) 21 (B ((!decide (x8 = 0)) || (!decide ((x6.length : Int) = 2)))) (fun K => ?_) ?_
 ·rcases aj (!decide (x8 = 0)) with h10 | h10
  ·refine zF h10 rfl <| zF h10 rfl <| zF h10 rfl <| zS rfl (aC (av := .v _) rfl h10 rfl) ?_;exact K _ 3 _ (ay (fE h10)) rfl rfl
  ·refine zU h10 rfl (ac (av := slE _ _ _) rfl) <| zU h10 rfl (aG bX rfl) <| zU h10 rfl (eE rfl rfl) <| zS rfl (aD (av := .v _) rfl h10 rfl) ?_;exact K _ 3 _ (ay (fF h10)) rfl rfl
 refine zm rfl <| aZ (l := []) 26 (B (((!decide (x8 = 0)) || (!decide ((x6.length : Int) = 2))) || (decide ((x7.length : Int) < 2)))) (fun K => ?_) ?_
 ·rcases aj ((!decide (x8 = 0)) || (!decide ((x6.length : Int) = 2))) with h11 | h11
  ·refine zF h11 rfl <| zF h11 rfl <| zF h11 rfl <| zS rfl (aC (av := .v _) rfl h11 rfl) ?_;exact K _ 3 _ (ay (fE h11)) rfl rfl
  ·refine zU h11 rfl (ac (av := slE _ _ _) rfl) <| zU h11 rfl (aG aa rfl) <| zU h11 rfl (bI rfl rfl) <| zS rfl (aD (av := .v _) rfl h11 rfl) ?_;exact K _ 3 _ (ay (fF h11)) rfl rfl
 refine ai <| aH rfl (fun c12 => ?_) (fun c12 => ?_)
 ·replace H := bk c12 H;refine ah <| ab ?_;show AR _ _ _ _ _ [0, 1, 2] _;refine za rfl <| za rfl <| za rfl <| ai <| aP ?_;obtain ⟨rfl, rfl, rfl⟩ := il H;exact And.intro rfl (Exists.intro _ (Exists.intro _ ⟨bz rfl (.refl _) (.nil _) (.refl _), aM [] rfl, rfl, rfl⟩))
 ·replace H := bl c12 H;refine aJ <| ah ?_;obtain ⟨g13, H⟩ := aF H;obtain ⟨g14, H⟩ := aF H;obtain ⟨x15, e16, H⟩ := bi H;obtain ⟨x17, x18, e19, H⟩ := fm H;refine ab ?_;show AR _ _ _ _ _ [0, 1, 2, 3, 4, 5, 6, 7, 8, 9, 10] _;refine zS rfl (ac (av := slE _ _ _) rfl) <| zS rfl (ac (av := slE _ _ _) rfl) <| zS rfl (aG aa rfl) <| zS rfl (kt rfl rfl g13) <| zS rfl (jw (E := Enc.byte) aa (by kernel_rfl) rfl rfl g14 e16) <| am rfl rfl (aN rfl pD rfl (nI F x15 none x17 x18 e19) ?_);refine zS rfl (ac (av := .tup _) rfl) <| zS rfl (aE (av := slE _ _ _) rfl rfl) <| zS rfl (aE (av := .v _) rfl rfl) <| zS rfl (ao (av := slE _ _ _) rfl) <| za rfl <| ai <| ah ?_;obtain ⟨g20, H⟩ := aF H;obtain ⟨x21, e22, H⟩ := bi H;refine ab ?_;show AR _ _ _ _ _ [0, 1, 2, 3, 4, 5, 6, 7, 8, 9] _;refine zS rfl (ac (av := slE _ _ _) rfl) <| zS rfl (bn (E := (de Enc.str Enc.str)) bX (by kernel_rfl) rfl rfl g20 e22) <| zS rfl (cU (n := 1) (by kernel_rfl) rfl (ag rfl)) <| zS rfl (aU af rfl rfl) <| zS rfl (ac (av := slE _ _ _) rfl) <| zm rfl <| zS rfl (dv rfl rfl) <| za rfl <| zS rfl (ao (av := slE _ _ _) rfl) <| za rfl <| ai <| aP ?_;obtain ⟨rfl, rfl, rfl⟩ := il H;exact And.intro rfl (Exists.intro _ (Exists.intro _ ⟨bz rfl (.refl _) (.refl _) (.refl _), aM [] rfl, rfl, rfl⟩))
set_option maxRecDepth 100000 in
set_option maxHeartbeats 1000000 in
theorem mS (F : Nat) (a1 : List UInt8) (q2 : Option Nat) (a3 : List UInt8) (r4 : List (List UInt8)) (r5 : List (List UInt8)) (r6 : Int) (H : jM F a1 a3 = some (r4, r5, r6)) : ACalls Tryz.prog 14 [slE Enc.byte a1 q2, S a3] [] (Ret (.tup [slE Enc.str r4 none, slE (Enc.sl Enc.byte) r5 none, i64 r6]) []) := by
 unfold jM at H
 refine ax Tryz.func14 rfl rfl ?_;show AW _ _ 83 _ _ _;refine ah <| ab ?_;show AR _ _ _ _ _ [0, 1, 2] _;refine za rfl <| za rfl <| za rfl <| ai <| ah <| ab ?_;show AR _ _ _ _ _ [0] _;refine za rfl <| ai ?_
 refine cq 7 1 9 rfl fun t7 => ?_
 show AW _ _ _ _ _ ⟨(7, slE Enc.str [] (some t7)) :: _, _, _⟩;refine ah <| ab ?_;show AR _ _ _ _ _ [0] _;refine za rfl <| ai ?_
 refine cq 8 1 26 rfl fun t8 => ?_
 show AW _ _ _ _ _ ⟨(8, slE (Enc.sl Enc.byte) [] (some t8)) :: _, _, _⟩;refine bP (X := (List (List UInt8)) × Nat × (List (List UInt8)) × Nat) (fun (y63, t64, y65, t66) => ⟨[(0, slE Enc.byte a1 q2), (1, S a3), (7, slE Enc.str y63 (some t64)), (8, slE (Enc.sl Enc.byte) y65 (some t66))], [], [.tok t64 9, .tok t66 26]⟩) (fun (y63, t64, y65, t66) => eh F a1 a3 y63 y65 = some (r4, r5, r6)) ?_ ?_
 ·refine ah <| ab ?_;show AR _ _ _ _ _ [0, 1] _;refine zS rfl (ac (av := slE _ _ _) rfl) <| zS rfl (ao (av := slE _ _ _) rfl) <| ai <| aO <| bZ (X := Nat × (List (List UInt8)) × Nat × (List (List UInt8)) × Nat × (List UInt8)) (fun (n15, y9, t10, y11, t12, y13) => ⟨[(0, slE Enc.byte a1 q2), (1, S a3), (7, slE Enc.str y9 (some t10)), (8, slE (Enc.sl Enc.byte) y11 (some t12)), (9, slE Enc.byte y13 none)], [], [.tok t10 9, .tok t12 26]⟩) (fun (n15, y9, t10, y11, t12, y13) => gL F a1 a3 n15 (y9, y11, y13) = some (r4, r5, r6)) (fun (n15, y9, t10, y11, t12, y13) => n15) (F, [], t7, [], t8, a1) H (ba [1, 0] (.cons (.refl _) (.cons (.refl _) (.cons (.refl _) (.cons (.refl _) (.cons (.tok _ _ _) (.nil _)))))) rfl) ?_;rintro ⟨n15, y9, t10, y11, t12, y13⟩ H;obtain ⟨n15, rfl, H⟩ := cB H;replace H : gM F a1 a3 (gL F a1 a3 n15) y9 y11 y13 = some (r4, r5, r6) := H
  unfold gM at H
  refine ah <| ah <| ab ?_;show AR _ _ _ _ _ [0, 1, 2] _;refine zS rfl (ac (av := slE _ _ _) rfl) <| zS rfl (aG aq rfl) <| zS rfl (hU rfl rfl) <| ai <| aH rfl (fun c16 => ?_) (fun c16 => ?_)
  ·replace H := bk c16 H;refine aJ <| aO <| ah ?_;obtain ⟨g17, H⟩ := aF H;obtain ⟨x18, e19, H⟩ := bi H;obtain ⟨g20, H⟩ := aF H;obtain ⟨x21, e22, H⟩ := bi H;obtain ⟨g23, H⟩ := aF H;obtain ⟨g25, H⟩ := aF H;obtain ⟨x26, e27, H⟩ := bi H;refine ab ?_;show AR _ _ _ _ _ [0, 1, 2, 3, 4, 5, 6, 7, 8, 9, 10] _;refine zS rfl (ac (av := slE _ _ _) rfl) <| zm rfl <| zS rfl (da rfl rfl g17 e19) <| zS rfl (da rfl rfl g20 e22) <| zX rfl (cV (bytes := 1) af aa aB rfl g23) ?_;rintro _ _ ⟨t24, rfl, rfl⟩;refine am rfl rfl (aN rfl pU rfl (show ACalls _ _ _ [] (Ret (.tup [slE Enc.byte x26.1 none, B x26.2]) []) from by subst e27; exact jG y13 x21 none (some t24) (of_decide_eq_true g25)) ?_);refine zS rfl (ac (av := .tup _) rfl) <| zS rfl (aE (av := slE _ _ _) rfl rfl) <| zS rfl (aE (av := .v _) rfl rfl) <| zS rfl (ao (av := slE _ _ _) rfl) <| za rfl <| ai <| ah <| ah <| ab ?_;show AR _ _ _ _ _ [0, 1] _;refine zm rfl <| zS rfl (ck rfl) <| ai <| aH rfl (fun c28 => ?_) (fun c28 => ?_)
   ·replace H := bk c28 H;refine bQ ?_;exact Exists.intro (y9, t10, y11, t12) ⟨H, ba [1, 1] (.cons (.refl _) (.cons (.refl _) (.cons (.refl _) (.cons (.refl _) (.nil _))))) rfl⟩
   ·replace H := bl c28 H;refine aJ <| ah ?_;obtain ⟨g29, H⟩ := aF H;obtain ⟨x30, e31, H⟩ := bi H;obtain ⟨g32, H⟩ := aF H;obtain ⟨g34, H⟩ := aF H;obtain ⟨g35, H⟩ := aF H;obtain ⟨g36, H⟩ := aF H;obtain ⟨x37, e38, H⟩ := bi H;refine ab ?_;show AR _ _ _ _ _ [0, 1, 2, 3, 4, 5] _;refine zS rfl (ac (av := slE _ _ _) rfl) <| zm rfl <| zS rfl (da rfl rfl g29 e31) <| zX rfl (cV (bytes := 1) af aa aB rfl g32) ?_;rintro _ _ ⟨t33, rfl, rfl⟩;refine am rfl rfl (aN rfl pS rfl (show ACalls _ _ _ [] (Ret (i64 x37) []) from by subst e38; exact iZ x26.1 x30 none (some t33) (gl g34) (of_decide_eq_true g35) (gl g36)) ?_);refine za rfl <| ai <| ah <| ah <| ab ?_;show AR _ _ _ _ _ [0, 1] _;refine zm rfl <| zS rfl (bI rfl rfl) <| ai <| aH rfl (fun c39 => ?_) (fun c39 => ?_)
    ·replace H := bk c39 H;refine ah <| ab ?_;show AR _ _ _ _ _ [0, 1, 2] _;refine za rfl <| za rfl <| za rfl <| ai <| aP ?_;obtain ⟨rfl, rfl, rfl⟩ := il H;exact And.intro rfl (Exists.intro _ (Exists.intro _ ⟨bz rfl (.nil _) (.nil _) (.refl _), aM [] rfl, rfl, rfl⟩))
    ·replace H := bl c39 H;refine aJ <| ah ?_;obtain ⟨g40, H⟩ := aF H;obtain ⟨x41, e42, H⟩ := bi H;obtain ⟨x43, x44, x45, e46, H⟩ := iR H;refine ab ?_;show AR _ _ _ _ _ [0, 1, 2, 3, 4, 5, 6, 7, 8, 9, 10] _;refine zS rfl (ac (av := slE _ _ _) rfl) <| zm rfl <| zS rfl (jw (E := Enc.byte) aa (by kernel_rfl) rfl rfl g40 e42) <| am rfl rfl (aN rfl pR rfl (oX F x41 none x43 x44 x45 e46) ?_);refine zS rfl (ac (av := .tup _) rfl) <| zS rfl (aE (av := .v _) rfl rfl) <| zS rfl (aE (av := slE _ _ _) rfl rfl) <| zS rfl (aE (av := .v _) rfl rfl) <| za rfl <| zS rfl (ao (av := slE _ _ _) rfl) <| za rfl <| ai <| ah <| ah <| ab ?_;show AR _ _ _ _ _ [0, 1] _;refine zm rfl <| zS rfl (ck rfl) <| ai <| aH rfl (fun c47 => ?_) (fun c47 => ?_)
     ·replace H := bk c47 H;refine ah <| ab ?_;show AR _ _ _ _ _ [0, 1, 2] _;refine za rfl <| za rfl <| za rfl <| ai <| aP ?_;obtain ⟨rfl, rfl, rfl⟩ := il H;exact And.intro rfl (Exists.intro _ (Exists.intro _ ⟨bz rfl (.nil _) (.nil _) (.refl _), aM [] rfl, rfl, rfl⟩))
     ·replace H := bl c47 H;refine aJ ?_;obtain ⟨g48, H⟩ := aF H;obtain ⟨x49, e50, H⟩ := bi H;obtain ⟨g52, H⟩ := aF H;obtain ⟨x53, e54, H⟩ := bi H;obtain ⟨g56, H⟩ := aF H;obtain ⟨x57, e58, H⟩ := bi H;refine bH (by kernel_rfl) ?_;show AI _ _ _ _ _ 14 (Array.replicate 14 false) _;refine zk 0 rfl (ac (av := slE _ _ _) rfl) ?_;show AI _ _ _ _ _ _ #[true, false, false, false, false, false, false, false, false, false, false, false, false, false] _;refine zk 1 rfl (mv rfl) ?_;show AI _ _ _ _ _ _ #[true, true, false, false, false, false, false, false, false, false, false, false, false, false] _;refine zk 4 rfl (ac (av := slE _ _ _) rfl) ?_;show AI _ _ _ _ _ _ #[true, true, false, false, true, false, false, false, false, false, false, false, false, false] _;refine zk 5 rfl (ac (av := slE _ _ _) rfl) ?_;show AI _ _ _ _ _ _ #[true, true, false, false, true, true, false, false, false, false, false, false, false, false] _;refine zk 8 rfl (ac (av := slE _ _ _) rfl) ?_;show AI _ _ _ _ _ _ #[true, true, false, false, true, true, false, false, true, false, false, false, false, false] _;refine zk 9 rfl (mv rfl) ?_;show AI _ _ _ _ _ _ #[true, true, false, false, true, true, false, false, true, true, false, false, false, false] _;refine zk 10 rfl (fu (E := Enc.byte) aa (by kernel_rfl) rfl rfl g48 e50) ?_;show AI _ _ _ _ _ _ #[true, true, false, false, true, true, false, false, true, true, true, false, false, false] _;refine cD (i := 2) (j := 6) (by kernel_rfl) rfl rfl rfl rfl ?_ ?_
      ·refine aL rfl (bm (E := Enc.str) (bytes := 16) (xs := [.tmp 51]) (l := ([x43] : List (List UInt8))) ar (by kernel_rfl) rfl rfl (by decide) rfl rfl) ?_;show AI _ _ _ _ _ _ #[true, true, true, false, true, true, false, false, true, true, true, false, false, false] _;refine cD (i := 3) (j := 6) (by kernel_rfl) rfl rfl rfl rfl ?_ ?_
       ·refine bt rfl (bA (E := Enc.str) (bytes := 16) 2 ar ar rfl (by kernel_rfl) rfl rfl rfl rfl g52 e54) ?_;rintro _ _ ⟨t51, rfl, rfl⟩;show AI _ _ _ _ _ _ #[true, true, true, true, true, true, false, false, true, true, true, false, false, false] _;refine aQ (i := 6) (by kernel_rfl) rfl rfl <| aL rfl (bm (E := (Enc.sl Enc.byte)) (bytes := 24) (xs := [.tmp 55]) (l := ([x44] : List (List UInt8))) aq (by kernel_rfl) rfl rfl (by decide) rfl rfl) ?_;show AI _ _ _ _ _ _ #[true, true, true, true, true, true, true, false, true, true, true, false, false, false] _;refine aQ (i := 7) (by kernel_rfl) rfl rfl <| bt rfl (bA (E := (Enc.sl Enc.byte)) (bytes := 24) 3 aq aq rfl (by kernel_rfl) rfl rfl rfl rfl g56 e58) ?_;rintro _ _ ⟨t55, rfl, rfl⟩;show AI _ _ _ _ _ _ #[true, true, true, true, true, true, true, true, true, true, true, false, false, false] _;refine zk 11 rfl (ao (av := slE _ _ _) rfl) ?_;show AI _ _ _ _ _ _ #[true, true, true, true, true, true, true, true, true, true, true, true, false, false] _;refine zk 12 rfl (ao (av := slE _ _ _) rfl) ?_;show AI _ _ _ _ _ _ #[true, true, true, true, true, true, true, true, true, true, true, true, true, false] _;refine zk 13 rfl (ao (av := slE _ _ _) rfl) ?_;show AI _ _ _ _ _ _ #[true, true, true, true, true, true, true, true, true, true, true, true, true, true] _;refine br rfl ?_
        exact Exists.intro (n15, x53, t51, x57, t55, x49) ⟨H, Nat.lt_succ_self _, ba [2, 2] (.cons (.refl _) (.cons (.refl _) (.cons (.refl _) (.cons (.refl _) (.cons (.refl _) (.nil _)))))) rfl⟩
       ·refine aL rfl (bm (E := (Enc.sl Enc.byte)) (bytes := 24) (xs := [.tmp 55]) (l := ([x44] : List (List UInt8))) aq (by kernel_rfl) rfl rfl (by decide) rfl rfl) ?_;show AI _ _ _ _ _ _ #[true, true, true, false, true, true, true, false, true, true, true, false, false, false] _;refine aQ (i := 3) (by kernel_rfl) rfl rfl <| bt rfl (bA (E := Enc.str) (bytes := 16) 2 ar ar rfl (by kernel_rfl) rfl rfl rfl rfl g52 e54) ?_;rintro _ _ ⟨t59, rfl, rfl⟩;show AI _ _ _ _ _ _ #[true, true, true, true, true, true, true, false, true, true, true, false, false, false] _;refine aQ (i := 7) (by kernel_rfl) rfl rfl <| bt rfl (bA (E := (Enc.sl Enc.byte)) (bytes := 24) 3 aq aq rfl (by kernel_rfl) rfl rfl rfl rfl g56 e58) ?_;rintro _ _ ⟨t60, rfl, rfl⟩;show AI _ _ _ _ _ _ #[true, true, true, true, true, true, true, true, true, true, true, false, false, false] _;refine zk 11 rfl (ao (av := slE _ _ _) rfl) ?_;show AI _ _ _ _ _ _ #[true, true, true, true, true, true, true, true, true, true, true, true, false, false] _;refine zk 12 rfl (ao (av := slE _ _ _) rfl) ?_;show AI _ _ _ _ _ _ #[true, true, true, true, true, true, true, true, true, true, true, true, true, false] _;refine zk 13 rfl (ao (av := slE _ _ _) rfl) ?_;show AI _ _ _ _ _ _ #[true, true, true, true, true, true, true, true, true, true, true, true, true, true] _;refine br rfl ?_
        exact Exists.intro (n15, x53, t59, x57, t60, x49) ⟨H, Nat.lt_succ_self _, ba [2, 2] (.cons (.refl _) (.cons (.refl _) (.cons (.refl _) (.cons (.refl _) (.cons (.refl _) (.nil _)))))) rfl⟩
      ·refine aL rfl (bm (E := (Enc.sl Enc.byte)) (bytes := 24) (xs := [.tmp 55]) (l := ([x44] : List (List UInt8))) aq (by kernel_rfl) rfl rfl (by decide) rfl rfl) ?_;show AI _ _ _ _ _ _ #[true, true, false, false, true, true, true, false, true, true, true, false, false, false] _;refine aQ (i := 2) (by kernel_rfl) rfl rfl <| aL rfl (bm (E := Enc.str) (bytes := 16) (xs := [.tmp 51]) (l := ([x43] : List (List UInt8))) ar (by kernel_rfl) rfl rfl (by decide) rfl rfl) ?_;show AI _ _ _ _ _ _ #[true, true, true, false, true, true, true, false, true, true, true, false, false, false] _;refine aQ (i := 3) (by kernel_rfl) rfl rfl <| bt rfl (bA (E := Enc.str) (bytes := 16) 2 ar ar rfl (by kernel_rfl) rfl rfl rfl rfl g52 e54) ?_;rintro _ _ ⟨t61, rfl, rfl⟩;show AI _ _ _ _ _ _ #[true, true, true, true, true, true, true, false, true, true, true, false, false, false] _;refine aQ (i := 7) (by kernel_rfl) rfl rfl <| bt rfl (bA (E := (Enc.sl Enc.byte)) (bytes := 24) 3 aq aq rfl (by kernel_rfl) rfl rfl rfl rfl g56 e58) ?_;rintro _ _ ⟨t62, rfl, rfl⟩;show AI _ _ _ _ _ _ #[true, true, true, true, true, true, true, true, true, true, true, false, false, false] _;refine zk 11 rfl (ao (av := slE _ _ _) rfl) ?_;show AI _ _ _ _ _ _ #[true, true, true, true, true, true, true, true, true, true, true, true, false, false] _;refine zk 12 rfl (ao (av := slE _ _ _) rfl) ?_
       show AI _ _ _ _ _ _ #[true, true, true, true, true, true, true, true, true, true, true, true, true, false] _;refine zk 13 rfl (ao (av := slE _ _ _) rfl) ?_;show AI _ _ _ _ _ _ #[true, true, true, true, true, true, true, true, true, true, true, true, true, true] _;refine br rfl ?_;exact Exists.intro (n15, x53, t61, x57, t62, x49) ⟨H, Nat.lt_succ_self _, ba [2, 2] (.cons (.refl _) (.cons (.refl _) (.cons (.refl _) (.cons (.refl _) (.cons (.refl _) (.nil _)))))) rfl⟩
  ·replace H := bl c16 H;refine bQ ?_;exact Exists.intro (y9, t10, y11, t12) ⟨H, ba [0, 0] (.cons (.refl _) (.cons (.refl _) (.cons (.refl _) (.cons (.refl _) (.nil _))))) rfl⟩
 rintro ⟨y63, t64, y65, t66⟩ H;replace H : eh F a1 a3 y63 y65 = some (r4, r5, r6) := H
 unfold eh at H
 refine ah <| ah ?_;obtain ⟨x68, x69, x70, e71, H⟩ := iR H;refine ab ?_;show AR _ _ _ _ _ [0, 1, 2, 3, 4, 5, 6, 7, 8, 9] _;refine zS rfl (ac (av := slE _ _ _) rfl) <| zS rfl (ac (av := slE _ _ _) rfl) <| am rfl rfl (aN rfl qi rfl (gx F y63 (some t64) y65 (some t66) x68 x69 x70 e71) ?_);refine zS rfl (ac (av := .tup _) rfl) <| zS rfl (aE (av := slE _ _ _) rfl rfl) <| zS rfl (aE (av := .v _) rfl rfl) <| zS rfl (aE (av := .v _) rfl rfl) <| zS rfl (ao (av := slE _ _ _) rfl) <| za rfl <| za rfl <| ai <| ah ?_;obtain ⟨x74, e75, H⟩ := bi H;refine ab ?_;show AR _ _ _ _ _ [0, 1, 2, 3, 4, 5, 6, 7, 8, 9, 10, 11, 12] _;refine zm rfl <| zS rfl (eE rfl rfl) <| zm rfl <| aZ (l := [7, 8, 9, 10, 11, 12]) 74 (B ((!decide (x70 = 0)) || (!decide (x69 = a3)))) (fun K => ?_) ?_
 ·rcases aj (!decide (x70 = 0)) with h72 | h72
  ·refine zF h72 rfl <| zF h72 rfl <| zF h72 rfl <| zS rfl (aC (av := .v _) rfl h72 rfl) ?_;exact K _ 3 _ (ay (fE h72)) rfl rfl
  ·refine zM h72 rfl <| zM h72 rfl <| zU h72 rfl (fX rfl rfl) <| zS rfl (aD (av := .v _) rfl h72 rfl) ?_;exact K _ 3 _ (ay (fF h72)) rfl rfl
 refine zm rfl <| aZ (l := []) 80 (B (((!decide (x70 = 0)) || (!decide (x69 = a3))) || (!x74))) (fun K => ?_) ?_
 ·rcases aj ((!decide (x70 = 0)) || (!decide (x69 = a3))) with h73 | h73
  ·refine zF h73 rfl <| zF h73 rfl <| zF h73 rfl <| zF h73 rfl <| zS rfl (aC (av := .v _) rfl h73 rfl) ?_;exact K _ 4 _ (ay (fE h73)) rfl rfl
  ·refine zU h73 rfl (ac (av := slE _ _ _) rfl) <| zU h73 rfl (ac (av := slE _ _ _) rfl) <| zT h73 rfl (aN rfl pP rfl (show ACalls _ _ _ [] (Ret (B x74) []) from by subst e75; exact ja x68 a1 none q2) ?_);refine zU h73 rfl (ck rfl) <| zS rfl (aD (av := .v _) rfl h73 rfl) ?_;exact K _ 4 _ (ay (fF h73)) rfl rfl
 refine ai <| aH rfl (fun c76 => ?_) (fun c76 => ?_)
 ·replace H := bk c76 H;refine ah <| ab ?_;show AR _ _ _ _ _ [0, 1, 2] _;refine za rfl <| za rfl <| za rfl <| ai <| aP ?_;obtain ⟨rfl, rfl, rfl⟩ := il H;exact And.intro rfl (Exists.intro _ (Exists.intro _ ⟨bz rfl (.nil _) (.nil _) (.refl _), aM [] rfl, rfl, rfl⟩))
 ·replace H := bl c76 H;refine aJ <| ah <| ab ?_;show AR _ _ _ _ _ [0, 1, 2, 3, 4] _;refine zS rfl (ac (av := slE _ _ _) rfl) <| zS rfl (ac (av := slE _ _ _) rfl) <| zS rfl (ao (av := slE _ _ _) rfl) <| zS rfl (ao (av := slE _ _ _) rfl) <| za rfl <| ai <| aP ?_;obtain ⟨rfl, rfl, rfl⟩ := il H;exact And.intro rfl (Exists.intro _ (Exists.intro _ ⟨bz rfl (.tok _ _ _) (.tok _ _ _) (.refl _), aM [] rfl, rfl, rfl⟩))
end Go.Proofs.YtdaafnaokdigbaaGreatDoor
namespace Go.Pv
def dy : List UInt8 := [45, 45, 61, 95, 48, 13, 10, 67, 111, 110, 116, 101, 110, 116, 45, 84, 121, 112, 101, 58, 32, 116, 101, 120, 116, 47, 112, 108, 97, 105, 110, 13, 10, 67, 111, 110, 116, 101, 110, 116, 45, 84, 114, 97, 110, 115, 102, 101, 114, 45, 69, 110, 99, 111, 100, 105, 110, 103, 58, 32, 113, 117, 111, 116, 101, 100, 45, 112, 114, 105, 110, 116, 97, 98, 108, 101, 13, 10, 13, 10, 97, 13, 10, 45, 45, 61, 95, 48, 45, 45, 13, 10]
def fJ (F : Nat) : Option Bool :=
mC (eH F ([([116, 101, 120, 116, 47, 112, 108, 97, 105, 110] : List UInt8)] : List (List UInt8)) ([([97] : List UInt8)] : List (List UInt8))) fun x3 x4 x5 =>
mC (jM F x3 ([61, 95, 48] : List UInt8)) fun x7 x8 x9 =>
gt ((((((decide (x5 = 0)) && (decide (x9 = 0))) && (decide (x4 = ([61, 95, 48] : List UInt8)))) && (decide (x3 = dy))) && (decide ((x7.length : Int) = 1))) && (decide ((x8.length : Int) = 1))) (cE 0 x8.length) <|
lt (at_ x8 0) fun x18 =>
bndc (((((((decide (x5 = 0)) && (decide (x9 = 0))) && (decide (x4 = ([61, 95, 48] : List UInt8)))) && (decide (x3 = dy))) && (decide ((x7.length : Int) = 1))) && (decide ((x8.length : Int) = 1))) && (decide (x18 = ([97] : List UInt8)))) (ei F []) fun x21 =>
some ((((((((decide (x5 = 0)) && (decide (x9 = 0))) && (decide (x4 = ([61, 95, 48] : List UInt8)))) && (decide (x3 = dy))) && (decide ((x7.length : Int) = 1))) && (decide ((x8.length : Int) = 1))) && (decide (x18 = ([97] : List UInt8)))) && (decide (x21 = ([61, 95, 48] : List UInt8))))
def eX : Option Bool :=
some true
def fb (a3 : List (List UInt8)) (rec19 : Int → Option Bool) (y18 : Int) : Option Bool :=
bif decide (y18 < (a3.length : Int)) then
  grd (cE y18 a3.length) <|
  lt (at_ a3 y18) fun x23 =>
  bif decide (300 < (x23.length : Int)) then
    some false
  else
    grd (okI (y18 + 1)) <|
    rec19 (y18 + 1)
else
  eX
def eZ (a3 : List (List UInt8)) (n : Nat) : Int → Option Bool :=
  loop (fun rec x => fb a3 rec x) n
def eW (F : Nat) (a3 : List (List UInt8)) : Option Bool :=
eZ a3 F 0
def fa (F : Nat) (a1 : List (List UInt8)) (a3 : List (List UInt8)) (rec9 : Int → Option Bool) (y8 : Int) : Option Bool :=
bif decide (y8 < (a1.length : Int)) then
  grd (cE y8 a1.length) <|
  lt (at_ a1 y8) fun x13 =>
  bif decide (100 < (x13.length : Int)) then
    some false
  else
    grd (okI (y8 + 1)) <|
    rec9 (y8 + 1)
else
  eW F a3
def eY (F : Nat) (a1 : List (List UInt8)) (a3 : List (List UInt8)) (n : Nat) : Int → Option Bool :=
  loop (fun rec x => fa F a1 a3 rec x) n
def ie (F : Nat) (a1 : List (List UInt8)) (a3 : List (List UInt8)) : Option Bool :=
bif (decide (10 < (a1.length : Int))) || (decide (10 < (a3.length : Int))) then
  some false
else
  eY F a1 a3 F 0
end Go.Pv
