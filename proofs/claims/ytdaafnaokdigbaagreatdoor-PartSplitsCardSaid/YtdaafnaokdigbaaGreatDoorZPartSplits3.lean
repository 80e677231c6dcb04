/-
  Texts in one (only what PartSplits needs): QpW, B64P, B64W, HeadAP, HeadAW, HeadBP, HeadBW, PartAP, PartAW, PartLP.
-/
import Derived.Test.YtdaafnaokdigbaaGreatDoorZPartSplits2
import Derived.Test.YtdaafnaokdigbaaGreatDoorShelf
import Derived.Test.YtdaafnaokdigbaaGreatDoorChecked
import Derived.Lib.ItoaNum
set_option linter.unusedVariables false
set_option linter.unusedSimpArgs false
namespace Go.Proofs.YtdaafnaokdigbaaGreatDoor
open Go.RowKit Go.Av Go.Pv
theorem en41_qp : ∀ (args : Array Value) (w : World), (callFunc 41 args).run Tryz.prog w = .ok (.enter 41 args) w := fun _ _ => by kernel_rfl
theorem en44_qp : ∀ (args : Array Value) (w : World), (callFunc 44 args).run Tryz.prog w = .ok (.enter 44 args) w := fun _ _ => by kernel_rfl
theorem en45_qp : ∀ (args : Array Value) (w : World), (callFunc 45 args).run Tryz.prog w = .ok (.enter 45 args) w := fun _ _ => by kernel_rfl
theorem wM : ∀ (args : Array Value) (w : World), (callFunc 50 args).run Tryz.prog w = .ok (.enter 50 args) w := fun _ _ => by kernel_rfl
theorem wL : ∀ (args : Array Value) (w : World), (callFunc 79 args).run Tryz.prog w = .ok (.enter 79 args) w := fun _ _ => by kernel_rfl
abbrev _root_.Go.Av.ah := @Bool.eq_false_or_eq_true
abbrev _root_.Go.Av.au := @Tryz.underlying5
set_option maxRecDepth 100000 in
set_option maxHeartbeats 1000000 in
theorem wV (F : Nat) (a1 : UInt8) (a2 : List UInt8) (q3 : Option Nat) (r4 : List UInt8) (H : nE F a1 a2 = some r4) : ACalls Tryz.prog 45 [u8 a1, slE Enc.byte a2 q3] [] (Ret (S r4) []) := by
 unfold nE at H
 refine aw Tryz.func45 rfl rfl ?_;show AW _ _ 47 _ _ _;refine af <| ab ?_;show AR _ _ _ _ _ [0] _;refine za rfl <| ai <| af <| ab ?_;show AR _ _ _ _ _ [0, 1, 2, 3, 4, 5, 6] _;refine zm rfl <| zS rfl (dt (a := a1) (b := 32) rfl rfl) <| zm rfl <| aQ (l := [6]) 11 (B ((decide (a1 = 32)) || (decide (a1 = 9)))) (fun K => ?_) ?_
 ·rcases ah (decide (a1 = 32)) with h5 | h5
  ·refine zF h5 rfl <| zF h5 rfl <| zS rfl (ax (av := .v _) rfl h5 rfl) ?_;exact K _ 2 _ (an (dC h5)) rfl rfl
  ·refine zM h5 rfl <| zU h5 rfl (dt (a := a1) (b := 9) rfl rfl) <| zS rfl (ay (av := .v _) rfl h5 rfl) ?_;exact K _ 2 _ (an (dD h5)) rfl rfl
 refine za rfl <| ai <| af <| af ?_;obtain ⟨g8, H⟩ := cb H;obtain ⟨x9, e10, H⟩ := bb H;refine ab ?_;show AR _ _ _ _ _ [0, 1, 2, 3, 4, 5, 6, 7, 8, 9, 10, 11, 12, 13, 14, 15, 16, 17, 18, 19, 20, 21, 22, 23] _;refine zm rfl <| zm rfl <| aQ (l := [6, 7, 8, 9, 10, 11, 12, 13, 14, 15, 16, 17, 18, 19, 20, 21, 22, 23]) 17 (B (((decide (a1 = 32)) || (decide (a1 = 9))) && (decide (0 < (a2.length : Int))))) (fun K => ?_) ?_
 ·rcases ah ((decide (a1 = 32)) || (decide (a1 = 9))) with h6 | h6
  ·refine zU h6 rfl (ag (av := slE _ _ _) rfl) <| zU h6 rfl (aH aa rfl) <| zU h6 rfl (cN rfl rfl) <| zS rfl (ax (av := .v _) rfl h6 rfl) ?_;exact K _ 3 _ (an (cc h6)) rfl rfl
  ·refine zF h6 rfl <| zF h6 rfl <| zF h6 rfl <| zS rfl (ay (av := .v _) rfl h6 rfl) ?_;exact K _ 3 _ (an (cd h6)) rfl rfl
 refine zm rfl <| aQ (l := [12, 13, 14, 15, 16, 17, 18, 19, 20, 21, 22, 23]) 23 (B ((((decide (a1 = 32)) || (decide (a1 = 9))) && (decide (0 < (a2.length : Int)))) && (!decide (x9 = 10)))) (fun K => ?_) ?_
 ·rcases ah (((decide (a1 = 32)) || (decide (a1 = 9))) && (decide (0 < (a2.length : Int)))) with h7 | h7
  ·refine zU h7 rfl (ag (av := slE _ _ _) rfl) <| zU h7 rfl (aY (E := Enc.byte) aa (by kernel_rfl) rfl rfl (g8 h7) e10) <| zU h7 rfl (aL au rfl rfl) <| zU h7 rfl (mt (a := x9) (b := 10) rfl rfl) <| zS rfl (ax (av := .v _) rfl h7 rfl) ?_;exact K _ 4 _ (an (cc h7)) rfl rfl
  ·refine zF h7 rfl <| zF h7 rfl <| zF h7 rfl <| zF h7 rfl <| zS rfl (ay (av := .v _) rfl h7 rfl) ?_;exact K _ 4 _ (an (cd h7)) rfl rfl
 refine zm rfl <| aQ (l := []) 35 (B (((((decide (a1 = 32)) || (decide (a1 = 9))) && (decide (0 < (a2.length : Int)))) && (!decide (x9 = 10))) || (((decide (32 < (a1.toNat : Int))) && (decide ((a1.toNat : Int) < 127))) && (!decide (a1 = 61))))) (fun K => ?_) ?_
 ·rcases ah ((((decide (a1 = 32)) || (decide (a1 = 9))) && (decide (0 < (a2.length : Int)))) && (!decide (x9 = 10))) with h11 | h11
  ·refine zF h11 rfl <| zF h11 rfl <| zF h11 rfl <| gU rfl rfl rfl rfl rfl <| gU rfl rfl rfl rfl rfl <| zF h11 rfl <| zF h11 rfl <| gU rfl rfl rfl rfl rfl <| gU rfl rfl rfl rfl rfl <| zF h11 rfl <| zS rfl (ax (av := .v _) rfl h11 rfl) ?_;exact K _ 10 _ (an (dC h11)) rfl rfl
  ·refine zM h11 rfl <| zU h11 rfl (cN rfl rfl) <| zM h11 rfl <| aQ (l := [19, 20, 21, 22, 23]) 30 (B ((decide (32 < (a1.toNat : Int))) && (decide ((a1.toNat : Int) < 127)))) (fun K => ?_) ?_
   ·rcases ah (decide (32 < (a1.toNat : Int))) with h12 | h12
    ·refine zM h12 rfl <| zU h12 rfl (bB rfl rfl) <| zU h11 rfl (ax (av := .v _) rfl h12 rfl) ?_;exact K _ 2 _ (an (cc h12)) rfl rfl
    ·refine zF h12 rfl <| zF h12 rfl <| zU h11 rfl (ay (av := .v _) rfl h12 rfl) ?_;exact K _ 2 _ (an (cd h12)) rfl rfl
   refine zM h11 rfl <| aQ (l := [23]) 34 (B (((decide (32 < (a1.toNat : Int))) && (decide ((a1.toNat : Int) < 127))) && (!decide (a1 = 61)))) (fun K => ?_) ?_
   ·rcases ah ((decide (32 < (a1.toNat : Int))) && (decide ((a1.toNat : Int) < 127))) with h13 | h13
    ·refine zM h13 rfl <| zU h13 rfl (mt (a := a1) (b := 61) rfl rfl) <| zU h11 rfl (ax (av := .v _) rfl h13 rfl) ?_;exact K _ 2 _ (an (cc h13)) rfl rfl
    ·refine zF h13 rfl <| zF h13 rfl <| zU h11 rfl (ay (av := .v _) rfl h13 rfl) ?_;exact K _ 2 _ (an (cd h13)) rfl rfl
   refine zS rfl (ay (av := .v _) rfl h11 rfl) ?_;exact K _ 6 _ (an (dD h11)) rfl rfl
 refine ai <| aD rfl (fun c14 => ?_) (fun c14 => ?_)
 ·replace H := aZ c14 H;refine af <| ab ?_;show AR _ _ _ _ _ [0, 1, 2, 3] _;refine zm rfl <| zR rfl (bh (E := Enc.byte) (bytes := 1) (xs := [.tmp 36]) (l := ([a1] : List UInt8)) aa (by kernel_rfl) rfl rfl (by decide) rfl rfl) <| zS rfl (bn aa au ac rfl) <| za rfl <| ai <| aP ?_;obtain rfl := ak H;exact And.intro rfl (Exists.intro _ (Exists.intro _ ⟨aV rfl (.refl _), aO [] rfl, rfl, rfl⟩))
 ·replace H := ba c14 H;refine aF <| af ?_;obtain ⟨g15, H⟩ := az H;obtain ⟨x16, e17, H⟩ := bb H;obtain ⟨g18, H⟩ := az H;obtain ⟨x19, e20, H⟩ := bb H;refine bW (by kernel_rfl) ?_;show AI _ _ _ _ _ 9 (Array.replicate 9 false) _;refine zk 0 rfl (mv rfl) ?_;show AI _ _ _ _ _ _ #[true, false, false, false, false, false, false, false, false] _;refine zk 1 rfl (g_shr8 (n := 4) rfl rfl rfl) ?_;show AI _ _ _ _ _ _ #[true, true, false, false, false, false, false, false, false] _;refine zk 2 rfl (bo ac rfl rfl g15 e17) ?_;show AI _ _ _ _ _ _ #[true, true, true, false, false, false, false, false, false] _;refine zk 3 rfl (mv rfl) ?_;show AI _ _ _ _ _ _ #[true, true, true, true, false, false, false, false, false] _;refine zk 4 rfl (g_and8 (a := a1) (b := 15) rfl rfl) ?_;show AI _ _ _ _ _ _ #[true, true, true, true, true, false, false, false, false] _;refine zk 5 rfl (bo ac rfl rfl g18 e20) ?_;show AI _ _ _ _ _ _ #[true, true, true, true, true, true, false, false, false] _;refine bf (i := 6) (by kernel_rfl) rfl rfl <| be rfl (bh (E := Enc.byte) (bytes := 1) (xs := [.const _, .tmp 41, .tmp 44]) (l := ([61, x16, x19] : List UInt8)) aa (by kernel_rfl) rfl rfl (by decide) rfl rfl) ?_;show AI _ _ _ _ _ _ #[true, true, true, true, true, true, true, false, false] _;refine zk 7 rfl (bn aa au ac rfl) ?_;show AI _ _ _ _ _ _ #[true, true, true, true, true, true, true, true, false] _;refine zk 8 rfl (asg rfl) ?_
  show AI _ _ _ _ _ _ #[true, true, true, true, true, true, true, true, true] _;refine bN rfl <| aP ?_;obtain rfl := ak H;exact And.intro rfl (Exists.intro _ (Exists.intro _ ⟨aV rfl (.refl _), aO [] rfl, rfl, rfl⟩))
set_option maxRecDepth 100000 in
set_option maxHeartbeats 1000000 in
theorem pz (F : Nat) (a1 : UInt8) (r2 : UInt8) (r3 : Bool) (H : lJ F a1 = some (r2, r3)) : ACalls Tryz.prog 79 [u8 a1] [] (Ret (.tup [u8 r2, B r3]) []) := by
 unfold lJ at H
 refine aw Tryz.func79 rfl rfl ?_;show AW _ _ 20 _ _ _;refine af <| ab ?_;show AR _ _ _ _ _ [0, 1] _;refine za rfl <| za rfl <| ai <| bx (X := UInt8) (fun y6 => ⟨[(0, u8 y6)], [], []⟩) (fun y6 => kc y6 = some (r2, r3)) ?_ ?_
 ·refine af <| ab ?_;show AR _ _ _ _ _ [0, 1, 2, 3, 4, 5] _;refine zm rfl <| zS rfl (dl rfl rfl) <| zm rfl <| aQ (l := []) 10 (B ((decide (97 ≤ (a1.toNat : Int))) && (decide ((a1.toNat : Int) ≤ 102)))) (fun K => ?_) ?_
  ·rcases ah (decide (97 ≤ (a1.toNat : Int))) with h4 | h4
   ·refine zM h4 rfl <| zU h4 rfl (dd rfl rfl) <| zS rfl (ax (av := .v _) rfl h4 rfl) ?_;exact K _ 2 _ (an (cc h4)) rfl rfl
   ·refine zF h4 rfl <| zF h4 rfl <| zS rfl (ay (av := .v _) rfl h4 rfl) ?_;exact K _ 2 _ (an (cd h4)) rfl rfl
  refine ai <| aD rfl (fun c5 => ?_) (fun c5 => ?_)
  ·replace H := aZ c5 H;refine ab ?_;show AR _ _ _ _ _ [0, 1, 2] _;refine zm rfl <| zS rfl (ss (a := a1) (b := 32) rfl rfl) <| za rfl <| ai ?_;exact Exists.intro (a1 - 32) ⟨H, aU [] (.cons (.refl _) (.nil _)) rfl⟩
  ·replace H := ba c5 H;refine aF ?_;exact Exists.intro a1 ⟨H, aU [] (.cons (.refl _) (.nil _)) rfl⟩
 rintro y6 H;replace H : kc y6 = some (r2, r3) := H
 unfold kc at H
 refine af ?_;obtain ⟨x8, e9, H⟩ := bb H;refine ab ?_;show AR _ _ _ _ _ [0, 1, 2] _;refine zm rfl <| ap rfl rfl (aW rfl en41_qp rfl (show ACalls _ _ _ [] (Ret (i64 x8) []) from by subst e9; exact lj ([48, 49, 50, 51, 52, 53, 54, 55, 56, 57, 65, 66, 67, 68, 69, 70] : List UInt8) y6) ?_);refine za rfl <| ai <| af <| ab ?_;show AR _ _ _ _ _ [0, 1, 2, 3, 4, 5, 6] _;refine zm rfl <| zS rfl (opS_max rfl rfl) <| zS rfl (gc (by kernel_rfl) au rfl) <| zm rfl <| zS rfl (dl rfl rfl) <| za rfl <| za rfl <| ai <| aP ?_;obtain ⟨rfl, rfl⟩ := fX H;exact And.intro rfl (Exists.intro _ (Exists.intro _ ⟨bH rfl (.refl _) (.refl _), aO [] rfl, rfl, rfl⟩))
set_option maxRecDepth 100000 in
set_option maxHeartbeats 1000000 in
theorem sE (F : Nat) (a1 : List UInt8) (q2 : Option Nat) (r3 : List UInt8) (r4 : Int) (H : mN F a1 = some (r3, r4)) : ACalls Tryz.prog 56 [slE Enc.byte a1 q2] [] (Ret (.tup [slE Enc.byte r3 none, i64 r4]) []) := by
 unfold mN at H
 refine aw Tryz.func56 rfl rfl ?_;show AW _ _ 88 _ _ _;refine af <| ab ?_;show AR _ _ _ _ _ [0, 1] _;refine za rfl <| za rfl <| ai <| af <| ab ?_;show AR _ _ _ _ _ [0] _;refine za rfl <| ai ?_
 refine bL 4 1 5 rfl fun t5 => ?_
 show AW _ _ _ _ _ ⟨(4, slE Enc.byte [] (some t5)) :: _, _, _⟩;refine bx (X := (List UInt8) × Nat) (fun (y62, t63) => ⟨[(4, slE Enc.byte y62 (some t63))], [], [.tok t63 5]⟩) (fun (y62, t63) => jh y62 = some (r3, r4)) ?_ ?_
 ·refine aJ <| bE (X := Nat × (List UInt8) × (List UInt8) × Nat) (fun (n10, y6, y7, t8) => ⟨[(0, slE Enc.byte y6 none), (4, slE Enc.byte y7 (some t8))], [], [.tok t8 5]⟩) (fun (n10, y6, y7, t8) => dS F n10 (y6, y7) = some (r3, r4)) (fun (n10, y6, y7, t8) => n10) (F, a1, [], t5) H (aU [0] (.cons (.tok _ _ _) (.cons (.refl _) (.nil _))) rfl) ?_;rintro ⟨n10, y6, y7, t8⟩ H;obtain ⟨n10, rfl, H⟩ := bX H;replace H : ji F (dS F n10) y6 y7 = some (r3, r4) := H
  unfold ji at H
  refine af <| af <| ab ?_;show AR _ _ _ _ _ [0, 1, 2] _;refine zS rfl (ag (av := slE _ _ _) rfl) <| zS rfl (aH aa rfl) <| zS rfl (cN rfl rfl) <| ai <| aD rfl (fun c11 => ?_) (fun c11 => ?_)
  ·replace H := aZ c11 H;refine aF <| aJ <| AW.scope <| af <| ab ?_;show AR _ _ _ _ _ [0] _;refine za rfl <| ai <| af <| AW.label <| bx (X := (List UInt8) × Nat × Int) (fun (y55, t56, y57) => ⟨[(0, slE Enc.byte y6 none), (4, slE Enc.byte y55 (some t56)), (5, i64 y57)], [], [.tok t56 5]⟩) (fun (y55, t56, y57) => dx y6 (dS F n10) y55 y57 = some (r3, r4)) ?_ ?_
   ·refine af ?_;obtain ⟨g12, H⟩ := az H;obtain ⟨x13, e14, H⟩ := bb H;refine ab ?_;show AR _ _ _ _ _ [0, 1, 2, 3] _;refine zS rfl (ag (av := slE _ _ _) rfl) <| zS rfl (aY (E := Enc.byte) aa (by kernel_rfl) rfl rfl g12 e14) <| zS rfl (aL au rfl rfl) <| za rfl <| ai <| aJ <| af ?_;obtain ⟨x16, e17, H⟩ := bb H;refine ab ?_;show AR _ _ _ _ _ [0, 1, 2, 3, 4] _;refine zS rfl (ag (av := slE _ _ _) rfl) <| zX rfl (kM (E := Enc.byte) (bytes := 1) (xs := [.const _, .const _]) (l := ([13, 10] : List UInt8)) aa (by kernel_rfl) rfl rfl (by decide) rfl rfl) ?_;rintro _ _ ⟨t15, rfl, rfl⟩;refine zR rfl (hC 0 aa au rfl (by simp) rfl) <| ap rfl rfl (aW rfl wM rfl (show ACalls _ _ _ [] (Ret (B x16) []) from by subst e17; exact iB y6 ([13, 10] : List UInt8) none (some t15)) ?_);refine za rfl <| ai <| aD rfl (fun c18 => ?_) (fun c18 => ?_)
    ·replace H := aZ c18 H;obtain ⟨g20, H⟩ := az H;obtain ⟨x21, e22, H⟩ := bb H;refine ab ?_;show AR _ _ _ _ _ [0, 1, 2, 3, 4] _;refine zS rfl (ag (av := slE _ _ _) rfl) <| zR rfl (bh (E := Enc.byte) (bytes := 1) (xs := [.const _]) (l := ([10] : List UInt8)) aa (by kernel_rfl) rfl rfl (by decide) rfl rfl) <| zX rfl (bA (E := Enc.byte) (bytes := 1) 1 aa aa rfl (by kernel_rfl) rfl rfl rfl rfl g20 e22) ?_;rintro _ _ ⟨t19, rfl, rfl⟩;refine zS rfl (am (av := slE _ _ _) rfl) <| za rfl <| ai ?_;exact Exists.intro (x21, t19, 2) ⟨H, aU [1] (.cons (.refl _) (.cons (.refl _) (.cons (.refl _) (.nil _)))) rfl⟩
    ·replace H := ba c18 H;refine af ?_;obtain ⟨x24, e25, H⟩ := bb H;refine ab ?_;show AR _ _ _ _ _ [0, 1, 2, 3, 4] _;refine zS rfl (ag (av := slE _ _ _) rfl) <| zX rfl (kM (E := Enc.byte) (bytes := 1) (xs := [.const _, .const _, .const _]) (l := ([61, 13, 10] : List UInt8)) aa (by kernel_rfl) rfl rfl (by decide) rfl rfl) ?_;rintro _ _ ⟨t23, rfl, rfl⟩;refine zR rfl (hC 0 aa au rfl (by simp) rfl) <| ap rfl rfl (aW rfl wM rfl (show ACalls _ _ _ [] (Ret (B x24) []) from by subst e25; exact iB y6 ([61, 13, 10] : List UInt8) none (some t23)) ?_);refine za rfl <| ai <| aD rfl (fun c26 => ?_) (fun c26 => ?_)
     ·replace H := aZ c26 H;refine af <| ab ?_;show AR _ _ _ _ _ [0] _;refine za rfl <| ai <| bz ?_;exact Exists.intro (y7, t8, 3) ⟨H, aU [2] (.cons (.refl _) (.cons (.refl _) (.cons (.refl _) (.nil _)))) rfl⟩
     ·replace H := ba c26 H;refine af <| ab ?_;show AR _ _ _ _ _ [0, 1, 2, 3, 4, 5, 6, 7] _;refine zm rfl <| zS rfl (dt (a := x13) (b := 61) rfl rfl) <| zm rfl <| aQ (l := [7]) 37 (B ((decide (x13 = 61)) && (decide (2 < (y6.length : Int))))) (fun K => ?_) ?_
      ·rcases ah (decide (x13 = 61)) with h27 | h27
       ·refine zU h27 rfl (ag (av := slE _ _ _) rfl) <| zU h27 rfl (aH aa rfl) <| zU h27 rfl (cN rfl rfl) <| zS rfl (ax (av := .v _) rfl h27 rfl) ?_;exact K _ 3 _ (an (cc h27)) rfl rfl
       ·refine zF h27 rfl <| zF h27 rfl <| zF h27 rfl <| zS rfl (ay (av := .v _) rfl h27 rfl) ?_;exact K _ 3 _ (an (cd h27)) rfl rfl
      refine za rfl <| ai <| aD rfl (fun c28 => ?_) (fun c28 => ?_)
      ·replace H := aZ c28 H;refine af ?_;obtain ⟨g29, H⟩ := az H;obtain ⟨x30, e31, H⟩ := bb H;obtain ⟨x32, x33, e34, H⟩ := eK H;refine ab ?_;show AR _ _ _ _ _ [0, 1, 2, 3, 4, 5, 6, 7, 8] _;refine zS rfl (ag (av := slE _ _ _) rfl) <| zS rfl (aY (E := Enc.byte) aa (by kernel_rfl) rfl rfl g29 e31) <| zS rfl (aL au rfl rfl) <| ap rfl rfl (aW rfl wL rfl (pz F x30 x32 x33 e34) ?_);refine zS rfl (ag (av := .tup _) rfl) <| zS rfl (aI (av := .v _) rfl rfl) <| zS rfl (aI (av := .v _) rfl rfl) <| za rfl <| za rfl <| ai <| af ?_;obtain ⟨g35, H⟩ := az H;obtain ⟨x36, e37, H⟩ := bb H;obtain ⟨x38, x39, e40, H⟩ := eK H;refine ab ?_;show AR _ _ _ _ _ [0, 1, 2, 3, 4, 5, 6, 7, 8] _;refine zS rfl (ag (av := slE _ _ _) rfl) <| zS rfl (aY (E := Enc.byte) aa (by kernel_rfl) rfl rfl g35 e37) <| zS rfl (aL au rfl rfl) <| ap rfl rfl (aW rfl wL rfl (pz F x36 x38 x39 e40) ?_);refine zS rfl (ag (av := .tup _) rfl) <| zS rfl (aI (av := .v _) rfl rfl) <| zS rfl (aI (av := .v _) rfl rfl) <| za rfl <| za rfl <| ai <| af <| af <| ab ?_;show AR _ _ _ _ _ [0, 1, 2, 3, 4, 5] _;refine zm rfl <| zS rfl (cx rfl) <| zm rfl <| aQ (l := []) 57 (B ((!x33) || (!x39))) (fun K => ?_) ?_
       ·rcases ah (!x33) with h41 | h41
        ·refine zF h41 rfl <| zF h41 rfl <| zS rfl (ax (av := .v _) rfl h41 rfl) ?_;exact K _ 2 _ (an (dC h41)) rfl rfl
        ·refine zM h41 rfl <| zU h41 rfl (cx rfl) <| zS rfl (ay (av := .v _) rfl h41 rfl) ?_;exact K _ 2 _ (an (dD h41)) rfl rfl
       refine ai <| aD rfl (fun c42 => ?_) (fun c42 => ?_)
       ·replace H := aZ c42 H;refine af <| ab ?_;show AR _ _ _ _ _ [0, 1] _;refine za rfl <| za rfl <| ai <| aP ?_;obtain ⟨rfl, rfl⟩ := fX H;exact And.intro rfl (Exists.intro _ (Exists.intro _ ⟨bH rfl (.nil _) (.refl _), aO [] rfl, rfl, rfl⟩))
       ·replace H := ba c42 H;refine aF ?_;obtain ⟨g44, H⟩ := az H;obtain ⟨x45, e46, H⟩ := bb H;refine ab ?_;show AR _ _ _ _ _ [0, 1, 2, 3, 4, 5, 6, 7, 8] _;refine zS rfl (ag (av := slE _ _ _) rfl) <| zm rfl <| zS rfl (g_shl8 (n := 4) rfl rfl rfl) <| zm rfl <| zS rfl (g_or8 (a := Go.Av.shl8 x32 4) (b := x38) rfl rfl) <| zR rfl (bh (E := Enc.byte) (bytes := 1) (xs := [.tmp 62]) (l := ([(Go.Av.shl8 x32 4) ||| x38] : List UInt8)) aa (by kernel_rfl) rfl rfl (by decide) rfl rfl) <| zX rfl (bA (E := Enc.byte) (bytes := 1) 2 aa aa rfl (by kernel_rfl) rfl rfl rfl rfl g44 e46) ?_;rintro _ _ ⟨t43, rfl, rfl⟩;refine zS rfl (am (av := slE _ _ _) rfl) <| za rfl <| ai ?_;exact Exists.intro (x45, t43, 3) ⟨H, aU [2] (.cons (.refl _) (.cons (.refl _) (.cons (.refl _) (.nil _)))) rfl⟩
      ·replace H := ba c28 H;refine af <| ab ?_;show AR _ _ _ _ _ [0, 1, 2, 3, 4, 5, 6, 7, 8, 9, 10, 11, 12, 13, 14] _;refine zm rfl <| zS rfl (mt (a := x13) (b := 61) rfl rfl) <| zm rfl <| aQ (l := [14]) 79 (B ((!decide (x13 = 61)) && (((decide (32 ≤ (x13.toNat : Int))) && (decide ((x13.toNat : Int) < 127))) || (decide (x13 = 9))))) (fun K => ?_) ?_
       ·rcases ah (!decide (x13 = 61)) with h47 | h47
        ·refine zM h47 rfl <| zU h47 rfl (dl rfl rfl) <| zM h47 rfl <| aQ (l := [9, 10, 11, 12, 13, 14]) 74 (B ((decide (32 ≤ (x13.toNat : Int))) && (decide ((x13.toNat : Int) < 127)))) (fun K => ?_) ?_
         ·rcases ah (decide (32 ≤ (x13.toNat : Int))) with h48 | h48
          ·refine zM h48 rfl <| zU h48 rfl (bB rfl rfl) <| zU h47 rfl (ax (av := .v _) rfl h48 rfl) ?_;exact K _ 2 _ (an (cc h48)) rfl rfl
          ·refine zF h48 rfl <| zF h48 rfl <| zU h47 rfl (ay (av := .v _) rfl h48 rfl) ?_;exact K _ 2 _ (an (cd h48)) rfl rfl
         refine zM h47 rfl <| aQ (l := [13, 14]) 78 (B (((decide (32 ≤ (x13.toNat : Int))) && (decide ((x13.toNat : Int) < 127))) || (decide (x13 = 9)))) (fun K => ?_) ?_
         ·rcases ah ((decide (32 ≤ (x13.toNat : Int))) && (decide ((x13.toNat : Int) < 127))) with h49 | h49
          ·refine zF h49 rfl <| zF h49 rfl <| zU h47 rfl (ax (av := .v _) rfl h49 rfl) ?_;exact K _ 2 _ (an (dC h49)) rfl rfl
          ·refine zM h49 rfl <| zU h49 rfl (dt (a := x13) (b := 9) rfl rfl) <| zU h47 rfl (ay (av := .v _) rfl h49 rfl) ?_;exact K _ 2 _ (an (dD h49)) rfl rfl
         refine zS rfl (ax (av := .v _) rfl h47 rfl) ?_;exact K _ 6 _ (an (cc h47)) rfl rfl
        ·refine zF h47 rfl <| zF h47 rfl <| zF h47 rfl <| gU rfl rfl rfl rfl rfl <| gU rfl rfl rfl rfl rfl <| zF h47 rfl <| zF h47 rfl <| gU rfl rfl rfl rfl rfl <| gU rfl rfl rfl rfl rfl <| zF h47 rfl <| zS rfl (ay (av := .v _) rfl h47 rfl) ?_;exact K _ 10 _ (an (cd h47)) rfl rfl
       refine za rfl <| ai <| aD rfl (fun c50 => ?_) (fun c50 => ?_)
       ·replace H := aZ c50 H;obtain ⟨g52, H⟩ := az H;obtain ⟨x53, e54, H⟩ := bb H;refine ab ?_;show AR _ _ _ _ _ [0, 1, 2, 3, 4] _;refine zS rfl (ag (av := slE _ _ _) rfl) <| zm rfl <| zR rfl (bh (E := Enc.byte) (bytes := 1) (xs := [.tmp 81]) (l := ([x13] : List UInt8)) aa (by kernel_rfl) rfl rfl (by decide) rfl rfl) <| zX rfl (bA (E := Enc.byte) (bytes := 1) 2 aa aa rfl (by kernel_rfl) rfl rfl rfl rfl g52 e54) ?_;rintro _ _ ⟨t51, rfl, rfl⟩;refine zS rfl (am (av := slE _ _ _) rfl) <| ai ?_;exact Exists.intro (x53, t51, 1) ⟨H, aU [2] (.cons (.refl _) (.cons (.refl _) (.cons (.refl _) (.nil _)))) rfl⟩
       ·replace H := ba c50 H;refine af <| ab ?_;show AR _ _ _ _ _ [0, 1] _;refine za rfl <| za rfl <| ai <| aP ?_;obtain ⟨rfl, rfl⟩ := fX H;exact And.intro rfl (Exists.intro _ (Exists.intro _ ⟨bH rfl (.nil _) (.refl _), aO [] rfl, rfl, rfl⟩))
   rintro ⟨y55, t56, y57⟩ H;replace H : dx y6 (dS F n10) y55 y57 = some (r3, r4) := H
   unfold dx at H
   obtain ⟨g59, H⟩ := az H;obtain ⟨x60, e61, H⟩ := bb H;refine ab ?_;show AR _ _ _ _ _ [0, 1, 2, 3] _;refine zS rfl (ag (av := slE _ _ _) rfl) <| zm rfl <| zS rfl (gx (E := Enc.byte) aa (by kernel_rfl) rfl rfl g59 e61) <| zS rfl (am (av := slE _ _ _) rfl) <| ai ?_;exact Exists.intro (n10, x60, y55, t56) ⟨H, Nat.lt_succ_self _, aU [0] (.cons (.refl _) (.cons (.refl _) (.nil _))) rfl⟩
  ·replace H := ba c11 H;refine bz ?_;exact Exists.intro (y7, t8) ⟨H, aU [0] (.cons (.refl _) (.nil _)) rfl⟩
 rintro ⟨y62, t63⟩ H;replace H : jh y62 = some (r3, r4) := H
 unfold jh at H
 refine af <| ab ?_;show AR _ _ _ _ _ [0, 1, 2] _;refine zS rfl (ag (av := slE _ _ _) rfl) <| zS rfl (am (av := slE _ _ _) rfl) <| za rfl <| ai <| aP ?_;obtain ⟨rfl, rfl⟩ := fX H;exact And.intro rfl (Exists.intro _ (Exists.intro _ ⟨bH rfl (.tok _ _ _) (.refl _), aO [] rfl, rfl, rfl⟩))
abbrev _root_.Go.Av.bm := @Tryz.underlying3
set_option maxRecDepth 100000 in
set_option maxHeartbeats 1000000 in
theorem w_qp_put (F : Nat) (o1 : Nat) (a2 : List UInt8) (t3 : Nat) (a4 : Int) (a5 : List UInt8) (r6 : List UInt8) (r8 : Int) (H : qa F a2 a4 a5 = some (r6, r8)) : ACalls Tryz.prog 44 [.pt o1 0, S a5] [.obj o1 [slE Enc.byte a2 (some t3), i64 a4], .tok t3 5] (fun e A' => e = .ret (.tup []) ∧ ∃ t7, A' = [.obj o1 [slE Enc.byte r6 (some t7), i64 r8], .tok t7 5]) := by
 unfold qa at H
 refine aw Tryz.func44 rfl rfl ?_;show AW _ _ 42 _ _ _;refine bx (X := (List UInt8) × Nat × Int) (fun (y15, t16, y17) => ⟨[(0, .pt o1 0), (1, S a5)], [], [.obj o1 [slE Enc.byte y15 (some t16), i64 y17], .tok t16 5]⟩) (fun (y15, t16, y17) => kD a5 y15 y17 = some (r6, r8)) ?_ ?_
 ·refine af ?_;obtain ⟨g9, H⟩ := az H;refine ab ?_;show AR _ _ _ _ _ [0, 1, 2, 3, 4, 5, 6, 7] _;refine zS rfl (ag (av := .pt _ _) rfl) <| zS rfl (aN rfl) <| zS rfl (aK (n := 1) (by kernel_rfl) rfl) <| zR rfl (ao (i := 0) bm rfl rfl rfl rfl) <| zm rfl <| zS rfl (aX ac rfl) <| zS rfl (bk rfl rfl g9) <| zS rfl (cN rfl rfl) <| ai <| aD rfl (fun c10 => ?_) (fun c10 => ?_)
  ·replace H := aZ c10 H;obtain ⟨g12, H⟩ := az H;obtain ⟨x13, e14, H⟩ := bb H;refine ab ?_;show AR _ _ _ _ _ [0, 1, 2, 3, 4, 5, 6, 7, 8, 9, 10, 11, 12] _;refine zS rfl (ag (av := .pt _ _) rfl) <| zS rfl (ag (av := .pt _ _) rfl) <| zS rfl (ag (av := .pt _ _) rfl) <| zS rfl (aN rfl) <| zS rfl (aK (n := 0) (by kernel_rfl) rfl) <| zR rfl (ao (i := 0) aa rfl rfl rfl rfl) <| zX rfl (bi (bytes := 1) 1 aa ac rfl (by kernel_rfl) rfl rfl rfl rfl g12 e14) ?_;rintro _ _ ⟨t11, rfl, rfl⟩;refine zS rfl (aN rfl) <| zS rfl (aK (n := 0) (by kernel_rfl) rfl) <| s0 rfl rfl (aB (i := 0) (c := slE _ _ _) (by kernel_rfl) rfl rfl rfl rfl (aj rfl)) <| zS rfl (aN rfl) <| zS rfl (aK (n := 1) (by kernel_rfl) rfl) <| s0 rfl rfl (aB (i := 0) (c := .v _) (by kernel_rfl) rfl rfl rfl rfl (aj rfl)) <| ai ?_;exact Exists.intro (x13, t11, 0) ⟨H, aU [0, 0] (.cons (.refl _) (.cons (.refl _) (.nil _))) rfl⟩
  ·replace H := ba c10 H;refine aF ?_;exact Exists.intro (a2, t3, a4) ⟨H, aU [0, 0] (.cons (.refl _) (.cons (.refl _) (.nil _))) rfl⟩
 rintro ⟨y15, t16, y17⟩ H;replace H : kD a5 y15 y17 = some (r6, r8) := H
 unfold kD at H
 obtain ⟨g20, H⟩ := az H;obtain ⟨x21, e22, H⟩ := bb H;obtain ⟨g23, H⟩ := az H;refine bW (by kernel_rfl) ?_;show AI _ _ _ _ _ 21 (Array.replicate 21 false) _;refine zk 0 rfl (ag (av := .pt _ _) rfl) ?_;show AI _ _ _ _ _ _ #[true, false, false, false, false, false, false, false, false, false, false, false, false, false, false, false, false, false, false, false, false] _;refine zk 1 rfl (ag (av := .pt _ _) rfl) ?_;show AI _ _ _ _ _ _ #[true, true, false, false, false, false, false, false, false, false, false, false, false, false, false, false, false, false, false, false, false] _;refine zk 2 rfl (ag (av := .pt _ _) rfl) ?_;show AI _ _ _ _ _ _ #[true, true, true, false, false, false, false, false, false, false, false, false, false, false, false, false, false, false, false, false, false] _;refine zk 3 rfl (aN rfl) ?_;show AI _ _ _ _ _ _ #[true, true, true, true, false, false, false, false, false, false, false, false, false, false, false, false, false, false, false, false, false] _;refine zk 4 rfl (aK (n := 0) (by kernel_rfl) rfl) ?_;show AI _ _ _ _ _ _ #[true, true, true, true, true, false, false, false, false, false, false, false, false, false, false, false, false, false, false, false, false] _;refine zk 6 rfl (mv rfl) ?_;show AI _ _ _ _ _ _ #[true, true, true, true, true, false, true, false, false, false, false, false, false, false, false, false, false, false, false, false, false] _;refine zk 8 rfl (ag (av := .pt _ _) rfl) ?_
 show AI _ _ _ _ _ _ #[true, true, true, true, true, false, true, false, true, false, false, false, false, false, false, false, false, false, false, false, false] _;refine zk 9 rfl (aN rfl) ?_;show AI _ _ _ _ _ _ #[true, true, true, true, true, false, true, false, true, true, false, false, false, false, false, false, false, false, false, false, false] _;refine zk 10 rfl (aK (n := 1) (by kernel_rfl) rfl) ?_;show AI _ _ _ _ _ _ #[true, true, true, true, true, false, true, false, true, true, true, false, false, false, false, false, false, false, false, false, false] _;refine zk 12 rfl (mv rfl) ?_;show AI _ _ _ _ _ _ #[true, true, true, true, true, false, true, false, true, true, true, false, true, false, false, false, false, false, false, false, false] _;refine zk 13 rfl (aX ac rfl) ?_;show AI _ _ _ _ _ _ #[true, true, true, true, true, false, true, false, true, true, true, false, true, true, false, false, false, false, false, false, false] _;refine dw (i := 5) (j := 11) (by kernel_rfl) rfl rfl rfl rfl ?_ ?_
 ·refine be rfl (ao (i := 0) aa rfl rfl rfl rfl) ?_;show AI _ _ _ _ _ _ #[true, true, true, true, true, true, true, false, true, true, true, false, true, true, false, false, false, false, false, false, false] _;refine dw (i := 7) (j := 11) (by kernel_rfl) rfl rfl rfl rfl ?_ ?_
  ·refine bS rfl (bi (bytes := 1) 1 aa ac rfl (by kernel_rfl) rfl rfl rfl rfl g20 e22) ?_;rintro _ _ ⟨t19, rfl, rfl⟩;show AI _ _ _ _ _ _ #[true, true, true, true, true, true, true, true, true, true, true, false, true, true, false, false, false, false, false, false, false] _;refine bf (i := 11) (by kernel_rfl) rfl rfl <| be rfl (ao (i := 0) bm rfl rfl rfl rfl) ?_;show AI _ _ _ _ _ _ #[true, true, true, true, true, true, true, true, true, true, true, true, true, true, false, false, false, false, false, false, false] _;refine zk 14 rfl (bk rfl rfl g23) ?_;show AI _ _ _ _ _ _ #[true, true, true, true, true, true, true, true, true, true, true, true, true, true, true, false, false, false, false, false, false] _;refine zk 15 rfl (aN rfl) ?_;show AI _ _ _ _ _ _ #[true, true, true, true, true, true, true, true, true, true, true, true, true, true, true, true, false, false, false, false, false] _;refine zk 16 rfl (aK (n := 0) (by kernel_rfl) rfl) ?_;show AI _ _ _ _ _ _ #[true, true, true, true, true, true, true, true, true, true, true, true, true, true, true, true, true, false, false, false, false] _;refine bf (i := 17) (by kernel_rfl) rfl rfl <| ck (aB (i := 0) (c := slE _ _ _) (by kernel_rfl) rfl rfl rfl rfl (aj rfl)) ?_;show AI _ _ _ _ _ _ #[true, true, true, true, true, true, true, true, true, true, true, true, true, true, true, true, true, true, false, false, false] _;refine zk 18 rfl (aN rfl) ?_
   show AI _ _ _ _ _ _ #[true, true, true, true, true, true, true, true, true, true, true, true, true, true, true, true, true, true, true, false, false] _;refine zk 19 rfl (aK (n := 1) (by kernel_rfl) rfl) ?_;show AI _ _ _ _ _ _ #[true, true, true, true, true, true, true, true, true, true, true, true, true, true, true, true, true, true, true, true, false] _;refine bf (i := 20) (by kernel_rfl) rfl rfl <| ck (aB (i := 0) (c := .v _) (by kernel_rfl) rfl rfl rfl rfl (aj rfl)) ?_;show AI _ _ _ _ _ _ #[true, true, true, true, true, true, true, true, true, true, true, true, true, true, true, true, true, true, true, true, true] _;refine bN rfl ?_;obtain ⟨rfl, rfl⟩ := fX H;exact And.intro rfl (Exists.intro _ (Exists.intro _ ⟨dJ rfl, aO [0, 0] rfl, rfl, t19, rfl⟩))
  ·refine be rfl (ao (i := 0) bm rfl rfl rfl rfl) ?_;show AI _ _ _ _ _ _ #[true, true, true, true, true, true, true, false, true, true, true, true, true, true, false, false, false, false, false, false, false] _;refine zk 14 rfl (bk rfl rfl g23) ?_;show AI _ _ _ _ _ _ #[true, true, true, true, true, true, true, false, true, true, true, true, true, true, true, false, false, false, false, false, false] _;refine bf (i := 7) (by kernel_rfl) rfl rfl <| bS rfl (bi (bytes := 1) 1 aa ac rfl (by kernel_rfl) rfl rfl rfl rfl g20 e22) ?_;rintro _ _ ⟨t24, rfl, rfl⟩;show AI _ _ _ _ _ _ #[true, true, true, true, true, true, true, true, true, true, true, true, true, true, true, false, false, false, false, false, false] _;refine zk 15 rfl (aN rfl) ?_;show AI _ _ _ _ _ _ #[true, true, true, true, true, true, true, true, true, true, true, true, true, true, true, true, false, false, false, false, false] _;refine zk 16 rfl (aK (n := 0) (by kernel_rfl) rfl) ?_;show AI _ _ _ _ _ _ #[true, true, true, true, true, true, true, true, true, true, true, true, true, true, true, true, true, false, false, false, false] _;refine bf (i := 17) (by kernel_rfl) rfl rfl <| ck (aB (i := 0) (c := slE _ _ _) (by kernel_rfl) rfl rfl rfl rfl (aj rfl)) ?_;show AI _ _ _ _ _ _ #[true, true, true, true, true, true, true, true, true, true, true, true, true, true, true, true, true, true, false, false, false] _;refine zk 18 rfl (aN rfl) ?_
   show AI _ _ _ _ _ _ #[true, true, true, true, true, true, true, true, true, true, true, true, true, true, true, true, true, true, true, false, false] _;refine zk 19 rfl (aK (n := 1) (by kernel_rfl) rfl) ?_;show AI _ _ _ _ _ _ #[true, true, true, true, true, true, true, true, true, true, true, true, true, true, true, true, true, true, true, true, false] _;refine bf (i := 20) (by kernel_rfl) rfl rfl <| ck (aB (i := 0) (c := .v _) (by kernel_rfl) rfl rfl rfl rfl (aj rfl)) ?_;show AI _ _ _ _ _ _ #[true, true, true, true, true, true, true, true, true, true, true, true, true, true, true, true, true, true, true, true, true] _;refine bN rfl ?_;obtain ⟨rfl, rfl⟩ := fX H;exact And.intro rfl (Exists.intro _ (Exists.intro _ ⟨dJ rfl, aO [0, 0] rfl, rfl, t24, rfl⟩))
 ·refine be rfl (ao (i := 0) bm rfl rfl rfl rfl) ?_;show AI _ _ _ _ _ _ #[true, true, true, true, true, false, true, false, true, true, true, true, true, true, false, false, false, false, false, false, false] _;refine zk 14 rfl (bk rfl rfl g23) ?_;show AI _ _ _ _ _ _ #[true, true, true, true, true, false, true, false, true, true, true, true, true, true, true, false, false, false, false, false, false] _;refine bf (i := 5) (by kernel_rfl) rfl rfl <| be rfl (ao (i := 0) aa rfl rfl rfl rfl) ?_;show AI _ _ _ _ _ _ #[true, true, true, true, true, true, true, false, true, true, true, true, true, true, true, false, false, false, false, false, false] _;refine bf (i := 7) (by kernel_rfl) rfl rfl <| bS rfl (bi (bytes := 1) 1 aa ac rfl (by kernel_rfl) rfl rfl rfl rfl g20 e22) ?_;rintro _ _ ⟨t25, rfl, rfl⟩;show AI _ _ _ _ _ _ #[true, true, true, true, true, true, true, true, true, true, true, true, true, true, true, false, false, false, false, false, false] _;refine zk 15 rfl (aN rfl) ?_;show AI _ _ _ _ _ _ #[true, true, true, true, true, true, true, true, true, true, true, true, true, true, true, true, false, false, false, false, false] _;refine zk 16 rfl (aK (n := 0) (by kernel_rfl) rfl) ?_;show AI _ _ _ _ _ _ #[true, true, true, true, true, true, true, true, true, true, true, true, true, true, true, true, true, false, false, false, false] _
  refine bf (i := 17) (by kernel_rfl) rfl rfl <| ck (aB (i := 0) (c := slE _ _ _) (by kernel_rfl) rfl rfl rfl rfl (aj rfl)) ?_;show AI _ _ _ _ _ _ #[true, true, true, true, true, true, true, true, true, true, true, true, true, true, true, true, true, true, false, false, false] _;refine zk 18 rfl (aN rfl) ?_;show AI _ _ _ _ _ _ #[true, true, true, true, true, true, true, true, true, true, true, true, true, true, true, true, true, true, true, false, false] _;refine zk 19 rfl (aK (n := 1) (by kernel_rfl) rfl) ?_;show AI _ _ _ _ _ _ #[true, true, true, true, true, true, true, true, true, true, true, true, true, true, true, true, true, true, true, true, false] _;refine bf (i := 20) (by kernel_rfl) rfl rfl <| ck (aB (i := 0) (c := .v _) (by kernel_rfl) rfl rfl rfl rfl (aj rfl)) ?_;show AI _ _ _ _ _ _ #[true, true, true, true, true, true, true, true, true, true, true, true, true, true, true, true, true, true, true, true, true] _;refine bN rfl ?_;obtain ⟨rfl, rfl⟩ := fX H;exact And.intro rfl (Exists.intro _ (Exists.intro _ ⟨dJ rfl, aO [0, 0] rfl, rfl, t25, rfl⟩))
set_option maxRecDepth 100000 in
set_option maxHeartbeats 1000000 in
theorem sD (F : Nat) (a1 : List UInt8) (q2 : Option Nat) (r3 : List UInt8) (H : mM F a1 = some r3) : ACalls Tryz.prog 23 [slE Enc.byte a1 q2] [] (Ret (slE Enc.byte r3 none) []) := by
 unfold mM at H
 refine aw Tryz.func23 rfl rfl ?_;show AW _ _ 41 _ _ _;refine af <| ab ?_;show AR _ _ _ _ _ [0] _;refine za rfl <| ai <| af <| ab ?_;show AR _ _ _ _ _ [0, 1, 2] _;refine zS rfl (iH (zs := [.slice none 0 0, .int .i64 0]) (ps := [(0, 1), (1, 1)]) (cs := [nT, i64 0]) (by kernel_rfl) rfl rfl) <| zX rfl (sa rfl (.inr ⟨_, rfl⟩)) ?_;rintro _ _ ⟨o4, rfl, rfl⟩;refine zS rfl (am (av := .pt _ _) rfl) <| ai ?_
 refine kv 0 0 1 5 rfl rfl fun t5 => ?_
 show AW _ _ _ _ _ ⟨_, _, [.tok t5 5, .obj o4 [slE Enc.byte [] (some t5), i64 0]]⟩;refine bx (X := (List UInt8) × Nat × Int) (fun (y36, t37, y38) => ⟨[(3, .pt o4 0)], [], [.obj o4 [slE Enc.byte y36 (some t37), i64 y38], .tok t37 5]⟩) (fun (y36, t37, y38) => jf y36 y38 = some r3) ?_ ?_
 ·refine af <| ab ?_;show AR _ _ _ _ _ [0, 1, 2] _;refine zS rfl (ag (av := slE _ _ _) rfl) <| zS rfl (aH aa rfl) <| zm rfl <| ai <| aJ <| bE (X := Nat × Int × (List UInt8) × Nat × Int) (fun (n11, y6, y7, t8, y9) => ⟨[(0, slE Enc.byte a1 q2), (3, .pt o4 0), (8, slE Enc.byte a1 q2), (9, i64 (a1.length : Int)), (10, i64 y6)], [], [.obj o4 [slE Enc.byte y7 (some t8), i64 y9], .tok t8 5]⟩) (fun (n11, y6, y7, t8, y9) => eM F a1 n11 (y6, y7, y9) = some r3) (fun (n11, y6, y7, t8, y9) => n11) (F, 0, [], t5, 0) H (aU [1, 0] (.cons (.refl _) (.cons (.refl _) (.cons (.refl _) (.cons (.refl _) (.cons (.refl _) (.nil _)))))) rfl) ?_;rintro ⟨n11, y6, y7, t8, y9⟩ H;obtain ⟨n11, rfl, H⟩ := bX H;replace H : jg F a1 (eM F a1 n11) y6 y7 y9 = some r3 := H
  unfold jg at H
  refine af <| ab ?_;show AR _ _ _ _ _ [0] _;refine zS rfl (bB rfl rfl) <| ai <| af <| aD rfl (fun c12 => ?_) (fun c12 => ?_)
  ·replace H := aZ c12 H;refine aF <| bx (X := (List UInt8) × Nat × Int) (fun (y31, t32, y33) => ⟨[(0, slE Enc.byte a1 q2), (3, .pt o4 0), (8, slE Enc.byte a1 q2), (9, i64 (a1.length : Int)), (10, i64 y6)], [], [.obj o4 [slE Enc.byte y31 (some t32), i64 y33], .tok t32 5]⟩) (fun (y31, t32, y33) => gk y6 (eM F a1 n11) y31 y33 = some r3) ?_ ?_
   ·refine aJ <| af ?_;obtain ⟨g13, H⟩ := az H;obtain ⟨x14, e15, H⟩ := bb H;refine ab ?_;show AR _ _ _ _ _ [0, 1, 2, 3, 4] _;refine zm rfl <| zS rfl (aY (E := Enc.byte) aa (by kernel_rfl) rfl rfl g13 e15) <| zS rfl (aL au rfl rfl) <| za rfl <| za rfl <| ai <| af <| af <| ab ?_;show AR _ _ _ _ _ [0, 1] _;refine zm rfl <| zS rfl (dt (a := x14) (b := 10) rfl rfl) <| ai <| aD rfl (fun c16 => ?_) (fun c16 => ?_)
    ·replace H := aZ c16 H;refine af ?_;obtain ⟨g18, H⟩ := az H;obtain ⟨x19, e20, H⟩ := bb H;refine ab ?_;show AR _ _ _ _ _ [0, 1, 2, 3, 4, 5, 6, 7, 8, 9, 10, 11, 12] _;refine zS rfl (ag (av := .pt _ _) rfl) <| zS rfl (ag (av := .pt _ _) rfl) <| zS rfl (ag (av := .pt _ _) rfl) <| zS rfl (aN rfl) <| zS rfl (aK (n := 0) (by kernel_rfl) rfl) <| zR rfl (ao (i := 0) aa rfl rfl rfl rfl) <| zX rfl (bi (bytes := 1) 1 aa ac rfl (by kernel_rfl) rfl rfl rfl rfl g18 e20) ?_;rintro _ _ ⟨t17, rfl, rfl⟩;refine zS rfl (aN rfl) <| zS rfl (aK (n := 0) (by kernel_rfl) rfl) <| s0 rfl rfl (aB (i := 0) (c := slE _ _ _) (by kernel_rfl) rfl rfl rfl rfl (aj rfl)) <| zS rfl (aN rfl) <| zS rfl (aK (n := 1) (by kernel_rfl) rfl) <| s0 rfl rfl (aB (i := 0) (c := .v _) (by kernel_rfl) rfl rfl rfl rfl (aj rfl)) <| ai <| bz ?_;exact Exists.intro (x19, t17, 0) ⟨H, aU [0, 0] (.cons (.refl _) (.cons (.refl _) (.cons (.refl _) (.cons (.refl _) (.cons (.refl _) (.nil _)))))) rfl⟩
    ·replace H := ba c16 H;refine aF ?_;obtain ⟨g21, H⟩ := az H;obtain ⟨g22, H⟩ := az H;obtain ⟨x23, e24, H⟩ := bb H;obtain ⟨x25, e26, H⟩ := cT H;obtain ⟨x27, x28, e29, H⟩ := eK H;refine ab ?_;show AR _ _ _ _ _ [0, 1, 2, 3, 4, 5, 6, 7] _;refine zS rfl (ag (av := .pt _ _) rfl) <| zm rfl <| zS rfl (ag (av := slE _ _ _) rfl) <| zm rfl <| zS rfl (bk rfl rfl g21) <| zS rfl (gx (E := Enc.byte) aa (by kernel_rfl) rfl rfl g22 e24) <| ap rfl rfl (aW rfl en45_qp rfl (wV F x14 x23 none x25 e26) ?_);refine ap rfl rfl (AO.callAt [0, 0] rfl en44_qp rfl (w_qp_put F o4 y7 t8 y9 x25 x27 x28 e29) rfl (fun c A' h => by cases h.1) ?_)
     rintro av A' ⟨h, t30, rfl⟩; cases h
     refine ai ?_;exact Exists.intro (x27, t30, x28) ⟨H, aU [0, 0] (.cons (.refl _) (.cons (.refl _) (.cons (.refl _) (.cons (.refl _) (.cons (.refl _) (.nil _)))))) rfl⟩
   rintro ⟨y31, t32, y33⟩ H;replace H : gk y6 (eM F a1 n11) y31 y33 = some r3 := H
   unfold gk at H
   obtain ⟨g35, H⟩ := az H;refine ab ?_;show AR _ _ _ _ _ [0, 1] _;refine zS rfl (bk rfl rfl g35) <| zm rfl <| ai ?_;exact Exists.intro (n11, y6 + 1, y31, t32, y33) ⟨H, Nat.lt_succ_self _, aU [0, 0] (.cons (.refl _) (.cons (.refl _) (.cons (.refl _) (.cons (.refl _) (.cons (.refl _) (.nil _)))))) rfl⟩
  ·replace H := ba c12 H;refine bz ?_;exact Exists.intro (y7, t8, y9) ⟨H, aU [0, 0] (.cons (.refl _) (.nil _)) rfl⟩
 rintro ⟨y36, t37, y38⟩ H;replace H : jf y36 y38 = some r3 := H
 unfold jf at H
 refine af <| ab ?_;show AR _ _ _ _ _ [0, 1, 2, 3, 4] _;refine zS rfl (ag (av := .pt _ _) rfl) <| zS rfl (aN rfl) <| zS rfl (aK (n := 0) (by kernel_rfl) rfl) <| zR rfl (ao (i := 0) aa rfl rfl rfl rfl) <| zS rfl (am (av := slE _ _ _) rfl) <| ai <| aP ?_;obtain rfl := ak H;exact And.intro rfl (Exists.intro _ (Exists.intro _ ⟨aV rfl (.tok _ _ _), aO [] rfl, rfl, rfl⟩))
end Go.Proofs.YtdaafnaokdigbaaGreatDoor
namespace Go.Pv
def b64_k1 : List UInt8 := [65, 66, 67, 68, 69, 70, 71, 72, 73, 74, 75, 76, 77, 78, 79, 80, 81, 82, 83, 84, 85, 86, 87, 88, 89, 90, 97, 98, 99, 100, 101, 102, 103, 104, 105, 106, 107, 108, 109, 110, 111, 112, 113, 114, 115, 116, 117, 118, 119, 120, 121, 122, 48, 49, 50, 51, 52, 53, 54, 55, 56, 57, 43, 47]
def jw (y43 : UInt8) (y44 : UInt8) (y45 : UInt8) (y46 : UInt8) : Option (UInt8 × UInt8 × UInt8 × UInt8) :=
some (y43, y44, y45, y46)
def gu (y20 : UInt8) (y27 : UInt8) (y34 : UInt8) (y41 : UInt8) : Option (UInt8 × UInt8 × UInt8 × UInt8) :=
jw y20 y27 y34 y41
def gt (a1 : List UInt8) (x10 : List UInt8) (y20 : UInt8) (y27 : UInt8) (y34 : UInt8) : Option (UInt8 × UInt8 × UInt8 × UInt8) :=
grd (decide (0 ≤ 0)) <|
grd (bQ (IntKind.u64.wrap ((BitVec.ofInt IntKind.u64.bits (Int.fdiv (IntKind.u64.wrap ((BitVec.ofInt IntKind.u64.bits (IntKind.u64.wrap ((BitVec.ofInt IntKind.u64.bits (IntKind.u64.wrap ((IntKind.u64.wrap ((x10.getD 0 0).toNat : Int)) * 2 ^ min (Int.toNat 16) IntKind.u64.bits)) ||| BitVec.ofInt IntKind.u64.bits (IntKind.u64.wrap ((IntKind.u64.wrap ((x10.getD 1 0).toNat : Int)) * 2 ^ min (Int.toNat 8) IntKind.u64.bits))).toNat)) ||| BitVec.ofInt IntKind.u64.bits (IntKind.u64.wrap ((x10.getD 2 0).toNat : Int))).toNat)) (2 ^ min (Int.toNat 0) IntKind.u64.bits)) &&& BitVec.ofInt IntKind.u64.bits 63).toNat)) b64_k1.length) <|
lt (at_ b64_k1 (IntKind.u64.wrap ((BitVec.ofInt IntKind.u64.bits (Int.fdiv (IntKind.u64.wrap ((BitVec.ofInt IntKind.u64.bits (IntKind.u64.wrap ((BitVec.ofInt IntKind.u64.bits (IntKind.u64.wrap ((IntKind.u64.wrap ((x10.getD 0 0).toNat : Int)) * 2 ^ min (Int.toNat 16) IntKind.u64.bits)) ||| BitVec.ofInt IntKind.u64.bits (IntKind.u64.wrap ((IntKind.u64.wrap ((x10.getD 1 0).toNat : Int)) * 2 ^ min (Int.toNat 8) IntKind.u64.bits))).toNat)) ||| BitVec.ofInt IntKind.u64.bits (IntKind.u64.wrap ((x10.getD 2 0).toNat : Int))).toNat)) (2 ^ min (Int.toNat 0) IntKind.u64.bits)) &&& BitVec.ofInt IntKind.u64.bits 63).toNat))) fun x38 =>
bif decide ((a1.length : Int) < 3) then
  gu y20 y27 y34 61
else
  gu y20 y27 y34 x38
def gr (a1 : List UInt8) (x10 : List UInt8) (y20 : UInt8) (y27 : UInt8) : Option (UInt8 × UInt8 × UInt8 × UInt8) :=
grd (decide (0 ≤ 6)) <|
grd (bQ (IntKind.u64.wrap ((BitVec.ofInt IntKind.u64.bits (Int.fdiv (IntKind.u64.wrap ((BitVec.ofInt IntKind.u64.bits (IntKind.u64.wrap ((BitVec.ofInt IntKind.u64.bits (IntKind.u64.wrap ((IntKind.u64.wrap ((x10.getD 0 0).toNat : Int)) * 2 ^ min (Int.toNat 16) IntKind.u64.bits)) ||| BitVec.ofInt IntKind.u64.bits (IntKind.u64.wrap ((IntKind.u64.wrap ((x10.getD 1 0).toNat : Int)) * 2 ^ min (Int.toNat 8) IntKind.u64.bits))).toNat)) ||| BitVec.ofInt IntKind.u64.bits (IntKind.u64.wrap ((x10.getD 2 0).toNat : Int))).toNat)) (2 ^ min (Int.toNat 6) IntKind.u64.bits)) &&& BitVec.ofInt IntKind.u64.bits 63).toNat)) b64_k1.length) <|
lt (at_ b64_k1 (IntKind.u64.wrap ((BitVec.ofInt IntKind.u64.bits (Int.fdiv (IntKind.u64.wrap ((BitVec.ofInt IntKind.u64.bits (IntKind.u64.wrap ((BitVec.ofInt IntKind.u64.bits (IntKind.u64.wrap ((IntKind.u64.wrap ((x10.getD 0 0).toNat : Int)) * 2 ^ min (Int.toNat 16) IntKind.u64.bits)) ||| BitVec.ofInt IntKind.u64.bits (IntKind.u64.wrap ((IntKind.u64.wrap ((x10.getD 1 0).toNat : Int)) * 2 ^ min (Int.toNat 8) IntKind.u64.bits))).toNat)) ||| BitVec.ofInt IntKind.u64.bits (IntKind.u64.wrap ((x10.getD 2 0).toNat : Int))).toNat)) (2 ^ min (Int.toNat 6) IntKind.u64.bits)) &&& BitVec.ofInt IntKind.u64.bits 63).toNat))) fun x31 =>
bif decide ((a1.length : Int) < 2) then
  gt a1 x10 y20 y27 61
else
  gt a1 x10 y20 y27 x31
def gq (a1 : List UInt8) (x10 : List UInt8) (y20 : UInt8) : Option (UInt8 × UInt8 × UInt8 × UInt8) :=
grd (decide (0 ≤ 12)) <|
grd (bQ (IntKind.u64.wrap ((BitVec.ofInt IntKind.u64.bits (Int.fdiv (IntKind.u64.wrap ((BitVec.ofInt IntKind.u64.bits (IntKind.u64.wrap ((BitVec.ofInt IntKind.u64.bits (IntKind.u64.wrap ((IntKind.u64.wrap ((x10.getD 0 0).toNat : Int)) * 2 ^ min (Int.toNat 16) IntKind.u64.bits)) ||| BitVec.ofInt IntKind.u64.bits (IntKind.u64.wrap ((IntKind.u64.wrap ((x10.getD 1 0).toNat : Int)) * 2 ^ min (Int.toNat 8) IntKind.u64.bits))).toNat)) ||| BitVec.ofInt IntKind.u64.bits (IntKind.u64.wrap ((x10.getD 2 0).toNat : Int))).toNat)) (2 ^ min (Int.toNat 12) IntKind.u64.bits)) &&& BitVec.ofInt IntKind.u64.bits 63).toNat)) b64_k1.length) <|
lt (at_ b64_k1 (IntKind.u64.wrap ((BitVec.ofInt IntKind.u64.bits (Int.fdiv (IntKind.u64.wrap ((BitVec.ofInt IntKind.u64.bits (IntKind.u64.wrap ((BitVec.ofInt IntKind.u64.bits (IntKind.u64.wrap ((IntKind.u64.wrap ((x10.getD 0 0).toNat : Int)) * 2 ^ min (Int.toNat 16) IntKind.u64.bits)) ||| BitVec.ofInt IntKind.u64.bits (IntKind.u64.wrap ((IntKind.u64.wrap ((x10.getD 1 0).toNat : Int)) * 2 ^ min (Int.toNat 8) IntKind.u64.bits))).toNat)) ||| BitVec.ofInt IntKind.u64.bits (IntKind.u64.wrap ((x10.getD 2 0).toNat : Int))).toNat)) (2 ^ min (Int.toNat 12) IntKind.u64.bits)) &&& BitVec.ofInt IntKind.u64.bits 63).toNat))) fun x24 =>
bif decide ((a1.length : Int) < 1) then
  gr a1 x10 y20 61
else
  gr a1 x10 y20 x24
def jM (F : Nat) (a1 : List UInt8) : Option (UInt8 × UInt8 × UInt8 × UInt8) :=
grd (decide (a1.length ≤ 3)) <|
lt (cpyB ([0, 0, 0] : List UInt8) a1) fun x10 =>
grd (decide (0 ≤ 16)) <|
grd (decide (0 ≤ 8)) <|
grd (decide (0 ≤ 18)) <|
grd (bQ (IntKind.u64.wrap ((BitVec.ofInt IntKind.u64.bits (Int.fdiv (IntKind.u64.wrap ((BitVec.ofInt IntKind.u64.bits (IntKind.u64.wrap ((BitVec.ofInt IntKind.u64.bits (IntKind.u64.wrap ((IntKind.u64.wrap ((x10.getD 0 0).toNat : Int)) * 2 ^ min (Int.toNat 16) IntKind.u64.bits)) ||| BitVec.ofInt IntKind.u64.bits (IntKind.u64.wrap ((IntKind.u64.wrap ((x10.getD 1 0).toNat : Int)) * 2 ^ min (Int.toNat 8) IntKind.u64.bits))).toNat)) ||| BitVec.ofInt IntKind.u64.bits (IntKind.u64.wrap ((x10.getD 2 0).toNat : Int))).toNat)) (2 ^ min (Int.toNat 18) IntKind.u64.bits)) &&& BitVec.ofInt IntKind.u64.bits 63).toNat)) b64_k1.length) <|
lt (at_ b64_k1 (IntKind.u64.wrap ((BitVec.ofInt IntKind.u64.bits (Int.fdiv (IntKind.u64.wrap ((BitVec.ofInt IntKind.u64.bits (IntKind.u64.wrap ((BitVec.ofInt IntKind.u64.bits (IntKind.u64.wrap ((IntKind.u64.wrap ((x10.getD 0 0).toNat : Int)) * 2 ^ min (Int.toNat 16) IntKind.u64.bits)) ||| BitVec.ofInt IntKind.u64.bits (IntKind.u64.wrap ((IntKind.u64.wrap ((x10.getD 1 0).toNat : Int)) * 2 ^ min (Int.toNat 8) IntKind.u64.bits))).toNat)) ||| BitVec.ofInt IntKind.u64.bits (IntKind.u64.wrap ((x10.getD 2 0).toNat : Int))).toNat)) (2 ^ min (Int.toNat 18) IntKind.u64.bits)) &&& BitVec.ofInt IntKind.u64.bits 63).toNat))) fun x17 =>
bif decide ((a1.length : Int) < 0) then
  gq a1 x10 61
else
  gq a1 x10 x17
def jJ (y30 : List UInt8) : Option ((List UInt8)) :=
grd (okW y30 []) <|
some y30
def kS (F : Nat) (rec10 : ((List UInt8) × (List UInt8)) → Option ((List UInt8))) (y6 : List UInt8) (y8 : List UInt8) : Option ((List UInt8)) :=
bif decide (0 < (y6.length : Int)) then
  grd (gA (min 3 (y6.length : Int)) y6.length) <|
  lt (to_ y6 (min 3 (y6.length : Int))) fun x14 =>
  bnd4 (jM F x14) fun x16 x17 x18 x19 =>
  grd (okW y8 ([x16, x17, x18, x19] : List UInt8)) <|
  lt (y8 ++ ([x16, x17, x18, x19] : List UInt8)) fun x23 =>
  grd (gA (min 3 (y6.length : Int)) y6.length) <|
  lt (jA y6 (min 3 (y6.length : Int))) fun x27 =>
  rec10 (x27, x23)
else
  jJ y8
def jK (F : Nat) (n : Nat) : ((List UInt8) × (List UInt8)) → Option ((List UInt8)) :=
  loop (fun rec x => kS F rec x.1 x.2) n
def nJ (F : Nat) (a1 : List UInt8) : Option ((List UInt8)) :=
jK F F (a1, [])
def di (F : Nat) (a1 : List UInt8) (y50 : List UInt8) : Option ((List UInt8) × Int) :=
bnd (nJ F y50) fun x53 =>
bif !decide (x53 = a1) then
  some ([], 2)
else
  some (y50, 0)
def jx (y5 : List UInt8) (y7 : List UInt8) (rec8 : ((List UInt8) × (List UInt8)) → Option ((List UInt8) × Int)) (y35 : Int) (y36 : Int) : Option ((List UInt8) × Int) :=
grd (decide (0 ≤ 16)) <|
grd (decide (0 ≤ 8)) <|
grd (gA y36 ([Go.Av.toB (Int.fdiv y35 (2 ^ min (Int.toNat 16) IntKind.u64.bits)), Go.Av.toB (Int.fdiv y35 (2 ^ min (Int.toNat 8) IntKind.u64.bits)), Go.Av.toB y35] : List UInt8).length) <|
lt (to_ ([Go.Av.toB (Int.fdiv y35 (2 ^ min (Int.toNat 16) IntKind.u64.bits)), Go.Av.toB (Int.fdiv y35 (2 ^ min (Int.toNat 8) IntKind.u64.bits)), Go.Av.toB y35] : List UInt8) y36) fun x41 =>
grd (bw (y5.length + x41.length)) <|
lt (y5 ++ x41) fun x45 =>
grd (gA 4 y7.length) <|
lt (jA y7 4) fun x48 =>
rec8 (x45, x48)
def gw (y12 : Int) (y14 : Int) (rec15 : (Int × Int × Int) → Option ((List UInt8) × Int)) (y28 : Int) (y29 : Int) : Option ((List UInt8) × Int) :=
bif (decide (y29 < 0)) || (decide (y28 < 1)) then
  some ([], 2)
else
  grd (decide (0 ≤ 6)) <|
  grd (okI (y14 + 1)) <|
  rec15 (IntKind.u64.wrap ((BitVec.ofInt IntKind.u64.bits (IntKind.u64.wrap (y12 * 2 ^ min (Int.toNat 6) IntKind.u64.bits)) ||| BitVec.ofInt IntKind.u64.bits (IntKind.u64.wrap y29)).toNat), y28, y14 + 1)
def eO (y5 : List UInt8) (y7 : List UInt8) (rec8 : ((List UInt8) × (List UInt8)) → Option ((List UInt8) × Int)) (rec15 : (Int × Int × Int) → Option ((List UInt8) × Int)) (y12 : Int) (y13 : Int) (y14 : Int) : Option ((List UInt8) × Int) :=
bif decide (y14 < 4) then
  grd (bQ y14 y7.length) <|
  lt (at_ y7 y14) fun x19 =>
  lt (Go.Lib.indexByte b64_k1 x19) fun x21 =>
  grd (bQ y14 y7.length) <|
  lt (at_ y7 y14) fun x24 =>
  bif decide (x24 = 61) then
    grd (okI (y13 - 1)) <|
    gw y12 y14 rec15 (y13 - 1) 0
  else
    gw y12 y14 rec15 y13 x21
else
  jx y5 y7 rec8 y12 y13
def dj (y5 : List UInt8) (y7 : List UInt8) (rec8 : ((List UInt8) × (List UInt8)) → Option ((List UInt8) × Int)) (n : Nat) : (Int × Int × Int) → Option ((List UInt8) × Int) :=
  loop (fun rec x => eO y5 y7 rec8 rec x.1 x.2.1 x.2.2) n
def jy (F : Nat) (a1 : List UInt8) (rec8 : ((List UInt8) × (List UInt8)) → Option ((List UInt8) × Int)) (y5 : List UInt8) (y7 : List UInt8) : Option ((List UInt8) × Int) :=
bif !decide (y7 = ([] : List UInt8)) then
  bif decide ((y7.length : Int) < 4) then
    some ([], 2)
  else
    dj y5 y7 rec8 F (0, 3, 0)
else
  di F a1 y5
def cu (F : Nat) (a1 : List UInt8) (n : Nat) : ((List UInt8) × (List UInt8)) → Option ((List UInt8) × Int) :=
  loop (fun rec x => jy F a1 rec x.1 x.2) n
def mR (F : Nat) (a1 : List UInt8) : Option ((List UInt8) × Int) :=
cu F a1 F ([], a1)
end Go.Pv
namespace Go.Proofs.YtdaafnaokdigbaaGreatDoor
open Go.RowKit Go.Av Go.Pv
theorem en41_b64 : ∀ (args : Array Value) (w : World), (callFunc 41 args).run Tryz.prog w = .ok (.enter 41 args) w := fun _ _ => by kernel_rfl
theorem xJ : ∀ (args : Array Value) (w : World), (callFunc 114 args).run Tryz.prog w = .ok (.enter 114 args) w := fun _ _ => by kernel_rfl
theorem xI : ∀ (args : Array Value) (w : World), (callFunc 128 args).run Tryz.prog w = .ok (.enter 128 args) w := fun _ _ => by kernel_rfl
theorem xH : ∀ (args : Array Value) (w : World), (callFunc 135 args).run Tryz.prog w = .ok (.enter 135 args) w := fun _ _ => by kernel_rfl
theorem xG : ∀ (args : Array Value) (w : World), (callFunc 136 args).run Tryz.prog w = .ok (.enter 136 args) w := fun _ _ => by kernel_rfl
abbrev _root_.Go.Av.cg := @Tryz.underlying157
set_option maxRecDepth 100000 in
set_option maxHeartbeats 1000000 in
theorem sL (F : Nat) (a1 : List UInt8) (q2 : Option Nat) (r3 : UInt8) (r4 : UInt8) (r5 : UInt8) (r6 : UInt8) (H : jM F a1 = some (r3, r4, r5, r6)) : ACalls Tryz.prog 135 [slE Enc.byte a1 q2] [] (Ret (.agg [u8 r3, u8 r4, u8 r5, u8 r6]) []) := by
 unfold jM at H
 refine aw Tryz.func135 rfl rfl ?_;show AW _ _ 43 _ _ _;refine af <| ab ?_;show AR _ _ _ _ _ [0] _;refine zX rfl (de (zs := [.int .u8 0, .int .u8 0, .int .u8 0, .int .u8 0]) (by kernel_rfl)) ?_;rintro _ _ ⟨o7, rfl, rfl⟩;refine ai <| af <| ab ?_;show AR _ _ _ _ _ [0] _;refine zX rfl (de (zs := [.int .u8 0, .int .u8 0, .int .u8 0]) (by kernel_rfl)) ?_;rintro _ _ ⟨o8, rfl, rfl⟩;refine ai <| af ?_;obtain ⟨g9, H⟩ := az H;obtain ⟨x10, e11, H⟩ := bb H;refine ab ?_;show AR _ _ _ _ _ [0, 1, 2] _;refine zS rfl (qB (k := 1) Tryz.underlying166 (by kernel_rfl) rfl) <| zS rfl (ag (av := slE _ _ _) rfl) <| zR rfl (uP (l := ([0, 0, 0] : List UInt8)) (vs := [u8 (x10.getD 0 0), u8 (x10.getD 1 0), u8 (x10.getD 2 0)]) 0 aa (by kernel_rfl) rfl rfl rfl rfl rfl g9 e11 rfl) <| ai <| af ?_;obtain ⟨g12, H⟩ := az H;obtain ⟨g13, H⟩ := az H;refine ab ?_;show AR _ _ _ _ _ [0, 1, 2, 3, 4, 5, 6, 7, 8, 9, 10, 11, 12, 13] _
 refine zS rfl (ce (Ar := 0) (k := 1) (m := 0) Tryz.underlying166 (by kernel_rfl) rfl rfl rfl (by decide)) <| zR rfl (ao (i := 0) au rfl rfl rfl rfl) <| zS rfl (gm (k' := .u8) (n := ((x10.getD 0 0).toNat : Int)) (by kernel_rfl) Tryz.underlying76 rfl) <| zS rfl (oX rfl rfl (of_decide_eq_true g12)) <| zS rfl (ce (Ar := 0) (k := 1) (m := 1) Tryz.underlying166 (by kernel_rfl) rfl rfl rfl (by decide)) <| zR rfl (ao (i := 0) au rfl rfl rfl rfl) <| zS rfl (gm (k' := .u8) (n := ((x10.getD 1 0).toNat : Int)) (by kernel_rfl) Tryz.underlying76 rfl) <| zS rfl (oX rfl rfl (of_decide_eq_true g13)) <| zS rfl (so rfl rfl) <| zS rfl (ce (Ar := 0) (k := 1) (m := 2) Tryz.underlying166 (by kernel_rfl) rfl rfl rfl (by decide)) <| zR rfl (ao (i := 0) au rfl rfl rfl rfl) <| zS rfl (gm (k' := .u8) (n := ((x10.getD 2 0).toNat : Int)) (by kernel_rfl) Tryz.underlying76 rfl) <| zS rfl (so rfl rfl) <| za rfl <| ai <| af <| ab ?_;show AR _ _ _ _ _ [0] _;refine zX rfl (de (zs := [.int .u8 0, .int .u8 0, .int .u8 0, .int .u8 0]) (by kernel_rfl)) ?_;rintro _ _ ⟨o14, rfl, rfl⟩;refine ai <| bx (X := UInt8 × UInt8 × UInt8 × UInt8) (fun (y43, y44, y45, y46) => ⟨[(2, .pt o7 0), (5, .pt o14 0)], [], [.obj o14 [u8 y43, u8 y44, u8 y45, u8 y46], .obj o7 [u8 0, u8 0, u8 0, u8 0]]⟩) (fun (y43, y44, y45, y46) => jw y43 y44 y45 y46 = some (r3, r4, r5, r6)) ?_ ?_
 ·refine af <| ab ?_;show AR _ _ _ _ _ [0] _;refine zm rfl <| ai <| aJ <| xR 6 <| af <| ab ?_;show AR _ _ _ _ _ [0] _;refine zS rfl (fu (av' := B true) (bB rfl rfl) (an (by decide))) <| ai <| af <| aD rfl (fun _ => ?_) (fun hx => nI rfl hx);refine aF <| bx (X := UInt8) (fun y20 => ⟨[(0, slE Enc.byte a1 q2), (2, .pt o7 0), (4, .v (.int .u64 (IntKind.u64.wrap ((BitVec.ofInt IntKind.u64.bits (IntKind.u64.wrap ((BitVec.ofInt IntKind.u64.bits (IntKind.u64.wrap ((IntKind.u64.wrap ((x10.getD 0 0).toNat : Int)) * 2 ^ min (Int.toNat 16) IntKind.u64.bits)) ||| BitVec.ofInt IntKind.u64.bits (IntKind.u64.wrap ((IntKind.u64.wrap ((x10.getD 1 0).toNat : Int)) * 2 ^ min (Int.toNat 8) IntKind.u64.bits))).toNat)) ||| BitVec.ofInt IntKind.u64.bits (IntKind.u64.wrap ((x10.getD 2 0).toNat : Int))).toNat)))), (5, .pt o14 0), (23, i64 0)], [], [.obj o14 [u8 y20, u8 0, u8 0, u8 0], .obj o7 [u8 0, u8 0, u8 0, u8 0]]⟩) (fun y20 => gq a1 x10 y20 = some (r3, r4, r5, r6)) ?_ ?_
  ·refine aJ <| af <| ab ?_;show AR _ _ _ _ _ [0, 1] _;refine zm rfl <| za rfl <| ai <| af ?_;obtain ⟨g15, H⟩ := az H;obtain ⟨g16, H⟩ := az H;obtain ⟨x17, e18, H⟩ := bb H;refine ab ?_;show AR _ _ _ _ _ [0, 1, 2, 3, 4, 5, 6, 7, 8, 9] _;refine zm rfl <| zm rfl <| zm rfl <| zS rfl (fu (av' := i64 0) (qg rfl rfl (by decide)) rfl) <| zS rfl (fu (av' := i64 18) (jz rfl rfl (by decide)) rfl) <| zS rfl (mi rfl rfl (of_decide_eq_true g15)) <| zS rfl (nF rfl rfl) <| zS rfl (bo ac rfl rfl g16 e18) <| zS rfl (ce (Ar := 0) (k := 1) (m := 0) cg (by kernel_rfl) rfl rfl rfl (by decide)) <| s0 rfl rfl (aB (i := 0) (c := .v _) (by kernel_rfl) rfl rfl rfl rfl (aj rfl)) <| ai <| af <| ab ?_;show AR _ _ _ _ _ [0, 1, 2, 3] _;refine zm rfl <| zS rfl (ag (av := slE _ _ _) rfl) <| zS rfl (aH aa rfl) <| zS rfl (cN rfl rfl) <| ai <| aD rfl (fun c19 => ?_) (fun c19 => ?_)
   ·replace H := aZ c19 H;refine ab ?_;show AR _ _ _ _ _ [0, 1, 2] _;refine zm rfl <| zS rfl (ce (Ar := 0) (k := 1) (m := 0) cg (by kernel_rfl) rfl rfl rfl (by decide)) <| s0 rfl rfl (aB (i := 0) (c := .v _) (by kernel_rfl) rfl rfl rfl rfl (aj rfl)) <| ai ?_;exact Exists.intro 61 ⟨H, aU [0, 1] (.cons (.refl _) (.cons (.refl _) (.cons (.refl _) (.cons (.refl _) (.cons (.refl _) (.nil _)))))) rfl⟩
   ·replace H := ba c19 H;refine aF ?_;exact Exists.intro x17 ⟨H, aU [0, 1] (.cons (.refl _) (.cons (.refl _) (.cons (.refl _) (.cons (.refl _) (.cons (.refl _) (.nil _)))))) rfl⟩
  rintro y20 H;replace H : gq a1 x10 y20 = some (r3, r4, r5, r6) := H
  unfold gq at H
  refine ab ?_;show AR _ _ _ _ _ [0, 1] _;refine zS rfl (fu (av' := i64 1) (bk rfl rfl (by decide)) rfl) <| zm rfl <| ai <| af <| ab ?_;show AR _ _ _ _ _ [0] _;refine zS rfl (fu (av' := B true) (bB rfl rfl) (an (by decide))) <| ai <| af <| aD rfl (fun _ => ?_) (fun hx => nI rfl hx);refine aF <| bx (X := UInt8) (fun y27 => ⟨[(0, slE Enc.byte a1 q2), (2, .pt o7 0), (4, .v (.int .u64 (IntKind.u64.wrap ((BitVec.ofInt IntKind.u64.bits (IntKind.u64.wrap ((BitVec.ofInt IntKind.u64.bits (IntKind.u64.wrap ((IntKind.u64.wrap ((x10.getD 0 0).toNat : Int)) * 2 ^ min (Int.toNat 16) IntKind.u64.bits)) ||| BitVec.ofInt IntKind.u64.bits (IntKind.u64.wrap ((IntKind.u64.wrap ((x10.getD 1 0).toNat : Int)) * 2 ^ min (Int.toNat 8) IntKind.u64.bits))).toNat)) ||| BitVec.ofInt IntKind.u64.bits (IntKind.u64.wrap ((x10.getD 2 0).toNat : Int))).toNat)))), (5, .pt o14 0), (23, i64 1)], [], [.obj o14 [u8 y20, u8 y27, u8 0, u8 0], .obj o7 [u8 0, u8 0, u8 0, u8 0]]⟩) (fun y27 => gr a1 x10 y20 y27 = some (r3, r4, r5, r6)) ?_ ?_
  ·refine aJ <| af <| ab ?_;show AR _ _ _ _ _ [0, 1] _;refine zm rfl <| za rfl <| ai <| af ?_;obtain ⟨g22, H⟩ := az H;obtain ⟨g23, H⟩ := az H;obtain ⟨x24, e25, H⟩ := bb H;refine ab ?_;show AR _ _ _ _ _ [0, 1, 2, 3, 4, 5, 6, 7, 8, 9] _;refine zm rfl <| zm rfl <| zm rfl <| zS rfl (fu (av' := i64 6) (qg rfl rfl (by decide)) rfl) <| zS rfl (fu (av' := i64 12) (jz rfl rfl (by decide)) rfl) <| zS rfl (mi rfl rfl (of_decide_eq_true g22)) <| zS rfl (nF rfl rfl) <| zS rfl (bo ac rfl rfl g23 e25) <| zS rfl (ce (Ar := 0) (k := 1) (m := 1) cg (by kernel_rfl) rfl rfl rfl (by decide)) <| s0 rfl rfl (aB (i := 0) (c := .v _) (by kernel_rfl) rfl rfl rfl rfl (aj rfl)) <| ai <| af <| ab ?_;show AR _ _ _ _ _ [0, 1, 2, 3] _;refine zm rfl <| zS rfl (ag (av := slE _ _ _) rfl) <| zS rfl (aH aa rfl) <| zS rfl (cN rfl rfl) <| ai <| aD rfl (fun c26 => ?_) (fun c26 => ?_)
   ·replace H := aZ c26 H;refine ab ?_;show AR _ _ _ _ _ [0, 1, 2] _;refine zm rfl <| zS rfl (ce (Ar := 0) (k := 1) (m := 1) cg (by kernel_rfl) rfl rfl rfl (by decide)) <| s0 rfl rfl (aB (i := 0) (c := .v _) (by kernel_rfl) rfl rfl rfl rfl (aj rfl)) <| ai ?_;exact Exists.intro 61 ⟨H, aU [0, 0] (.cons (.refl _) (.cons (.refl _) (.cons (.refl _) (.cons (.refl _) (.cons (.refl _) (.nil _)))))) rfl⟩
   ·replace H := ba c26 H;refine aF ?_;exact Exists.intro x24 ⟨H, aU [0, 0] (.cons (.refl _) (.cons (.refl _) (.cons (.refl _) (.cons (.refl _) (.cons (.refl _) (.nil _)))))) rfl⟩
  rintro y27 H;replace H : gr a1 x10 y20 y27 = some (r3, r4, r5, r6) := H
  unfold gr at H
  refine ab ?_;show AR _ _ _ _ _ [0, 1] _;refine zS rfl (fu (av' := i64 2) (bk rfl rfl (by decide)) rfl) <| zm rfl <| ai <| af <| ab ?_;show AR _ _ _ _ _ [0] _;refine zS rfl (fu (av' := B true) (bB rfl rfl) (an (by decide))) <| ai <| af <| aD rfl (fun _ => ?_) (fun hx => nI rfl hx);refine aF <| bx (X := UInt8) (fun y34 => ⟨[(0, slE Enc.byte a1 q2), (2, .pt o7 0), (4, .v (.int .u64 (IntKind.u64.wrap ((BitVec.ofInt IntKind.u64.bits (IntKind.u64.wrap ((BitVec.ofInt IntKind.u64.bits (IntKind.u64.wrap ((IntKind.u64.wrap ((x10.getD 0 0).toNat : Int)) * 2 ^ min (Int.toNat 16) IntKind.u64.bits)) ||| BitVec.ofInt IntKind.u64.bits (IntKind.u64.wrap ((IntKind.u64.wrap ((x10.getD 1 0).toNat : Int)) * 2 ^ min (Int.toNat 8) IntKind.u64.bits))).toNat)) ||| BitVec.ofInt IntKind.u64.bits (IntKind.u64.wrap ((x10.getD 2 0).toNat : Int))).toNat)))), (5, .pt o14 0), (23, i64 2)], [], [.obj o14 [u8 y20, u8 y27, u8 y34, u8 0], .obj o7 [u8 0, u8 0, u8 0, u8 0]]⟩) (fun y34 => gt a1 x10 y20 y27 y34 = some (r3, r4, r5, r6)) ?_ ?_
  ·refine aJ <| af <| ab ?_;show AR _ _ _ _ _ [0, 1] _;refine zm rfl <| za rfl <| ai <| af ?_;obtain ⟨g29, H⟩ := az H;obtain ⟨g30, H⟩ := az H;obtain ⟨x31, e32, H⟩ := bb H;refine ab ?_;show AR _ _ _ _ _ [0, 1, 2, 3, 4, 5, 6, 7, 8, 9] _;refine zm rfl <| zm rfl <| zm rfl <| zS rfl (fu (av' := i64 12) (qg rfl rfl (by decide)) rfl) <| zS rfl (fu (av' := i64 6) (jz rfl rfl (by decide)) rfl) <| zS rfl (mi rfl rfl (of_decide_eq_true g29)) <| zS rfl (nF rfl rfl) <| zS rfl (bo ac rfl rfl g30 e32) <| zS rfl (ce (Ar := 0) (k := 1) (m := 2) cg (by kernel_rfl) rfl rfl rfl (by decide)) <| s0 rfl rfl (aB (i := 0) (c := .v _) (by kernel_rfl) rfl rfl rfl rfl (aj rfl)) <| ai <| af <| ab ?_;show AR _ _ _ _ _ [0, 1, 2, 3] _;refine zm rfl <| zS rfl (ag (av := slE _ _ _) rfl) <| zS rfl (aH aa rfl) <| zS rfl (cN rfl rfl) <| ai <| aD rfl (fun c33 => ?_) (fun c33 => ?_)
   ·replace H := aZ c33 H;refine ab ?_;show AR _ _ _ _ _ [0, 1, 2] _;refine zm rfl <| zS rfl (ce (Ar := 0) (k := 1) (m := 2) cg (by kernel_rfl) rfl rfl rfl (by decide)) <| s0 rfl rfl (aB (i := 0) (c := .v _) (by kernel_rfl) rfl rfl rfl rfl (aj rfl)) <| ai ?_;exact Exists.intro 61 ⟨H, aU [0, 0] (.cons (.refl _) (.cons (.refl _) (.cons (.refl _) (.cons (.refl _) (.cons (.refl _) (.nil _)))))) rfl⟩
   ·replace H := ba c33 H;refine aF ?_;exact Exists.intro x31 ⟨H, aU [0, 0] (.cons (.refl _) (.cons (.refl _) (.cons (.refl _) (.cons (.refl _) (.cons (.refl _) (.nil _)))))) rfl⟩
  rintro y34 H;replace H : gt a1 x10 y20 y27 y34 = some (r3, r4, r5, r6) := H
  unfold gt at H
  refine ab ?_;show AR _ _ _ _ _ [0, 1] _;refine zS rfl (fu (av' := i64 3) (bk rfl rfl (by decide)) rfl) <| zm rfl <| ai <| af <| ab ?_;show AR _ _ _ _ _ [0] _;refine zS rfl (fu (av' := B true) (bB rfl rfl) (an (by decide))) <| ai <| af <| aD rfl (fun _ => ?_) (fun hx => nI rfl hx);refine aF <| bx (X := UInt8) (fun y41 => ⟨[(0, slE Enc.byte a1 q2), (2, .pt o7 0), (4, .v (.int .u64 (IntKind.u64.wrap ((BitVec.ofInt IntKind.u64.bits (IntKind.u64.wrap ((BitVec.ofInt IntKind.u64.bits (IntKind.u64.wrap ((IntKind.u64.wrap ((x10.getD 0 0).toNat : Int)) * 2 ^ min (Int.toNat 16) IntKind.u64.bits)) ||| BitVec.ofInt IntKind.u64.bits (IntKind.u64.wrap ((IntKind.u64.wrap ((x10.getD 1 0).toNat : Int)) * 2 ^ min (Int.toNat 8) IntKind.u64.bits))).toNat)) ||| BitVec.ofInt IntKind.u64.bits (IntKind.u64.wrap ((x10.getD 2 0).toNat : Int))).toNat)))), (5, .pt o14 0), (23, i64 3)], [], [.obj o14 [u8 y20, u8 y27, u8 y34, u8 y41], .obj o7 [u8 0, u8 0, u8 0, u8 0]]⟩) (fun y41 => gu y20 y27 y34 y41 = some (r3, r4, r5, r6)) ?_ ?_
  ·refine aJ <| af <| ab ?_;show AR _ _ _ _ _ [0, 1] _;refine zm rfl <| za rfl <| ai <| af ?_;obtain ⟨g36, H⟩ := az H;obtain ⟨g37, H⟩ := az H;obtain ⟨x38, e39, H⟩ := bb H;refine ab ?_;show AR _ _ _ _ _ [0, 1, 2, 3, 4, 5, 6, 7, 8, 9] _;refine zm rfl <| zm rfl <| zm rfl <| zS rfl (fu (av' := i64 18) (qg rfl rfl (by decide)) rfl) <| zS rfl (fu (av' := i64 0) (jz rfl rfl (by decide)) rfl) <| zS rfl (mi rfl rfl (of_decide_eq_true g36)) <| zS rfl (nF rfl rfl) <| zS rfl (bo ac rfl rfl g37 e39) <| zS rfl (ce (Ar := 0) (k := 1) (m := 3) cg (by kernel_rfl) rfl rfl rfl (by decide)) <| s0 rfl rfl (aB (i := 0) (c := .v _) (by kernel_rfl) rfl rfl rfl rfl (aj rfl)) <| ai <| af <| ab ?_;show AR _ _ _ _ _ [0, 1, 2, 3] _;refine zm rfl <| zS rfl (ag (av := slE _ _ _) rfl) <| zS rfl (aH aa rfl) <| zS rfl (cN rfl rfl) <| ai <| aD rfl (fun c40 => ?_) (fun c40 => ?_)
   ·replace H := aZ c40 H;refine ab ?_;show AR _ _ _ _ _ [0, 1, 2] _;refine zm rfl <| zS rfl (ce (Ar := 0) (k := 1) (m := 3) cg (by kernel_rfl) rfl rfl rfl (by decide)) <| s0 rfl rfl (aB (i := 0) (c := .v _) (by kernel_rfl) rfl rfl rfl rfl (aj rfl)) <| ai ?_;exact Exists.intro 61 ⟨H, aU [0, 0] (.cons (.refl _) (.cons (.refl _) (.cons (.refl _) (.cons (.refl _) (.cons (.refl _) (.nil _)))))) rfl⟩
   ·replace H := ba c40 H;refine aF ?_;exact Exists.intro x38 ⟨H, aU [0, 0] (.cons (.refl _) (.cons (.refl _) (.cons (.refl _) (.cons (.refl _) (.cons (.refl _) (.nil _)))))) rfl⟩
  rintro y41 H;replace H : gu y20 y27 y34 y41 = some (r3, r4, r5, r6) := H
  unfold gu at H
  refine ab ?_;show AR _ _ _ _ _ [0, 1] _;refine zS rfl (fu (av' := i64 4) (bk rfl rfl (by decide)) rfl) <| zm rfl <| ai <| af <| ab ?_;show AR _ _ _ _ _ [0] _;refine zS rfl (fu (av' := B false) (bB rfl rfl) (an (by decide))) <| ai <| af <| aD rfl (fun hx => nI hx rfl) (fun _ => ?_);refine bz ?_;exact Exists.intro (y20, y27, y34, y41) ⟨H, aU [0, 0] (.cons (.refl _) (.cons (.refl _) (.nil _))) rfl⟩
 rintro ⟨y43, y44, y45, y46⟩ H;replace H : jw y43 y44 y45 y46 = some (r3, r4, r5, r6) := H
 unfold jw at H
 refine af <| ab ?_;show AR _ _ _ _ _ [0, 1] _;refine zR rfl (lP (i := 0) (n := 4) cg rfl (by kernel_rfl) rfl rfl (aj rfl)) <| s0 rfl rfl (cq (i := 1) (vs := [u8 y43, u8 y44, u8 y45, u8 y46]) (by kernel_rfl) rfl rfl (by simp [cw, slE]) rfl (aj rfl)) <| ai <| aP ?_;obtain ⟨rfl, rfl, rfl, rfl⟩ := res4 H;exact And.intro rfl (Exists.intro _ (Exists.intro _ ⟨kG (tG rfl (CellV.agg (off := 0) (cs := [u8 y43, u8 y44, u8 y45, u8 y46]) (n := 4) 1 cg rfl (by kernel_rfl) rfl rfl (aj rfl))), aO [] rfl, rfl, rfl⟩))
set_option maxRecDepth 100000 in
set_option maxHeartbeats 1000000 in
theorem qN (F : Nat) (a1 : List UInt8) (q2 : Option Nat) (r3 : List UInt8) (H : nJ F a1 = some r3) : ACalls Tryz.prog 114 [slE Enc.byte a1 q2] [] (Ret (S r3) []) := by
 unfold nJ at H
 refine aw Tryz.func114 rfl rfl ?_;show AW _ _ 23 _ _ _;refine af <| ab ?_;show AR _ _ _ _ _ [0] _;refine za rfl <| ai <| af <| ab ?_;show AR _ _ _ _ _ [0] _;refine zX rfl (np (zs := [(.pointer none), .slice none 0 0]) (by kernel_rfl)) ?_;rintro _ _ ⟨o4, rfl, rfl⟩;refine ai ?_
 refine kv 0 1 1 5 rfl rfl fun t5 => ?_
 show AW _ _ _ _ _ ⟨_, _, [.tok t5 5, .obj o4 [.v (.pointer none), slE Enc.byte [] (some t5)], .ty o4 142]⟩;refine bx (X := AV × (List UInt8) × Nat) (fun (t29, y30, t31) => ⟨[(3, .pt o4 0)], [], [.obj o4 [t29, slE Enc.byte y30 (some t31)], .ty o4 142, .tok t31 5]⟩) (fun (t29, y30, t31) => jJ y30 = some r3 ∧ (t29 = .v (.pointer none) ∨ t29 = .pt o4 0)) ?_ ?_
 ·refine aJ <| bE (X := Nat × (List UInt8) × AV × (List UInt8) × Nat) (fun (n11, y6, t7, y8, t9) => ⟨[(0, slE Enc.byte y6 none), (3, .pt o4 0)], [], [.obj o4 [t7, slE Enc.byte y8 (some t9)], .ty o4 142, .tok t9 5]⟩) (fun (n11, y6, t7, y8, t9) => jK F n11 (y6, y8) = some r3 ∧ (t7 = .v (.pointer none) ∨ t7 = .pt o4 0)) (fun (n11, y6, t7, y8, t9) => n11) (F, a1, (.v (.pointer none)), [], t5) ⟨H, .inl rfl⟩ (aU [1, 1, 0] (.cons (.tok _ _ _) (.cons (.refl _) (.nil _))) rfl) ?_;rintro ⟨n11, y6, t7, y8, t9⟩ ⟨H, ht7⟩;obtain ⟨n11, rfl, H⟩ := bX H;replace H : kS F (jK F n11) y6 y8 = some r3 := H
  unfold kS at H
  refine af <| af <| ab ?_;show AR _ _ _ _ _ [0, 1, 2] _;refine zS rfl (ag (av := slE _ _ _) rfl) <| zS rfl (aH aa rfl) <| zS rfl (cN rfl rfl) <| ai <| aD rfl (fun c12 => ?_) (fun c12 => ?_)
  ·replace H := aZ c12 H;refine aF <| aJ <| af <| ab ?_;show AR _ _ _ _ _ [0, 1, 2, 3] _;refine zS rfl (ag (av := slE _ _ _) rfl) <| zS rfl (aH aa rfl) <| zS rfl (opS_min rfl rfl) <| za rfl <| ai <| af ?_;obtain ⟨g13, H⟩ := az H;obtain ⟨x14, e15, H⟩ := bb H;obtain ⟨x16, x17, x18, x19, e20, H⟩ := bnd4_s H;refine ab ?_;show AR _ _ _ _ _ [0, 1, 2, 3, 4, 5, 6] _;refine zS rfl (ag (av := slE _ _ _) rfl) <| zm rfl <| zm rfl <| zS rfl (tc (E := Enc.byte) aa (by kernel_rfl) rfl rfl rfl g13 e15) <| ap rfl rfl (aW rfl xH rfl (sL F x14 none x16 x17 x18 x19 e20) ?_);refine zX rfl (de (zs := [.int .u8 0, .int .u8 0, .int .u8 0, .int .u8 0]) (by kernel_rfl)) ?_;rintro _ _ ⟨o21, rfl, rfl⟩;refine s0 rfl rfl (cq (i := 0) (vs := [u8 x16, u8 x17, u8 x18, u8 x19]) (by kernel_rfl) rfl rfl (by simp [cw, slE]) rfl (aj rfl)) <| AR.freezeCp 5 0 rfl rfl ?_;show AR _ _ _ _ _ _ ⟨_, _, [.obj o4 [t7, slE Enc.byte y8 (some t9)], .ty o4 142, .tok t9 5]⟩;refine ai <| af ?_;obtain ⟨g22, H⟩ := az H;obtain ⟨x23, e24, H⟩ := bb H;refine ab ?_;show AR _ _ _ _ _ [0, 1] _;refine zS rfl (nP (E := Enc.byte) (l := ([x16, x17, x18, x19] : List UInt8)) rfl cg (by kernel_rfl) rfl rfl rfl) <| ap rfl rfl (AO.callAt [0, 0, 0] rfl xG rfl (pp  o4 (t7) ht7 y8 ([x16, x17, x18, x19] : List UInt8) none t9 (okW_s g22)) rfl (fun c A' h => by cases h.1) ?_)
   rintro av A' ⟨h, t25, rfl⟩; cases h
   rw [e24]
   refine ai ?_;obtain ⟨g26, H⟩ := az H;obtain ⟨x27, e28, H⟩ := bb H;refine ab ?_;show AR _ _ _ _ _ [0, 1, 2, 3] _;refine zS rfl (ag (av := slE _ _ _) rfl) <| zm rfl <| zS rfl (gx (E := Enc.byte) aa (by kernel_rfl) rfl rfl g26 e28) <| zS rfl (am (av := slE _ _ _) rfl) <| ai ?_;exact Exists.intro (n11, x27, (.pt o4 0), x23, t25) ⟨⟨H, .inr rfl⟩, Nat.lt_succ_self _, aU [0, 0, 0] (.cons (.refl _) (.cons (.refl _) (.nil _))) rfl⟩
  ·replace H := ba c12 H;refine bz ?_;exact Exists.intro (t7, y8, t9) ⟨⟨H, ht7⟩, aU [0, 0, 0] (.cons (.refl _) (.nil _)) rfl⟩
 rintro ⟨t29, y30, t31⟩ ⟨H, ht29⟩;replace H : jJ y30 = some r3 := H
 unfold jJ at H
 refine af ?_;obtain ⟨g33, H⟩ := az H;refine ab ?_;show AR _ _ _ _ _ [0, 1] _;refine ap rfl rfl (AO.callAt [0, 1] rfl xI rfl (kn  o4 (t29) y30 t31 (okW0_s g33)) rfl (fun c A' h => by cases h.1) ?_)
 rintro av A' ⟨h, rfl⟩; cases h
 refine za rfl <| ai <| aP ?_;obtain rfl := ak H;exact And.intro rfl (Exists.intro _ (Exists.intro _ ⟨aV rfl (.refl _), aO [] rfl, rfl, rfl⟩))
set_option maxRecDepth 100000 in
set_option maxHeartbeats 1000000 in
theorem sM (F : Nat) (a1 : List UInt8) (r2 : List UInt8) (r3 : Int) (H : mR F a1 = some (r2, r3)) : ACalls Tryz.prog 141 [S a1] [] (Ret (.tup [slE Enc.byte r2 none, i64 r3]) []) := by
 unfold mR at H
 refine aw Tryz.func141 rfl rfl ?_;show AW _ _ 61 _ _ _;refine af <| ab ?_;show AR _ _ _ _ _ [0, 1] _;refine za rfl <| za rfl <| ai <| af <| ab ?_;show AR _ _ _ _ _ [0] _;refine za rfl <| ai ?_
 refine bL 4 1 5 rfl fun t4 => ?_
 show AW _ _ _ _ _ ⟨(4, slE Enc.byte [] (some t4)) :: _, _, _⟩;refine bx (X := (List UInt8) × Nat) (fun (y50, t51) => ⟨[(0, S a1), (4, slE Enc.byte y50 (some t51))], [], [.tok t51 5]⟩) (fun (y50, t51) => di F a1 y50 = some (r2, r3)) ?_ ?_
 ·refine af <| ab ?_;show AR _ _ _ _ _ [0, 1] _;refine zm rfl <| za rfl <| ai <| aJ <| bE (X := Nat × (List UInt8) × Nat × (List UInt8)) (fun (n9, y5, t6, y7) => ⟨[(0, S a1), (4, slE Enc.byte y5 (some t6)), (5, S y7)], [], [.tok t6 5]⟩) (fun (n9, y5, t6, y7) => cu F a1 n9 (y5, y7) = some (r2, r3)) (fun (n9, y5, t6, y7) => n9) (F, [], t4, a1) H (aU [0] (.cons (.refl _) (.cons (.refl _) (.cons (.refl _) (.nil _)))) rfl) ?_;rintro ⟨n9, y5, t6, y7⟩ H;obtain ⟨n9, rfl, H⟩ := bX H;replace H : jy F a1 (cu F a1 n9) y5 y7 = some (r2, r3) := H
  unfold jy at H
  refine af <| af <| ab ?_;show AR _ _ _ _ _ [0, 1] _;refine zm rfl <| zS rfl (eb rfl rfl) <| ai <| aD rfl (fun c10 => ?_) (fun c10 => ?_)
  ·replace H := aZ c10 H;refine aF <| aJ <| af <| af <| ab ?_;show AR _ _ _ _ _ [0, 1, 2] _;refine zm rfl <| zS rfl (aX ac rfl) <| zS rfl (bB rfl rfl) <| ai <| aD rfl (fun c11 => ?_) (fun c11 => ?_)
   ·replace H := aZ c11 H;refine af <| ab ?_;show AR _ _ _ _ _ [0, 1] _;refine za rfl <| za rfl <| ai <| aP ?_;obtain ⟨rfl, rfl⟩ := fX H;exact And.intro rfl (Exists.intro _ (Exists.intro _ ⟨bH rfl (.nil _) (.refl _), aO [] rfl, rfl, rfl⟩))
   ·replace H := ba c11 H;refine aF <| af <| ab ?_;show AR _ _ _ _ _ [0, 1] _;refine za rfl <| za rfl <| ai <| bx (X := Int × Int) (fun (y35, y36) => ⟨[(0, S a1), (4, slE Enc.byte y5 (some t6)), (5, S y7), (6, .v (.int .u64 y35)), (7, i64 y36)], [], [.tok t6 5]⟩) (fun (y35, y36) => jx y5 y7 (cu F a1 n9) y35 y36 = some (r2, r3)) ?_ ?_
    ·refine af <| ab ?_;show AR _ _ _ _ _ [0] _;refine zm rfl <| ai <| aJ <| bE (X := Nat × Int × Int × Int) (fun (n16, y12, y13, y14) => ⟨[(0, S a1), (4, slE Enc.byte y5 (some t6)), (5, S y7), (6, .v (.int .u64 y12)), (7, i64 y13), (16, i64 y14)], [], [.tok t6 5]⟩) (fun (n16, y12, y13, y14) => dj y5 y7 (cu F a1 n9) n16 (y12, y13, y14) = some (r2, r3)) (fun (n16, y12, y13, y14) => n16) (F, 0, 3, 0) H (aU [0] (.cons (.refl _) (.cons (.refl _) (.cons (.refl _) (.cons (.refl _) (.cons (.refl _) (.cons (.refl _) (.nil _))))))) rfl) ?_;rintro ⟨n16, y12, y13, y14⟩ H;obtain ⟨n16, rfl, H⟩ := bX H;replace H : eO y5 y7 (cu F a1 n9) (dj y5 y7 (cu F a1 n9) n16) y12 y13 y14 = some (r2, r3) := H
     unfold eO at H
     refine af <| ab ?_;show AR _ _ _ _ _ [0] _;refine zS rfl (bB rfl rfl) <| ai <| af <| aD rfl (fun c17 => ?_) (fun c17 => ?_)
     ·replace H := aZ c17 H;refine aF <| af <| aJ <| af <| ab ?_;show AR _ _ _ _ _ [0, 1] _;refine zm rfl <| za rfl <| ai <| af ?_;obtain ⟨g18, H⟩ := az H;obtain ⟨x19, e20, H⟩ := bb H;obtain ⟨x21, e22, H⟩ := bb H;refine ab ?_;show AR _ _ _ _ _ [0, 1, 2, 3, 4] _;refine zm rfl <| zm rfl <| zS rfl (bo ac rfl rfl g18 e20) <| ap rfl rfl (aW rfl en41_b64 rfl (show ACalls _ _ _ [] (Ret (i64 x21) []) from by subst e22; exact lj b64_k1 x19) ?_);refine za rfl <| ai <| bx (X := Int × Int) (fun (y28, y29) => ⟨[(0, S a1), (4, slE Enc.byte y5 (some t6)), (5, S y7), (6, .v (.int .u64 y12)), (7, i64 y28), (9, i64 y29), (16, i64 y14)], [], [.tok t6 5]⟩) (fun (y28, y29) => gw y12 y14 (dj y5 y7 (cu F a1 n9) n16) y28 y29 = some (r2, r3)) ?_ ?_
      ·refine af ?_;obtain ⟨g23, H⟩ := az H;obtain ⟨x24, e25, H⟩ := bb H;refine ab ?_;show AR _ _ _ _ _ [0, 1, 2, 3] _;refine zm rfl <| zm rfl <| zS rfl (bo ac rfl rfl g23 e25) <| zS rfl (dt (a := x24) (b := 61) rfl rfl) <| ai <| aD rfl (fun c26 => ?_) (fun c26 => ?_)
       ·replace H := aZ c26 H;refine af <| ab ?_;show AR _ _ _ _ _ [0] _;refine za rfl <| ai ?_;obtain ⟨g27, H⟩ := az H;refine ab ?_;show AR _ _ _ _ _ [0, 1, 2] _;refine zm rfl <| zS rfl (jz rfl rfl g27) <| za rfl <| ai ?_;exact Exists.intro (y13 - 1, 0) ⟨H, aU [0] (.cons (.refl _) (.cons (.refl _) (.cons (.refl _) (.cons (.refl _) (.cons (.refl _) (.cons (.refl _) (.cons (.refl _) (.nil _)))))))) rfl⟩
       ·replace H := ba c26 H;refine aF ?_;exact Exists.intro (y13, x21) ⟨H, aU [0] (.cons (.refl _) (.cons (.refl _) (.cons (.refl _) (.cons (.refl _) (.cons (.refl _) (.cons (.refl _) (.cons (.refl _) (.nil _)))))))) rfl⟩
      rintro ⟨y28, y29⟩ H;replace H : gw y12 y14 (dj y5 y7 (cu F a1 n9) n16) y28 y29 = some (r2, r3) := H
      unfold gw at H
      refine af <| af <| ab ?_;show AR _ _ _ _ _ [0, 1, 2, 3, 4, 5] _;refine zm rfl <| zS rfl (bB rfl rfl) <| zm rfl <| aQ (l := []) 34 (B ((decide (y29 < 0)) || (decide (y28 < 1)))) (fun K => ?_) ?_
      ·rcases ah (decide (y29 < 0)) with h31 | h31
       ·refine zF h31 rfl <| zF h31 rfl <| zS rfl (ax (av := .v _) rfl h31 rfl) ?_;exact K _ 2 _ (an (dC h31)) rfl rfl
       ·refine zM h31 rfl <| zU h31 rfl (bB rfl rfl) <| zS rfl (ay (av := .v _) rfl h31 rfl) ?_;exact K _ 2 _ (an (dD h31)) rfl rfl
      refine ai <| aD rfl (fun c32 => ?_) (fun c32 => ?_)
      ·replace H := aZ c32 H;refine af <| ab ?_;show AR _ _ _ _ _ [0, 1] _;refine za rfl <| za rfl <| ai <| aP ?_;obtain ⟨rfl, rfl⟩ := fX H;exact And.intro rfl (Exists.intro _ (Exists.intro _ ⟨bH rfl (.nil _) (.refl _), aO [] rfl, rfl, rfl⟩))
      ·replace H := ba c32 H;refine aF ?_;obtain ⟨g33, H⟩ := az H;refine ab ?_;show AR _ _ _ _ _ [0, 1, 2, 3, 4, 5] _;refine zm rfl <| zS rfl (oX rfl rfl (of_decide_eq_true g33)) <| zm rfl <| zS rfl (gm (by kernel_rfl) Tryz.underlying76 rfl) <| zS rfl (so rfl rfl) <| za rfl <| ai ?_;obtain ⟨g34, H⟩ := az H;refine ab ?_;show AR _ _ _ _ _ [0, 1] _;refine zS rfl (bk rfl rfl g34) <| zm rfl <| ai ?_;exact Exists.intro (n16, IntKind.u64.wrap ((BitVec.ofInt IntKind.u64.bits (IntKind.u64.wrap (y12 * 2 ^ min (Int.toNat 6) IntKind.u64.bits)) ||| BitVec.ofInt IntKind.u64.bits (IntKind.u64.wrap y29)).toNat), y28, y14 + 1) ⟨H, Nat.lt_succ_self _, aU [0] (.cons (.refl _) (.cons (.refl _) (.cons (.refl _) (.cons (.refl _) (.cons (.refl _) (.cons (.refl _) (.nil _))))))) rfl⟩
     ·replace H := ba c17 H;refine bz ?_;exact Exists.intro (y12, y13) ⟨H, aU [0] (.cons (.refl _) (.cons (.refl _) (.cons (.refl _) (.cons (.refl _) (.cons (.refl _) (.nil _)))))) rfl⟩
    rintro ⟨y35, y36⟩ H;replace H : jx y5 y7 (cu F a1 n9) y35 y36 = some (r2, r3) := H
    unfold jx at H
    refine af ?_;obtain ⟨g38, H⟩ := az H;obtain ⟨g39, H⟩ := az H;obtain ⟨g40, H⟩ := az H;obtain ⟨x41, e42, H⟩ := bb H;obtain ⟨g44, H⟩ := az H;obtain ⟨x45, e46, H⟩ := bb H;refine ab ?_;show AR _ _ _ _ _ [0, 1, 2, 3, 4, 5, 6, 7, 8, 9, 10, 11, 12, 13] _;refine zS rfl (ag (av := slE _ _ _) rfl) <| zm rfl <| zS rfl (mi rfl rfl (of_decide_eq_true g38)) <| zS rfl (gc (by kernel_rfl) au rfl) <| zm rfl <| zS rfl (mi rfl rfl (of_decide_eq_true g39)) <| zS rfl (gc (by kernel_rfl) au rfl) <| zm rfl <| zS rfl (gc (by kernel_rfl) au rfl) <| zR rfl (bh (E := Enc.byte) (bytes := 1) (xs := [.tmp 44, .tmp 47, .tmp 49]) (l := ([Go.Av.toB (Int.fdiv y35 (2 ^ min (Int.toNat 16) IntKind.u64.bits)), Go.Av.toB (Int.fdiv y35 (2 ^ min (Int.toNat 8) IntKind.u64.bits)), Go.Av.toB y35] : List UInt8)) aa (by kernel_rfl) rfl rfl (by decide) rfl rfl) <| zm rfl <| zS rfl (lu (E := Enc.byte) aa (by kernel_rfl) rfl rfl g40 e42) <| zX rfl (bA (E := Enc.byte) (bytes := 1) 0 aa aa rfl (by kernel_rfl) rfl rfl rfl rfl g44 e46) ?_;rintro _ _ ⟨t43, rfl, rfl⟩;refine zS rfl (am (av := slE _ _ _) rfl) <| ai ?_;obtain ⟨g47, H⟩ := az H;obtain ⟨x48, e49, H⟩ := bb H;refine ab ?_;show AR _ _ _ _ _ [0, 1, 2] _;refine zm rfl <| zS rfl (kR ac rfl rfl g47 e49) <| za rfl <| ai ?_
    exact Exists.intro (n9, x45, t43, x48) ⟨H, Nat.lt_succ_self _, aU [0] (.cons (.refl _) (.cons (.refl _) (.cons (.refl _) (.nil _)))) rfl⟩
  ·replace H := ba c10 H;refine bz ?_;exact Exists.intro (y5, t6) ⟨H, aU [0] (.cons (.refl _) (.cons (.refl _) (.nil _))) rfl⟩
 rintro ⟨y50, t51⟩ H;replace H : di F a1 y50 = some (r2, r3) := H
 unfold di at H
 refine af <| af ?_;obtain ⟨x53, e54, H⟩ := cT H;refine ab ?_;show AR _ _ _ _ _ [0, 1, 2, 3] _;refine zS rfl (ag (av := slE _ _ _) rfl) <| ap rfl rfl (aW rfl xJ rfl (qN F y50 (some t51) x53 e54) ?_);refine zm rfl <| zS rfl (eb rfl rfl) <| ai <| aD rfl (fun c55 => ?_) (fun c55 => ?_)
 ·replace H := aZ c55 H;refine af <| ab ?_;show AR _ _ _ _ _ [0, 1] _;refine za rfl <| za rfl <| ai <| aP ?_;obtain ⟨rfl, rfl⟩ := fX H;exact And.intro rfl (Exists.intro _ (Exists.intro _ ⟨bH rfl (.nil _) (.refl _), aO [] rfl, rfl, rfl⟩))
 ·replace H := ba c55 H;refine aF <| af <| ab ?_;show AR _ _ _ _ _ [0, 1, 2] _;refine zS rfl (ag (av := slE _ _ _) rfl) <| zS rfl (am (av := slE _ _ _) rfl) <| za rfl <| ai <| aP ?_;obtain ⟨rfl, rfl⟩ := fX H;exact And.intro rfl (Exists.intro _ (Exists.intro _ ⟨bH rfl (.tok _ _ _) (.refl _), aO [] rfl, rfl, rfl⟩))
end Go.Proofs.YtdaafnaokdigbaaGreatDoor
namespace Go.Pv
def lW (F : Nat) (a1 : UInt8) : Option Bool :=
some (((((decide (97 ≤ (a1.toNat : Int))) && (decide ((a1.toNat : Int) ≤ 122))) || ((decide (65 ≤ (a1.toNat : Int))) && (decide ((a1.toNat : Int) ≤ 90)))) || ((decide (48 ≤ (a1.toNat : Int))) && (decide ((a1.toNat : Int) ≤ 57)))) || (decide (a1 = 45)))
def lb (F : Nat) (a1 : UInt8) : Option Bool :=
some ((decide (32 ≤ (a1.toNat : Int))) && (decide ((a1.toNat : Int) < 127)))
def il (a1 : List UInt8) : Option Bool :=
some (!decide (a1 = ([] : List UInt8)))
def ip (F : Nat) (a1 : List UInt8) (rec4 : Int → Option Bool) (y3 : Int) : Option Bool :=
bif decide (y3 < (a1.length : Int)) then
  grd (bQ y3 a1.length) <|
  lt (at_ a1 y3) fun x8 =>
  bnd (lW F x8) fun x10 =>
  bif !x10 then
    some false
  else
    grd (okI (y3 + 1)) <|
    rec4 (y3 + 1)
else
  il a1
def im (F : Nat) (a1 : List UInt8) (n : Nat) : Int → Option Bool :=
  loop (fun rec x => ip F a1 rec x) n
def lV (F : Nat) (a1 : List UInt8) : Option Bool :=
im F a1 F 0
def ii (a1 : List UInt8) : Option Bool :=
some (!decide (a1 = ([] : List UInt8)))
def ik (F : Nat) (a1 : List UInt8) (rec4 : Int → Option Bool) (y3 : Int) : Option Bool :=
bif decide (y3 < (a1.length : Int)) then
  grd (bQ y3 a1.length) <|
  lt (at_ a1 y3) fun x8 =>
  bnd (lb F x8) fun x10 =>
  bif !x10 then
    some false
  else
    grd (okI (y3 + 1)) <|
    rec4 (y3 + 1)
else
  ii a1
def ij (F : Nat) (a1 : List UInt8) (n : Nat) : Int → Option Bool :=
  loop (fun rec x => ik F a1 rec x) n
def lU (F : Nat) (a1 : List UInt8) : Option Bool :=
ij F a1 F 0
def kF (F : Nat) (a1 : List UInt8) : Option Bool :=
bndc (decide ((a1.length : Int) ≤ 40)) (lV F a1) fun x4 =>
some ((decide ((a1.length : Int) ≤ 40)) && x4)
def kQ (F : Nat) (a1 : List UInt8) : Option Bool :=
bnd (lU F a1) fun x3 =>
cz x3 (okS a1.length) <|
lt (Go.Lib.trimB a1 32) fun x7 =>
cz (x3 && (decide (x7 = a1))) (okS a1.length) <|
lt (Go.Lib.contains a1 ([32, 32] : List UInt8)) fun x11 =>
cz ((x3 && (decide (x7 = a1))) && (!x11)) (okS a1.length) <|
lt (Go.Lib.contains a1 ([61, 63] : List UInt8)) fun x15 =>
some (((x3 && (decide (x7 = a1))) && (!x11)) && (!x15))
def lc (F : Nat) (a1 : UInt8) : Option Bool :=
some (decide (Go.Av.shr8 a1 6 = 2))
def jr (y15 : Int) : Option Int :=
bif decide (y15 = 41) then
  some 45
else
  some y15
def jt (F : Nat) (a1 : List UInt8) (rec5 : Int → Option Int) (y4 : Int) : Option Int :=
cz (decide (41 < y4)) (bQ y4 a1.length) <|
lt (at_ a1 y4) fun x9 =>
bndc (decide (41 < y4)) (lc F x9) fun x11 =>
bif (decide (41 < y4)) && x11 then
  grd (okI (y4 - 1)) <|
  rec5 (y4 - 1)
else
  jr y4
def js (F : Nat) (a1 : List UInt8) (n : Nat) : Int → Option Int :=
  loop (fun rec x => jt F a1 rec x) n
def lG (F : Nat) (a1 : List UInt8) : Option Int :=
bif decide ((a1.length : Int) ≤ 45) then
  some (a1.length : Int)
else
  js F a1 F 45
def fV {σ : Type} (F : Nat) (k : σ → (List UInt8) → Option (σ × Bool)) (rec30 : ((List UInt8) × σ) → Option (σ × (List UInt8))) (y27 : List UInt8) (y28 : σ) : Option (σ × (List UInt8)) :=
bif !decide (y27 = ([] : List UInt8)) then
  bnd (lG F y27) fun x33 =>
  grd (gA x33 y27.length) <|
  lt (to_ y27 x33) fun x36 =>
  grd (bw x36.length) <|
  bnd (nJ F x36) fun x40 =>
  grd (bw (([61, 63, 117, 116, 102, 45, 56, 63, 66, 63] : List UInt8).length + x40.length)) <|
  lt (([61, 63, 117, 116, 102, 45, 56, 63, 66, 63] : List UInt8) ++ x40) fun x43 =>
  grd (bw (x43.length + ([63, 61] : List UInt8).length)) <|
  lt (x43 ++ ([63, 61] : List UInt8)) fun x46 =>
  kV (k y28 x46) fun x48 x49 =>
  bif !x49 then
    some (x48, y27)
  else
    grd (gA x33 y27.length) <|
    lt (jA y27 x33) fun x54 =>
    rec30 (x54, x48)
else
  some (y28, y27)
def eA {σ : Type} (F : Nat) (k : σ → (List UInt8) → Option (σ × Bool)) (n : Nat) : ((List UInt8) × σ) → Option (σ × (List UInt8)) :=
  loop (fun rec x => fV F k rec x.1 x.2) n
def iU {σ : Type} (F : Nat) (a2 : List UInt8) (k : σ → (List UInt8) → Option (σ × Bool)) (st0 : σ) : Option (σ × (List UInt8)) :=
eA F k F (a2, st0)
def fU {σ : Type} (a2 : List UInt8) (k : σ → (List UInt8) → Option (σ × Bool)) (x9 : List (List UInt8)) (rec14 : (Int × σ) → Option (σ × (List UInt8))) (y11 : Int) (y12 : σ) : Option (σ × (List UInt8)) :=
bif decide (y11 < (x9.length : Int)) then
  grd (bQ y11 x9.length) <|
  lt (at_ x9 y11) fun x18 =>
  kV (k y12 x18) fun x20 x21 =>
  bif !x21 then
    some (x20, a2)
  else
    grd (okI (y11 + 1)) <|
    rec14 (y11 + 1, x20)
else
  some (y12, a2)
def ez {σ : Type} (a2 : List UInt8) (k : σ → (List UInt8) → Option (σ × Bool)) (x9 : List (List UInt8)) (n : Nat) : (Int × σ) → Option (σ × (List UInt8)) :=
  loop (fun rec x => fU a2 k x9 rec x.1 x.2) n
def kg (F : Nat) {σ : Type} (k : σ → (List UInt8) → Option (σ × Bool)) (st0 : σ) (a2 : List UInt8) : Option (σ × (List UInt8)) :=
bnd (kQ F a2) fun x4 =>
bif x4 then
  grd (okS a2.length) <|
  grd (decide (1 ≤ ([32] : List UInt8).length)) <|
  lt (Go.Lib.split a2 ([32] : List UInt8)) fun x9 =>
  ez a2 k x9 F (0, st0)
else
  iU F a2 k st0
def lS (F : Nat) (a1 : List UInt8) : Option Unit :=
some ()
def ju (y66 : List UInt8) : Option ((List UInt8) × Int) :=
grd (bw (y66.length + ([13, 10] : List UInt8).length)) <|
lt (y66 ++ ([13, 10] : List UInt8)) fun x71 =>
some (x71, 0)
def gp (x22 : List UInt8) (y30 : Int) (y31 : List UInt8) : Option ((Int × (List UInt8)) × Bool) :=
grd (bw (y31.length + ([32] : List UInt8).length)) <|
lt (y31 ++ ([32] : List UInt8)) fun x36 =>
grd (bw (x36.length + x22.length)) <|
lt (x36 ++ x22) fun x40 =>
grd (okI (y30 + 1)) <|
grd (okI ((y30 + 1) + (x22.length : Int))) <|
some (((y30 + 1) + (x22.length : Int), x40), true)
def dT (y18 : Int) (y19 : List UInt8) (x22 : List UInt8) : Option ((Int × (List UInt8)) × Bool) :=
grd (okI (y18 + 1)) <|
grd (okI ((y18 + 1) + (x22.length : Int))) <|
bif decide (76 < (y18 + 1) + (x22.length : Int)) then
  grd (bw (y19.length + ([13, 10] : List UInt8).length)) <|
  lt (y19 ++ ([13, 10] : List UInt8)) fun x28 =>
  gp x22 0 x28
else
  gp x22 y18 y19
def iM (F : Nat) (a1 : List UInt8) (a2 : List UInt8) : Option ((List UInt8) × Int) :=
bnd (kF F a1) fun x5 =>
bif (!x5) || (decide (4000 < (a2.length : Int))) then
  some ([], 1)
else
  grd (bw (a1.length + ([58] : List UInt8).length)) <|
  lt (a1 ++ ([58] : List UInt8)) fun x10 =>
  grd (bw x10.length) <|
  bnd (lS F a2) fun _ =>
  kV (kg F (fun s x => dT s.1 s.2 x) ((x10.length : Int), x10) a2) fun x60 x61 =>
  ju x60.2
end Go.Pv
namespace Go.Proofs.YtdaafnaokdigbaaGreatDoor
open Go.RowKit Go.Av Go.Pv
theorem vp : ∀ (args : Array Value) (w : World), (callFunc 42 args).run Tryz.prog w = .ok (.enter 42 args) w := fun _ _ => by kernel_rfl
theorem pK : ∀ (args : Array Value) (w : World), (callFunc 43 args).run Tryz.prog w = .ok (.enter 43 args) w := fun _ _ => by kernel_rfl
theorem uW : ∀ (args : Array Value) (w : World), (callFunc 89 args).run Tryz.prog w = .ok (.enter 89 args) w := fun _ _ => by kernel_rfl
theorem uV : ∀ (args : Array Value) (w : World), (callFunc 90 args).run Tryz.prog w = .ok (.enter 90 args) w := fun _ _ => by kernel_rfl
theorem oC : ∀ (args : Array Value) (w : World), (callFunc 108 args).run Tryz.prog w = .ok (.enter 108 args) w := fun _ _ => by kernel_rfl
theorem tD : ∀ (args : Array Value) (w : World), (callFunc 109 args).run Tryz.prog w = .ok (.enter 109 args) w := fun _ _ => by kernel_rfl
theorem tC : ∀ (args : Array Value) (w : World), (callFunc 110 args).run Tryz.prog w = .ok (.enter 110 args) w := fun _ _ => by kernel_rfl
theorem tB : ∀ (args : Array Value) (w : World), (callFunc 111 args).run Tryz.prog w = .ok (.enter 111 args) w := fun _ _ => by kernel_rfl
theorem tA : ∀ (args : Array Value) (w : World), (callFunc 112 args).run Tryz.prog w = .ok (.enter 112 args) w := fun _ _ => by kernel_rfl
theorem tx : ∀ (args : Array Value) (w : World), (callFunc 113 args).run Tryz.prog w = .ok (.enter 113 args) w := fun _ _ => by kernel_rfl
theorem tw : ∀ (args : Array Value) (w : World), (callFunc 114 args).run Tryz.prog w = .ok (.enter 114 args) w := fun _ _ => by kernel_rfl
theorem tk : ∀ (args : Array Value) (w : World), (callFunc 132 args).run Tryz.prog w = .ok (.enter 132 args) w := fun _ _ => by kernel_rfl
theorem tj : ∀ (args : Array Value) (w : World), (callFunc 134 args).run Tryz.prog w = .ok (.enter 134 args) w := fun _ _ => by kernel_rfl
set_option maxRecDepth 100000 in
set_option maxHeartbeats 1000000 in
theorem rz (F : Nat) (a1 : UInt8) (r2 : Bool) (H : lW F a1 = some r2) : ACalls Tryz.prog 109 [u8 a1] [] (Ret (B r2) []) := by
 unfold lW at H
 refine aw Tryz.func109 rfl rfl ?_;show AW _ _ 29 _ _ _;refine af <| ab ?_;show AR _ _ _ _ _ [0] _;refine za rfl <| ai <| af <| ab ?_;show AR _ _ _ _ _ [0, 1, 2, 3, 4, 5, 6, 7, 8, 9, 10, 11, 12, 13, 14, 15, 16, 17, 18, 19, 20, 21, 22, 23, 24, 25, 26] _;refine zm rfl <| zS rfl (dl rfl rfl) <| zm rfl <| aQ (l := [6, 7, 8, 9, 10, 11, 12, 13, 14, 15, 16, 17, 18, 19, 20, 21, 22, 23, 24, 25, 26]) 8 (B ((decide (97 ≤ (a1.toNat : Int))) && (decide ((a1.toNat : Int) ≤ 122)))) (fun K => ?_) ?_
 ·rcases ah (decide (97 ≤ (a1.toNat : Int))) with h3 | h3
  ·refine zM h3 rfl <| zU h3 rfl (dd rfl rfl) <| zS rfl (ax (av := .v _) rfl h3 rfl) ?_;exact K _ 2 _ (an (cc h3)) rfl rfl
  ·refine zF h3 rfl <| zF h3 rfl <| zS rfl (ay (av := .v _) rfl h3 rfl) ?_;exact K _ 2 _ (an (cd h3)) rfl rfl
 refine zm rfl <| aQ (l := [14, 15, 16, 17, 18, 19, 20, 21, 22, 23, 24, 25, 26]) 16 (B (((decide (97 ≤ (a1.toNat : Int))) && (decide ((a1.toNat : Int) ≤ 122))) || ((decide (65 ≤ (a1.toNat : Int))) && (decide ((a1.toNat : Int) ≤ 90))))) (fun K => ?_) ?_
 ·rcases ah ((decide (97 ≤ (a1.toNat : Int))) && (decide ((a1.toNat : Int) ≤ 122))) with h4 | h4
  ·refine zF h4 rfl <| zF h4 rfl <| zF h4 rfl <| gU rfl rfl rfl rfl rfl <| gU rfl rfl rfl rfl rfl <| zF h4 rfl <| zS rfl (ax (av := .v _) rfl h4 rfl) ?_;exact K _ 6 _ (an (dC h4)) rfl rfl
  ·refine zM h4 rfl <| zU h4 rfl (dl rfl rfl) <| zM h4 rfl <| aQ (l := [13, 14, 15, 16, 17, 18, 19, 20, 21, 22, 23, 24, 25, 26]) 15 (B ((decide (65 ≤ (a1.toNat : Int))) && (decide ((a1.toNat : Int) ≤ 90)))) (fun K => ?_) ?_
   ·rcases ah (decide (65 ≤ (a1.toNat : Int))) with h5 | h5
    ·refine zM h5 rfl <| zU h5 rfl (dd rfl rfl) <| zU h4 rfl (ax (av := .v _) rfl h5 rfl) ?_;exact K _ 2 _ (an (cc h5)) rfl rfl
    ·refine zF h5 rfl <| zF h5 rfl <| zU h4 rfl (ay (av := .v _) rfl h5 rfl) ?_;exact K _ 2 _ (an (cd h5)) rfl rfl
   refine zS rfl (ay (av := .v _) rfl h4 rfl) ?_;exact K _ 4 _ (an (dD h4)) rfl rfl
 refine zm rfl <| aQ (l := [22, 23, 24, 25, 26]) 24 (B ((((decide (97 ≤ (a1.toNat : Int))) && (decide ((a1.toNat : Int) ≤ 122))) || ((decide (65 ≤ (a1.toNat : Int))) && (decide ((a1.toNat : Int) ≤ 90)))) || ((decide (48 ≤ (a1.toNat : Int))) && (decide ((a1.toNat : Int) ≤ 57))))) (fun K => ?_) ?_
 ·rcases ah (((decide (97 ≤ (a1.toNat : Int))) && (decide ((a1.toNat : Int) ≤ 122))) || ((decide (65 ≤ (a1.toNat : Int))) && (decide ((a1.toNat : Int) ≤ 90)))) with h6 | h6
  ·refine zF h6 rfl <| zF h6 rfl <| zF h6 rfl <| gU rfl rfl rfl rfl rfl <| gU rfl rfl rfl rfl rfl <| zF h6 rfl <| zS rfl (ax (av := .v _) rfl h6 rfl) ?_;exact K _ 6 _ (an (dC h6)) rfl rfl
  ·refine zM h6 rfl <| zU h6 rfl (dl rfl rfl) <| zM h6 rfl <| aQ (l := [21, 22, 23, 24, 25, 26]) 23 (B ((decide (48 ≤ (a1.toNat : Int))) && (decide ((a1.toNat : Int) ≤ 57)))) (fun K => ?_) ?_
   ·rcases ah (decide (48 ≤ (a1.toNat : Int))) with h7 | h7
    ·refine zM h7 rfl <| zU h7 rfl (dd rfl rfl) <| zU h6 rfl (ax (av := .v _) rfl h7 rfl) ?_;exact K _ 2 _ (an (cc h7)) rfl rfl
    ·refine zF h7 rfl <| zF h7 rfl <| zU h6 rfl (ay (av := .v _) rfl h7 rfl) ?_;exact K _ 2 _ (an (cd h7)) rfl rfl
   refine zS rfl (ay (av := .v _) rfl h6 rfl) ?_;exact K _ 4 _ (an (dD h6)) rfl rfl
 refine zm rfl <| aQ (l := [26]) 28 (B (((((decide (97 ≤ (a1.toNat : Int))) && (decide ((a1.toNat : Int) ≤ 122))) || ((decide (65 ≤ (a1.toNat : Int))) && (decide ((a1.toNat : Int) ≤ 90)))) || ((decide (48 ≤ (a1.toNat : Int))) && (decide ((a1.toNat : Int) ≤ 57)))) || (decide (a1 = 45)))) (fun K => ?_) ?_
 ·rcases ah ((((decide (97 ≤ (a1.toNat : Int))) && (decide ((a1.toNat : Int) ≤ 122))) || ((decide (65 ≤ (a1.toNat : Int))) && (decide ((a1.toNat : Int) ≤ 90)))) || ((decide (48 ≤ (a1.toNat : Int))) && (decide ((a1.toNat : Int) ≤ 57)))) with h8 | h8
  ·refine zF h8 rfl <| zF h8 rfl <| zS rfl (ax (av := .v _) rfl h8 rfl) ?_;exact K _ 2 _ (an (dC h8)) rfl rfl
  ·refine zM h8 rfl <| zU h8 rfl (dt (a := a1) (b := 45) rfl rfl) <| zS rfl (ay (av := .v _) rfl h8 rfl) ?_;exact K _ 2 _ (an (dD h8)) rfl rfl
 refine za rfl <| ai <| aP ?_;obtain rfl := ak H;exact And.intro rfl (Exists.intro _ (Exists.intro _ ⟨aV rfl (.refl _), aO [] rfl, rfl, rfl⟩))
set_option maxRecDepth 100000 in
set_option maxHeartbeats 1000000 in
theorem qv (F : Nat) (a1 : UInt8) (r2 : Bool) (H : lb F a1 = some r2) : ACalls Tryz.prog 132 [u8 a1] [] (Ret (B r2) []) := by
 unfold lb at H
 refine aw Tryz.func132 rfl rfl ?_;show AW _ _ 9 _ _ _;refine af <| ab ?_;show AR _ _ _ _ _ [0] _;refine za rfl <| ai <| af <| ab ?_;show AR _ _ _ _ _ [0, 1, 2, 3, 4, 5, 6] _;refine zm rfl <| zS rfl (dl rfl rfl) <| zm rfl <| aQ (l := [6]) 8 (B ((decide (32 ≤ (a1.toNat : Int))) && (decide ((a1.toNat : Int) < 127)))) (fun K => ?_) ?_
 ·rcases ah (decide (32 ≤ (a1.toNat : Int))) with h3 | h3
  ·refine zM h3 rfl <| zU h3 rfl (bB rfl rfl) <| zS rfl (ax (av := .v _) rfl h3 rfl) ?_;exact K _ 2 _ (an (cc h3)) rfl rfl
  ·refine zF h3 rfl <| zF h3 rfl <| zS rfl (ay (av := .v _) rfl h3 rfl) ?_;exact K _ 2 _ (an (cd h3)) rfl rfl
 refine za rfl <| ai <| aP ?_;obtain rfl := ak H;exact And.intro rfl (Exists.intro _ (Exists.intro _ ⟨aV rfl (.refl _), aO [] rfl, rfl, rfl⟩))
set_option maxRecDepth 100000 in
set_option maxHeartbeats 1000000 in
theorem ry (F : Nat) (a1 : List UInt8) (r2 : Bool) (H : lV F a1 = some r2) : ACalls Tryz.prog 108 [S a1, .v (.func (.func 109) #[] #[])] [] (Ret (B r2) []) := by
 unfold lV at H
 refine aw Tryz.func108 rfl rfl ?_;show AW _ _ 20 _ _ _;refine af <| ab ?_;show AR _ _ _ _ _ [0] _;refine za rfl <| ai <| bx (X := Unit) (fun _ => ⟨[(0, S a1)], [], []⟩) (fun _ => il a1 = some r2) ?_ ?_
 ·refine af <| ab ?_;show AR _ _ _ _ _ [0, 1, 2] _;refine zm rfl <| zS rfl (aX ac rfl) <| zm rfl <| ai <| aJ <| bE (X := Nat × Int) (fun (n5, y3) => ⟨[(0, S a1), (1, .v (.func (.func 109) #[] #[])), (7, i64 (a1.length : Int)), (8, i64 y3)], [], []⟩) (fun (n5, y3) => im F a1 n5 y3 = some r2) (fun (n5, y3) => n5) (F, 0) H (aU [] (.cons (.refl _) (.cons (.refl _) (.cons (.refl _) (.cons (.refl _) (.nil _))))) rfl) ?_;rintro ⟨n5, y3⟩ H;obtain ⟨n5, rfl, H⟩ := bX H;replace H : ip F a1 (im F a1 n5) y3 = some r2 := H
  unfold ip at H
  refine af <| ab ?_;show AR _ _ _ _ _ [0] _;refine zS rfl (bB rfl rfl) <| ai <| af <| aD rfl (fun c6 => ?_) (fun c6 => ?_)
  ·replace H := aZ c6 H;refine aF <| af <| aJ <| af <| ab ?_;show AR _ _ _ _ _ [0, 1] _;refine zm rfl <| za rfl <| ai <| af ?_;obtain ⟨g7, H⟩ := az H;obtain ⟨x8, e9, H⟩ := bb H;obtain ⟨x10, e11, H⟩ := cT H;refine ab ?_;show AR _ _ _ _ _ [0, 1, 2, 3, 4, 5] _;refine zm rfl <| zm rfl <| zm rfl <| zS rfl (bo ac rfl rfl g7 e9) <| ap rfl rfl (AO.callFp rfl (.inr ⟨rfl, rfl, rfl⟩) tD rfl (rz F x8 x10 e11) ?_);refine zS rfl (cx rfl) <| ai <| aD rfl (fun c12 => ?_) (fun c12 => ?_)
   ·replace H := aZ c12 H;refine af <| ab ?_;show AR _ _ _ _ _ [0] _;refine za rfl <| ai <| aP ?_;obtain rfl := ak H;exact And.intro rfl (Exists.intro _ (Exists.intro _ ⟨aV rfl (.refl _), aO [] rfl, rfl, rfl⟩))
   ·replace H := ba c12 H;refine aF ?_;obtain ⟨g13, H⟩ := az H;refine ab ?_;show AR _ _ _ _ _ [0, 1] _;refine zS rfl (bk rfl rfl g13) <| zm rfl <| ai ?_;exact Exists.intro (n5, y3 + 1) ⟨H, Nat.lt_succ_self _, aU [] (.cons (.refl _) (.cons (.refl _) (.cons (.refl _) (.cons (.refl _) (.nil _))))) rfl⟩
  ·replace H := ba c6 H;refine bz ?_;exact Exists.intro () ⟨H, aU [] (.cons (.refl _) (.nil _)) rfl⟩
 rintro _ H;replace H : il a1 = some r2 := H
 unfold il at H
 refine af <| ab ?_;show AR _ _ _ _ _ [0, 1, 2] _;refine zm rfl <| zS rfl (eb rfl rfl) <| za rfl <| ai <| aP ?_;obtain rfl := ak H;exact And.intro rfl (Exists.intro _ (Exists.intro _ ⟨aV rfl (.refl _), aO [] rfl, rfl, rfl⟩))
set_option maxRecDepth 100000 in
set_option maxHeartbeats 1000000 in
theorem rx (F : Nat) (a1 : List UInt8) (r2 : Bool) (H : lU F a1 = some r2) : ACalls Tryz.prog 108 [S a1, .v (.func (.func 132) #[] #[])] [] (Ret (B r2) []) := by
 unfold lU at H
 refine aw Tryz.func108 rfl rfl ?_;show AW _ _ 20 _ _ _;refine af <| ab ?_;show AR _ _ _ _ _ [0] _;refine za rfl <| ai <| bx (X := Unit) (fun _ => ⟨[(0, S a1)], [], []⟩) (fun _ => ii a1 = some r2) ?_ ?_
 ·refine af <| ab ?_;show AR _ _ _ _ _ [0, 1, 2] _;refine zm rfl <| zS rfl (aX ac rfl) <| zm rfl <| ai <| aJ <| bE (X := Nat × Int) (fun (n5, y3) => ⟨[(0, S a1), (1, .v (.func (.func 132) #[] #[])), (7, i64 (a1.length : Int)), (8, i64 y3)], [], []⟩) (fun (n5, y3) => ij F a1 n5 y3 = some r2) (fun (n5, y3) => n5) (F, 0) H (aU [] (.cons (.refl _) (.cons (.refl _) (.cons (.refl _) (.cons (.refl _) (.nil _))))) rfl) ?_;rintro ⟨n5, y3⟩ H;obtain ⟨n5, rfl, H⟩ := bX H;replace H : ik F a1 (ij F a1 n5) y3 = some r2 := H
  unfold ik at H
  refine af <| ab ?_;show AR _ _ _ _ _ [0] _;refine zS rfl (bB rfl rfl) <| ai <| af <| aD rfl (fun c6 => ?_) (fun c6 => ?_)
  ·replace H := aZ c6 H;refine aF <| af <| aJ <| af <| ab ?_;show AR _ _ _ _ _ [0, 1] _;refine zm rfl <| za rfl <| ai <| af ?_;obtain ⟨g7, H⟩ := az H;obtain ⟨x8, e9, H⟩ := bb H;obtain ⟨x10, e11, H⟩ := cT H;refine ab ?_;show AR _ _ _ _ _ [0, 1, 2, 3, 4, 5] _;refine zm rfl <| zm rfl <| zm rfl <| zS rfl (bo ac rfl rfl g7 e9) <| ap rfl rfl (AO.callFp rfl (.inr ⟨rfl, rfl, rfl⟩) tk rfl (qv F x8 x10 e11) ?_);refine zS rfl (cx rfl) <| ai <| aD rfl (fun c12 => ?_) (fun c12 => ?_)
   ·replace H := aZ c12 H;refine af <| ab ?_;show AR _ _ _ _ _ [0] _;refine za rfl <| ai <| aP ?_;obtain rfl := ak H;exact And.intro rfl (Exists.intro _ (Exists.intro _ ⟨aV rfl (.refl _), aO [] rfl, rfl, rfl⟩))
   ·replace H := ba c12 H;refine aF ?_;obtain ⟨g13, H⟩ := az H;refine ab ?_;show AR _ _ _ _ _ [0, 1] _;refine zS rfl (bk rfl rfl g13) <| zm rfl <| ai ?_;exact Exists.intro (n5, y3 + 1) ⟨H, Nat.lt_succ_self _, aU [] (.cons (.refl _) (.cons (.refl _) (.cons (.refl _) (.cons (.refl _) (.nil _))))) rfl⟩
  ·replace H := ba c6 H;refine bz ?_;exact Exists.intro () ⟨H, aU [] (.cons (.refl _) (.nil _)) rfl⟩
 rintro _ H;replace H : ii a1 = some r2 := H
 unfold ii at H
 refine af <| ab ?_;show AR _ _ _ _ _ [0, 1, 2] _;refine zm rfl <| zS rfl (eb rfl rfl) <| za rfl <| ai <| aP ?_;obtain rfl := ak H;exact And.intro rfl (Exists.intro _ (Exists.intro _ ⟨aV rfl (.refl _), aO [] rfl, rfl, rfl⟩))
set_option maxRecDepth 100000 in
set_option maxHeartbeats 1000000 in
theorem sJ (F : Nat) (a1 : List UInt8) (r2 : Bool) (H : kF F a1 = some r2) : ACalls Tryz.prog 89 [S a1] [] (Ret (B r2) []) := by
 unfold kF at H
 refine aw Tryz.func89 rfl rfl ?_;show AW _ _ 10 _ _ _;refine af <| ab ?_;show AR _ _ _ _ _ [0] _;refine za rfl <| ai <| af ?_;obtain ⟨x4, e5, H⟩ := qf H;refine ab ?_;show AR _ _ _ _ _ [0, 1, 2, 3, 4, 5, 6, 7] _;refine zm rfl <| zS rfl (aX ac rfl) <| zS rfl (dd rfl rfl) <| zm rfl <| aQ (l := [7]) 9 (B ((decide ((a1.length : Int) ≤ 40)) && x4)) (fun K => ?_) ?_
 ·rcases ah (decide ((a1.length : Int) ≤ 40)) with h3 | h3
  ·refine zM h3 rfl <| zT h3 rfl (aW rfl oC rfl (ry F a1 x4 (e5 h3)) ?_);refine zS rfl (ax (av := .v _) rfl h3 rfl) ?_;exact K _ 2 _ (an (cc h3)) rfl rfl
  ·refine zF h3 rfl <| zF h3 rfl <| zS rfl (ay (av := .v _) rfl h3 rfl) ?_;exact K _ 2 _ (an (cd h3)) rfl rfl
 refine za rfl <| ai <| aP ?_;obtain rfl := ak H;exact And.intro rfl (Exists.intro _ (Exists.intro _ ⟨aV rfl (.refl _), aO [] rfl, rfl, rfl⟩))
set_option maxRecDepth 100000 in
set_option maxHeartbeats 1000000 in
theorem rE (F : Nat) (a1 : List UInt8) (r2 : Bool) (H : kQ F a1 = some r2) : ACalls Tryz.prog 111 [S a1] [] (Ret (B r2) []) := by
 unfold kQ at H
 refine aw Tryz.func111 rfl rfl ?_;show AW _ _ 21 _ _ _;refine af <| ab ?_;show AR _ _ _ _ _ [0] _;refine za rfl <| ai <| af ?_;obtain ⟨x3, e4, H⟩ := cT H;obtain ⟨g6, H⟩ := cb H;obtain ⟨x7, e8, H⟩ := bb H;obtain ⟨g10, H⟩ := cb H;obtain ⟨x11, e12, H⟩ := bb H;obtain ⟨g14, H⟩ := cb H;obtain ⟨x15, e16, H⟩ := bb H;refine ab ?_;show AR _ _ _ _ _ [0, 1, 2, 3, 4, 5, 6, 7, 8, 9, 10, 11, 12, 13, 14, 15, 16, 17, 18] _;refine zm rfl <| ap rfl rfl (aW rfl oC rfl (rx F a1 x3 e4) ?_);refine zm rfl <| aQ (l := [8, 9, 10, 11, 12, 13, 14, 15, 16, 17, 18]) 10 (B (x3 && (decide (x7 = a1)))) (fun K => ?_) ?_
 ·rcases ah x3 with h5 | h5
  ·refine zM h5 rfl <| zT h5 rfl (aW rfl vp rfl (show ACalls _ _ _ [] (Ret (S x7) []) from by subst e8; exact qW a1 32 (by decide) (kU (g6 h5))) ?_);refine zM h5 rfl <| zU h5 rfl (lr rfl rfl) <| zS rfl (ax (av := .v _) rfl h5 rfl) ?_;exact K _ 4 _ (an (cc h5)) rfl rfl
  ·refine zF h5 rfl <| zF h5 rfl <| zF h5 rfl <| zF h5 rfl <| zS rfl (ay (av := .v _) rfl h5 rfl) ?_;exact K _ 4 _ (an (cd h5)) rfl rfl
 refine zm rfl <| aQ (l := [13, 14, 15, 16, 17, 18]) 15 (B ((x3 && (decide (x7 = a1))) && (!x11))) (fun K => ?_) ?_
 ·rcases ah (x3 && (decide (x7 = a1))) with h9 | h9
  ·refine zM h9 rfl <| zT h9 rfl (aW rfl pK rfl (show ACalls _ _ _ [] (Ret (B x11) []) from by subst e12; exact lQ a1 ([32, 32] : List UInt8) (kU (g10 h9))) ?_);refine zU h9 rfl (cx rfl) <| zS rfl (ax (av := .v _) rfl h9 rfl) ?_;exact K _ 3 _ (an (cc h9)) rfl rfl
  ·refine zF h9 rfl <| zF h9 rfl <| zF h9 rfl <| zS rfl (ay (av := .v _) rfl h9 rfl) ?_;exact K _ 3 _ (an (cd h9)) rfl rfl
 refine zm rfl <| aQ (l := [18]) 20 (B (((x3 && (decide (x7 = a1))) && (!x11)) && (!x15))) (fun K => ?_) ?_
 ·rcases ah ((x3 && (decide (x7 = a1))) && (!x11)) with h13 | h13
  ·refine zM h13 rfl <| zT h13 rfl (aW rfl pK rfl (show ACalls _ _ _ [] (Ret (B x15) []) from by subst e16; exact lQ a1 ([61, 63] : List UInt8) (kU (g14 h13))) ?_);refine zU h13 rfl (cx rfl) <| zS rfl (ax (av := .v _) rfl h13 rfl) ?_;exact K _ 3 _ (an (cc h13)) rfl rfl
  ·refine zF h13 rfl <| zF h13 rfl <| zF h13 rfl <| zS rfl (ay (av := .v _) rfl h13 rfl) ?_;exact K _ 3 _ (an (cd h13)) rfl rfl
 refine za rfl <| ai <| aP ?_;obtain rfl := ak H;exact And.intro rfl (Exists.intro _ (Exists.intro _ ⟨aV rfl (.refl _), aO [] rfl, rfl, rfl⟩))
set_option maxRecDepth 100000 in
set_option maxHeartbeats 1000000 in
theorem qw (F : Nat) (a1 : UInt8) (r2 : Bool) (H : lc F a1 = some r2) : ACalls Tryz.prog 134 [u8 a1] [] (Ret (B r2) []) := by
 unfold lc at H
 refine aw Tryz.func134 rfl rfl ?_;show AW _ _ 6 _ _ _;refine af <| ab ?_;show AR _ _ _ _ _ [0] _;refine za rfl <| ai <| af <| ab ?_;show AR _ _ _ _ _ [0, 1, 2, 3] _;refine zm rfl <| zS rfl (g_shr8 (n := 6) rfl rfl rfl) <| zS rfl (dt (a := Go.Av.shr8 a1 6) (b := 2) rfl rfl) <| za rfl <| ai <| aP ?_;obtain rfl := ak H;exact And.intro rfl (Exists.intro _ (Exists.intro _ ⟨aV rfl (.refl _), aO [] rfl, rfl, rfl⟩))
set_option maxRecDepth 100000 in
set_option maxHeartbeats 1000000 in
theorem sI (F : Nat) (a1 : List UInt8) (r2 : Int) (H : lG F a1 = some r2) : ACalls Tryz.prog 113 [S a1] [] (Ret (i64 r2) []) := by
 unfold lG at H
 refine aw Tryz.func113 rfl rfl ?_;show AW _ _ 22 _ _ _;refine af <| ab ?_;show AR _ _ _ _ _ [0] _;refine za rfl <| ai <| af <| af <| ab ?_;show AR _ _ _ _ _ [0, 1, 2] _;refine zm rfl <| zS rfl (aX ac rfl) <| zS rfl (dd rfl rfl) <| ai <| aD rfl (fun c3 => ?_) (fun c3 => ?_)
 ·replace H := aZ c3 H;refine af <| ab ?_;show AR _ _ _ _ _ [0, 1, 2] _;refine zm rfl <| zS rfl (aX ac rfl) <| za rfl <| ai <| aP ?_;obtain rfl := ak H;exact And.intro rfl (Exists.intro _ (Exists.intro _ ⟨aV rfl (.refl _), aO [] rfl, rfl, rfl⟩))
 ·replace H := ba c3 H;refine aF <| af <| ab ?_;show AR _ _ _ _ _ [0] _;refine za rfl <| ai <| bx (X := Int) (fun y15 => ⟨[(3, i64 y15)], [], []⟩) (fun y15 => jr y15 = some r2) ?_ ?_
  ·refine aJ <| bE (X := Nat × Int) (fun (n6, y4) => ⟨[(0, S a1), (3, i64 y4)], [], []⟩) (fun (n6, y4) => js F a1 n6 y4 = some r2) (fun (n6, y4) => n6) (F, 45) H (aU [] (.cons (.refl _) (.cons (.refl _) (.nil _))) rfl) ?_;rintro ⟨n6, y4⟩ H;obtain ⟨n6, rfl, H⟩ := bX H;replace H : jt F a1 (js F a1 n6) y4 = some r2 := H
   unfold jt at H
   refine af <| af ?_;obtain ⟨g8, H⟩ := cb H;obtain ⟨x9, e10, H⟩ := bb H;obtain ⟨x11, e12, H⟩ := qf H;refine ab ?_;show AR _ _ _ _ _ [0, 1, 2, 3, 4, 5, 6, 7] _;refine zm rfl <| zS rfl (cN rfl rfl) <| zm rfl <| aQ (l := []) 16 (B ((decide (41 < y4)) && x11)) (fun K => ?_) ?_
   ·rcases ah (decide (41 < y4)) with h7 | h7
    ·refine zM h7 rfl <| zM h7 rfl <| zU h7 rfl (bo ac rfl rfl (g8 h7) e10) <| zT h7 rfl (aW rfl tj rfl (qw F x9 x11 (e12 h7)) ?_);refine zS rfl (ax (av := .v _) rfl h7 rfl) ?_;exact K _ 4 _ (an (cc h7)) rfl rfl
    ·refine zF h7 rfl <| zF h7 rfl <| zF h7 rfl <| zF h7 rfl <| zS rfl (ay (av := .v _) rfl h7 rfl) ?_;exact K _ 4 _ (an (cd h7)) rfl rfl
   refine ai <| aD rfl (fun c13 => ?_) (fun c13 => ?_)
   ·replace H := aZ c13 H;refine aF <| aJ ?_;obtain ⟨g14, H⟩ := az H;refine ab ?_;show AR _ _ _ _ _ [0, 1, 2] _;refine zm rfl <| zS rfl (jz rfl rfl g14) <| za rfl <| ai ?_;exact Exists.intro (n6, y4 - 1) ⟨H, Nat.lt_succ_self _, aU [] (.cons (.refl _) (.cons (.refl _) (.nil _))) rfl⟩
   ·replace H := ba c13 H;refine bz ?_;exact Exists.intro y4 ⟨H, aU [] (.cons (.refl _) (.nil _)) rfl⟩
  rintro y15 H;replace H : jr y15 = some r2 := H
  unfold jr at H
  refine af <| af <| ab ?_;show AR _ _ _ _ _ [0, 1] _;refine zm rfl <| zS rfl (dm rfl rfl) <| ai <| aD rfl (fun c17 => ?_) (fun c17 => ?_)
  ·replace H := aZ c17 H;refine af <| ab ?_;show AR _ _ _ _ _ [0] _;refine za rfl <| ai <| aP ?_;obtain rfl := ak H;exact And.intro rfl (Exists.intro _ (Exists.intro _ ⟨aV rfl (.refl _), aO [] rfl, rfl, rfl⟩))
  ·replace H := ba c17 H;refine aF <| af <| ab ?_;show AR _ _ _ _ _ [0, 1] _;refine zm rfl <| za rfl <| ai <| aP ?_;obtain rfl := ak H;exact And.intro rfl (Exists.intro _ (Exists.intro _ ⟨aV rfl (.refl _), aO [] rfl, rfl, rfl⟩))
set_option maxRecDepth 100000 in
set_option maxHeartbeats 1000000 in
theorem qu (F : Nat) {σ τ : Type} (T : σ → τ → List Chunk) (k : σ → (List UInt8) → Option (σ × Bool)) (o : Nat) (hY : ∀ (s : σ) (t : τ) (x : List UInt8) (rv : σ × Bool), k s x = some rv → mZ Tryz.prog o [S x] (T s t) fun ae A' => ∃ t', ae = .ret (.v (.bool rv.2)) ∧ A' = T rv.1 t') (st0 : σ) (tt0 : τ) (o1 : Nat) (a2 : List UInt8) (rs : σ) (r3 : List UInt8) (H : kg F k st0 a2 = some (rs, r3)) : ACalls Tryz.prog 110 [.yl o, .pt o1 0] ([.obj o1 [S a2]] ++ T st0 tt0) (fun e A' => ∃ tz, e = .ret (.tup []) ∧ A' = [.obj o1 [S r3]] ++ T rs tz) := by
 unfold kg at H
 refine aw Tryz.func110 rfl rfl ?_;show AW _ _ 37 _ _ _;refine bx (X := Unit) (fun _ => ⟨[(0, .yl o), (1, .pt o1 0)], [], ([.obj o1 [S a2]] ++ T st0 tt0)⟩) (fun _ => iU F a2 k st0 = some (rs, r3)) ?_ ?_
 ·refine af ?_;obtain ⟨x4, e5, H⟩ := cT H;refine ab ?_;show AR _ _ _ _ _ [0, 1] _;refine zR rfl (ao (i := 0) ac rfl rfl rfl rfl) <| ap rfl rfl (aW rfl tB rfl (rE F a2 x4 e5) ?_);refine ai <| aD rfl (fun c6 => ?_) (fun c6 => ?_)
  ·replace H := aZ c6 H;refine af <| af ?_;obtain ⟨g7, H⟩ := az H;obtain ⟨g8, H⟩ := az H;obtain ⟨x9, e10, H⟩ := bb H;refine ab ?_;show AR _ _ _ _ _ [0, 1, 2, 3] _;refine zR rfl (ao (i := 0) ac rfl rfl rfl rfl) <| ap rfl rfl (aW rfl tA rfl (show ACalls _ _ _ [] (Ret (slE Enc.str x9 none) []) from by subst e10; exact xw a2 ([32] : List UInt8) (kU g7) (of_decide_eq_true g8)) ?_);refine zS rfl (aH aA rfl) <| zm rfl <| ai <| aJ <| bE (X := Nat × Int × σ × τ) (fun (n15, y11, y12, t13) => ⟨[(0, .yl o), (9, slE Enc.str x9 none), (10, i64 (x9.length : Int)), (11, i64 y11)], [], ([.obj o1 [S a2]] ++ T y12 t13)⟩) (fun (n15, y11, y12, t13) => ez a2 k x9 n15 (y11, y12) = some (rs, r3)) (fun (n15, y11, y12, t13) => n15) (F, 0, st0, tt0) H (WK.atT 1 [0] (.cons (.refl _) (.cons (.refl _) (.cons (.refl _) (.cons (.refl _) (.nil _))))) rfl) ?_;rintro ⟨n15, y11, y12, t13⟩ H;obtain ⟨n15, rfl, H⟩ := bX H;replace H : fU a2 k x9 (ez a2 k x9 n15) y11 y12 = some (rs, r3) := H
   unfold fU at H
   refine af <| ab ?_;show AR _ _ _ _ _ [0] _;refine zS rfl (bB rfl rfl) <| ai <| af <| aD rfl (fun c16 => ?_) (fun c16 => ?_)
   ·replace H := aZ c16 H;refine aF <| af <| aJ <| af ?_;obtain ⟨g17, H⟩ := az H;obtain ⟨x18, e19, H⟩ := bb H;refine ab ?_;show AR _ _ _ _ _ [0, 1, 2] _;refine zS rfl (aY (E := Enc.str) aA (by kernel_rfl) rfl rfl g17 e19) <| zS rfl (aL ac rfl rfl) <| za rfl <| ai <| af ?_;obtain ⟨x20, x21, e22, H⟩ := eK H;refine ab ?_;show AR _ _ _ _ _ [0, 1, 2, 3] _;refine zS rfl (ag (av := .yl _) rfl) <| zm rfl <| ap rfl rfl (AO.yieldT (s' := x20) (b := x21) 1 rfl rfl rfl (hY _ _ _ _ e22) fun t23 => ?_);show AR _ _ _ _ _ _ ⟨_, _, ([.obj o1 [S a2]] ++ T x20 t23)⟩;refine zS rfl (cx rfl) <| ai <| aD rfl (fun c24 => ?_) (fun c24 => ?_)
    ·replace H := aZ c24 H;refine aP ?_;obtain ⟨rfl, rfl⟩ := fX H;exact And.intro rfl (Exists.intro _ (Exists.intro _ ⟨dJ rfl, Sub.atT 1 [0] rfl, t23, rfl, rfl⟩))
    ·replace H := ba c24 H;refine aF ?_;obtain ⟨g25, H⟩ := az H;refine ab ?_;show AR _ _ _ _ _ [0, 1] _;refine zS rfl (bk rfl rfl g25) <| zm rfl <| ai ?_;exact Exists.intro (n15, y11 + 1, x20, t23) ⟨H, Nat.lt_succ_self _, WK.atT 1 [0] (.cons (.refl _) (.cons (.refl _) (.cons (.refl _) (.cons (.refl _) (.nil _))))) rfl⟩
   ·replace H := ba c16 H;refine bz <| aP ?_;obtain ⟨rfl, rfl⟩ := fX H;exact And.intro rfl (Exists.intro _ (Exists.intro _ ⟨dJ rfl, Sub.atT 1 [0] rfl, t13, rfl, rfl⟩))
  ·replace H := ba c6 H;refine aF ?_;exact Exists.intro () ⟨H, WK.atT 1 [0] (.cons (.refl _) (.cons (.refl _) (.nil _))) rfl⟩
 rintro _ H;replace H : iU F a2 k st0 = some (rs, r3) := H
 unfold iU at H
 refine aJ <| bE (X := Nat × (List UInt8) × σ × τ) (fun (n31, y27, y28, t29) => ⟨[(0, .yl o), (1, .pt o1 0)], [], ([.obj o1 [S y27]] ++ T y28 t29)⟩) (fun (n31, y27, y28, t29) => eA F k n31 (y27, y28) = some (rs, r3)) (fun (n31, y27, y28, t29) => n31) (F, a2, st0, tt0) H (WK.atT 1 [0] (.cons (.refl _) (.cons (.refl _) (.nil _))) rfl) ?_;rintro ⟨n31, y27, y28, t29⟩ H;obtain ⟨n31, rfl, H⟩ := bX H;replace H : fV F k (eA F k n31) y27 y28 = some (rs, r3) := H
 unfold fV at H
 refine af <| af <| ab ?_;show AR _ _ _ _ _ [0, 1] _;refine zR rfl (ao (i := 0) ac rfl rfl rfl rfl) <| zS rfl (eb rfl rfl) <| ai <| aD rfl (fun c32 => ?_) (fun c32 => ?_)
 ·replace H := aZ c32 H;refine aF <| aJ <| af ?_;obtain ⟨x33, e34, H⟩ := cT H;refine ab ?_;show AR _ _ _ _ _ [0, 1, 2] _;refine zR rfl (ao (i := 0) ac rfl rfl rfl rfl) <| ap rfl rfl (aW rfl tx rfl (sI F y27 x33 e34) ?_);refine za rfl <| ai <| af <| af ?_;obtain ⟨g35, H⟩ := az H;obtain ⟨x36, e37, H⟩ := bb H;obtain ⟨g38, H⟩ := az H;obtain ⟨x40, e41, H⟩ := cT H;obtain ⟨g42, H⟩ := az H;obtain ⟨x43, e44, H⟩ := bb H;obtain ⟨g45, H⟩ := az H;obtain ⟨x46, e47, H⟩ := bb H;obtain ⟨x48, x49, e50, H⟩ := eK H;refine ab ?_;show AR _ _ _ _ _ [0, 1, 2, 3, 4, 5, 6, 7, 8, 9] _;refine zS rfl (ag (av := .yl _) rfl) <| zR rfl (ao (i := 0) ac rfl rfl rfl rfl) <| zm rfl <| zS rfl (pU ac rfl rfl g35 e37) <| zX rfl (cQ (bytes := 1) ac aa au rfl g38) ?_;rintro _ _ ⟨t39, rfl, rfl⟩;refine ap rfl rfl (aW rfl tw rfl (qN F x36 (some t39) x40 e41) ?_);refine zS rfl (cE rfl rfl g42 e44) <| zS rfl (cE rfl rfl g45 e47) <| ap rfl rfl (AO.yieldT (s' := x48) (b := x49) 2 rfl rfl rfl (hY _ _ _ _ e50) fun t51 => ?_);show AR _ _ _ _ _ _ ⟨_, _, ([.tok t39 5, .obj o1 [S y27]] ++ T x48 t51)⟩;refine zS rfl (cx rfl) <| ai <| aD rfl (fun c52 => ?_) (fun c52 => ?_)
  ·replace H := aZ c52 H;refine aP ?_;obtain ⟨rfl, rfl⟩ := fX H;exact And.intro rfl (Exists.intro _ (Exists.intro _ ⟨dJ rfl, Sub.atT 2 [1] rfl, t51, rfl, rfl⟩))
  ·replace H := ba c52 H;refine aF ?_;obtain ⟨g53, H⟩ := az H;obtain ⟨x54, e55, H⟩ := bb H;refine ab ?_;show AR _ _ _ _ _ [0, 1, 2, 3] _;refine zR rfl (ao (i := 1) ac rfl rfl rfl rfl) <| zm rfl <| zS rfl (kR ac rfl rfl g53 e55) <| s0 rfl rfl (aB (i := 1) (c := .v _) (by kernel_rfl) rfl rfl rfl rfl (aj rfl)) <| ai ?_;exact Exists.intro (n31, x54, x48, t51) ⟨H, Nat.lt_succ_self _, WK.atT 2 [1] (.cons (.refl _) (.cons (.refl _) (.nil _))) rfl⟩
 ·replace H := ba c32 H;refine bz ?_;obtain ⟨rfl, rfl⟩ := fX H;exact And.intro rfl (Exists.intro _ (Exists.intro _ ⟨dJ rfl, Sub.atT 1 [0] rfl, t29, rfl, rfl⟩))
set_option maxRecDepth 100000 in
set_option maxHeartbeats 1000000 in
theorem rt (F : Nat) (a1 : List UInt8) (H : lS F a1 = some ()) : ACalls Tryz.prog 90 [S a1] [] (fun e A' => ∃ ob1 : Nat, e = .ret (.fn (.func 110) [] [.pt ob1 0]) ∧ A' = [.obj ob1 [S a1]]) := by
 unfold lS at H
 refine aw Tryz.func90 rfl rfl ?_;show AW _ _ 4 _ _ _;refine af <| ab ?_;show AR _ _ _ _ _ [0, 1] _;refine zX rfl (sa rfl (.inl rfl)) ?_;rintro _ _ ⟨o2, rfl, rfl⟩;refine za rfl <| ai <| af <| ab ?_;show AR _ _ _ _ _ [0, 1] _;refine zS rfl (lO rfl rfl) <| zS rfl (am (av := .fn _ _ _) rfl) <| ai <| aP ?_;exact And.intro rfl (Exists.intro _ (Exists.intro _ ⟨aV rfl (.refl _), aO [0] rfl, o2, rfl, rfl⟩))
set_option maxRecDepth 100000 in
set_option maxHeartbeats 1000000 in
theorem ot (F : Nat) (a1 : List UInt8) (a2 : List UInt8) (r3 : List UInt8) (r4 : Int) (H : iM F a1 a2 = some (r3, r4)) : ACalls Tryz.prog 69 [.agg [S a1, S a2]] [] (Ret (.tup [slE Enc.byte r3 none, i64 r4]) []) := by
 unfold iM at H
 refine oP Tryz.func69 rfl rfl ?_;show AW _ _ 47 _ _ _;refine af <| ab ?_;show AR _ _ _ _ _ [0, 1, 2] _;refine zR rfl (qV rfl (.inr ⟨_, rfl⟩)) <| za rfl <| za rfl <| ai <| af <| af ?_;obtain ⟨x5, e6, H⟩ := cT H;refine ab ?_;show AR _ _ _ _ _ [0, 1, 2, 3, 4, 5, 6, 7, 8, 9] _;refine zS rfl (co (n := 0) (by kernel_rfl) rfl (aj rfl)) <| zS rfl (aL ac rfl rfl) <| ap rfl rfl (aW rfl uW rfl (sJ F a1 x5 e6) ?_);refine zS rfl (cx rfl) <| zm rfl <| aQ (l := []) 16 (B ((!x5) || (decide (4000 < (a2.length : Int))))) (fun K => ?_) ?_
 ·rcases ah (!x5) with h7 | h7
  ·refine zF h7 rfl <| zF h7 rfl <| zF h7 rfl <| zF h7 rfl <| zS rfl (ax (av := .v _) rfl h7 rfl) ?_;exact K _ 4 _ (an (dC h7)) rfl rfl
  ·refine zU h7 rfl (co (n := 1) (by kernel_rfl) rfl (aj rfl)) <| zU h7 rfl (aL ac rfl rfl) <| zU h7 rfl (aX ac rfl) <| zU h7 rfl (cN rfl rfl) <| zS rfl (ay (av := .v _) rfl h7 rfl) ?_;exact K _ 4 _ (an (dD h7)) rfl rfl
 refine ai <| aD rfl (fun c8 => ?_) (fun c8 => ?_)
 ·replace H := aZ c8 H;refine af <| ab ?_;show AR _ _ _ _ _ [0, 1] _;refine za rfl <| za rfl <| ai <| aP ?_;obtain ⟨rfl, rfl⟩ := fX H;exact Exists.intro _ (And.intro (.nil _) (Exists.intro _ (Exists.intro _ ⟨bH rfl (.nil _) (.refl _), aO [] rfl, rfl, rfl⟩)))
 ·replace H := ba c8 H;refine aF <| af ?_;obtain ⟨g9, H⟩ := az H;obtain ⟨x10, e11, H⟩ := bb H;obtain ⟨g12, H⟩ := az H;refine ab ?_;show AR _ _ _ _ _ [0, 1, 2, 3, 4, 5] _;refine zS rfl (co (n := 0) (by kernel_rfl) rfl (aj rfl)) <| zS rfl (aL ac rfl rfl) <| zS rfl (cE rfl rfl g9 e11) <| zX rfl (cQ (bytes := 1) ac aa au rfl g12) ?_;rintro _ _ ⟨t13, rfl, rfl⟩;refine zX rfl (de (zs := [.slice none 0 0]) (by kernel_rfl)) ?_;rintro _ _ ⟨o14, rfl, rfl⟩;refine s0 rfl rfl (aB (i := 0) (c := slE _ _ _) (by kernel_rfl) rfl rfl rfl rfl (aj rfl)) <| ai <| af <| ab ?_;show AR _ _ _ _ _ [0, 1, 2, 3] _;refine zR rfl (ao (i := 0) aa rfl rfl rfl rfl) <| zS rfl (aH aa rfl) <| zX rfl (de (zs := [.int .i64 0]) (by kernel_rfl)) ?_;rintro _ _ ⟨o15, rfl, rfl⟩;refine s0 rfl rfl (aB (i := 0) (c := .v _) (by kernel_rfl) rfl rfl rfl rfl (aj rfl)) <| ai <| bx (X := Nat × (List UInt8) × Nat) (fun (t65, y66, t67) => ⟨[(4, .pt o14 0)], [.mark t65], [.obj o14 [slE Enc.byte y66 (some t67)], .tok t67 5, .db t65]⟩) (fun (t65, y66, t67) => ju y66 = some (r3, r4)) ?_ ?_
  ·refine af ?_;obtain ⟨_, e16, H⟩ := cT H;refine ab ?_;show AR _ _ _ _ _ [0, 1, 2] _;refine zS rfl (co (n := 1) (by kernel_rfl) rfl (aj rfl)) <| zS rfl (aL ac rfl rfl) <| ap rfl rfl (AO.callAt [] rfl uV rfl (rt F a2 e16) rfl (fun c A' h => by obtain ⟨_, h, _⟩ := h; cases h) ?_)
   rintro av A' ⟨o17, h, rfl⟩; cases h
   refine ai <| aJ ?_;obtain ⟨x60, x61, e62, H⟩ := eK H;refine AW.rangeK (α := List UInt8) (σ := Int × (List UInt8)) (τ := Nat) (fun x => [S x]) (fun s t => [.obj o15 [i64 s.1], .obj o14 [slE Enc.byte s.2 (some t)], .tok t 5]) (fun _ => none) (fun s x => dT s.1 s.2 x) ((x10.length : Int), x10) t13 x60 [0] [0, 0, 0] rfl tC (fun _ => rfl) (by decide) rfl rfl rfl (fun o T' hY => qu F T' _ o hY _ _ o17 a2 x60 x61 e62) ?_ ?_
   ·rintro l ⟨y18, y19⟩ t20 x22 rv H;replace H : dT y18 y19 x22 = some rv := H
    unfold dT at H
    refine ⟨rfl, ?_⟩;show AW _ _ _ _ _ ⟨(26, S x22) :: _, [], _⟩;refine ab ?_;show AR _ _ _ _ _ [0] _;refine za rfl <| ai <| aJ <| bx (X := Int × (List UInt8) × Nat) (fun (y30, y31, t32) => ⟨[(4, .pt o14 0), (5, .pt o15 0), (6, S x22)], [], [.obj o15 [i64 y30], .obj o14 [slE Enc.byte y31 (some t32)], .tok t32 5]⟩) (fun (y30, y31, t32) => gp x22 y30 y31 = some rv) ?_ ?_
    ·refine af ?_;obtain ⟨g23, H⟩ := az H;obtain ⟨g24, H⟩ := az H;refine ab ?_;show AR _ _ _ _ _ [0, 1, 2, 3, 4, 5] _;refine zR rfl (ao (i := 0) bm rfl rfl rfl rfl) <| zS rfl (bk rfl rfl g23) <| zm rfl <| zS rfl (aX ac rfl) <| zS rfl (bk rfl rfl g24) <| zS rfl (cN rfl rfl) <| ai <| aD rfl (fun c25 => ?_) (fun c25 => ?_)
     ·replace H := aZ c25 H;obtain ⟨g27, H⟩ := az H;obtain ⟨x28, e29, H⟩ := bb H;refine ab ?_;show AR _ _ _ _ _ [0, 1, 2, 3] _;refine zR rfl (ao (i := 1) aa rfl rfl rfl rfl) <| zX rfl (bi (bytes := 1) 2 aa ac rfl (by kernel_rfl) rfl rfl rfl rfl g27 e29) ?_;rintro _ _ ⟨t26, rfl, rfl⟩;refine s0 rfl rfl (aB (i := 1) (c := slE _ _ _) (by kernel_rfl) rfl rfl rfl rfl (aj rfl)) <| s0 rfl rfl (aB (i := 0) (c := .v _) (by kernel_rfl) rfl rfl rfl rfl (aj rfl)) <| ai ?_;exact Exists.intro (0, x28, t26) ⟨H, aU [0, 0, 0] (.cons (.refl _) (.cons (.refl _) (.cons (.refl _) (.nil _)))) rfl⟩
     ·replace H := ba c25 H;refine aF ?_;exact Exists.intro (y18, y19, t20) ⟨H, aU [0, 0, 0] (.cons (.refl _) (.cons (.refl _) (.cons (.refl _) (.nil _)))) rfl⟩
    rintro ⟨y30, y31, t32⟩ H;replace H : gp x22 y30 y31 = some rv := H
    unfold gp at H
    obtain ⟨g35, H⟩ := az H;obtain ⟨x36, e37, H⟩ := bb H;obtain ⟨g39, H⟩ := az H;obtain ⟨x40, e41, H⟩ := bb H;obtain ⟨g42, H⟩ := az H;obtain ⟨g43, H⟩ := az H;refine oO (by kernel_rfl) (by kernel_rfl) ?_;show AI _ _ _ _ _ 12 (Array.replicate 12 false) _;refine zk 3 rfl (mv rfl) ?_;show AI _ _ _ _ _ _ #[false, false, false, true, false, false, false, false, false, false, false, false] _;refine zk 7 rfl (mv rfl) ?_;show AI _ _ _ _ _ _ #[false, false, false, true, false, false, false, true, false, false, false, false] _;refine zk 8 rfl (aX ac rfl) ?_;show AI _ _ _ _ _ _ #[false, false, false, true, false, false, false, true, true, false, false, false] _;refine AI.three (i := 0) (j := 1) (l := 5) (by kernel_rfl) rfl rfl rfl rfl rfl rfl ?_ ?_ ?_
    ·refine be rfl (ao (i := 1) aa rfl rfl rfl rfl) ?_;show AI _ _ _ _ _ _ #[true, false, false, true, false, false, false, true, true, false, false, false] _;refine dw (i := 1) (j := 5) (by kernel_rfl) rfl rfl rfl rfl ?_ ?_
     ·refine be rfl (bh (E := Enc.byte) (bytes := 1) (xs := [.const _]) (l := ([32] : List UInt8)) aa (by kernel_rfl) rfl rfl (by decide) rfl rfl) ?_;show AI _ _ _ _ _ _ #[true, true, false, true, false, false, false, true, true, false, false, false] _;refine dw (i := 2) (j := 5) (by kernel_rfl) rfl rfl rfl rfl ?_ ?_
      ·refine bS rfl (bA (E := Enc.byte) (bytes := 1) 2 aa aa rfl (by kernel_rfl) rfl rfl rfl rfl g35 e37) ?_;rintro _ _ ⟨t34, rfl, rfl⟩;show AI _ _ _ _ _ _ #[true, true, true, true, false, false, false, true, true, false, false, false] _;refine dw (i := 4) (j := 5) (by kernel_rfl) rfl rfl rfl rfl ?_ ?_
       ·refine bS rfl (bi (bytes := 1) 2 aa ac rfl (by kernel_rfl) rfl rfl rfl rfl g39 e41) ?_;rintro _ _ ⟨t38, rfl, rfl⟩;show AI _ _ _ _ _ _ #[true, true, true, true, true, false, false, true, true, false, false, false] _;refine dw (i := 5) (j := 10) (by kernel_rfl) rfl rfl rfl rfl ?_ ?_
        ·refine be rfl (ao (i := 0) bm rfl rfl rfl rfl) ?_;show AI _ _ _ _ _ _ #[true, true, true, true, true, true, false, true, true, false, false, false] _;refine zk 6 rfl (bk rfl rfl g42) ?_;show AI _ _ _ _ _ _ #[true, true, true, true, true, true, true, true, true, false, false, false] _;refine zk 9 rfl (bk rfl rfl g43) ?_;show AI _ _ _ _ _ _ #[true, true, true, true, true, true, true, true, true, true, false, false] _;refine bf (i := 10) (by kernel_rfl) rfl rfl <| ck (aB (i := 1) (c := slE _ _ _) (by kernel_rfl) rfl rfl rfl rfl (aj rfl)) ?_;show AI _ _ _ _ _ _ #[true, true, true, true, true, true, true, true, true, true, true, false] _;refine bf (i := 11) (by kernel_rfl) rfl rfl <| ck (aB (i := 0) (c := .v _) (by kernel_rfl) rfl rfl rfl rfl (aj rfl)) ?_;show AI _ _ _ _ _ _ #[true, true, true, true, true, true, true, true, true, true, true, true] _;refine bN rfl ?_;obtain rfl := ak H;exact ⟨rfl, rfl, t38, aO [0, 0, 0] rfl⟩
        ·refine ck (aB (i := 1) (c := slE _ _ _) (by kernel_rfl) rfl rfl rfl rfl (aj rfl)) ?_;show AI _ _ _ _ _ _ #[true, true, true, true, true, false, false, true, true, false, true, false] _;refine bf (i := 5) (by kernel_rfl) rfl rfl <| be rfl (ao (i := 0) bm rfl rfl rfl rfl) ?_;show AI _ _ _ _ _ _ #[true, true, true, true, true, true, false, true, true, false, true, false] _;refine zk 6 rfl (bk rfl rfl g42) ?_;show AI _ _ _ _ _ _ #[true, true, true, true, true, true, true, true, true, false, true, false] _;refine zk 9 rfl (bk rfl rfl g43) ?_;show AI _ _ _ _ _ _ #[true, true, true, true, true, true, true, true, true, true, true, false] _;refine bf (i := 11) (by kernel_rfl) rfl rfl <| ck (aB (i := 0) (c := .v _) (by kernel_rfl) rfl rfl rfl rfl (aj rfl)) ?_;show AI _ _ _ _ _ _ #[true, true, true, true, true, true, true, true, true, true, true, true] _;refine bN rfl ?_;obtain rfl := ak H;exact ⟨rfl, rfl, t38, aO [0, 0, 0] rfl⟩
       ·refine be rfl (ao (i := 0) bm rfl rfl rfl rfl) ?_;show AI _ _ _ _ _ _ #[true, true, true, true, false, true, false, true, true, false, false, false] _;refine zk 6 rfl (bk rfl rfl g42) ?_;show AI _ _ _ _ _ _ #[true, true, true, true, false, true, true, true, true, false, false, false] _;refine zk 9 rfl (bk rfl rfl g43) ?_;show AI _ _ _ _ _ _ #[true, true, true, true, false, true, true, true, true, true, false, false] _;refine bf (i := 4) (by kernel_rfl) rfl rfl <| bS rfl (bi (bytes := 1) 2 aa ac rfl (by kernel_rfl) rfl rfl rfl rfl g39 e41) ?_;rintro _ _ ⟨t44, rfl, rfl⟩;show AI _ _ _ _ _ _ #[true, true, true, true, true, true, true, true, true, true, false, false] _;refine bf (i := 10) (by kernel_rfl) rfl rfl <| ck (aB (i := 1) (c := slE _ _ _) (by kernel_rfl) rfl rfl rfl rfl (aj rfl)) ?_;show AI _ _ _ _ _ _ #[true, true, true, true, true, true, true, true, true, true, true, false] _;refine bf (i := 11) (by kernel_rfl) rfl rfl <| ck (aB (i := 0) (c := .v _) (by kernel_rfl) rfl rfl rfl rfl (aj rfl)) ?_;show AI _ _ _ _ _ _ #[true, true, true, true, true, true, true, true, true, true, true, true] _;refine bN rfl ?_;obtain rfl := ak H;exact ⟨rfl, rfl, t44, aO [0, 0, 0] rfl⟩
      ·refine be rfl (ao (i := 0) bm rfl rfl rfl rfl) ?_;show AI _ _ _ _ _ _ #[true, true, false, true, false, true, false, true, true, false, false, false] _;refine zk 6 rfl (bk rfl rfl g42) ?_;show AI _ _ _ _ _ _ #[true, true, false, true, false, true, true, true, true, false, false, false] _;refine zk 9 rfl (bk rfl rfl g43) ?_;show AI _ _ _ _ _ _ #[true, true, false, true, false, true, true, true, true, true, false, false] _;refine bf (i := 2) (by kernel_rfl) rfl rfl <| bS rfl (bA (E := Enc.byte) (bytes := 1) 2 aa aa rfl (by kernel_rfl) rfl rfl rfl rfl g35 e37) ?_;rintro _ _ ⟨t45, rfl, rfl⟩;show AI _ _ _ _ _ _ #[true, true, true, true, false, true, true, true, true, true, false, false] _;refine bf (i := 4) (by kernel_rfl) rfl rfl <| bS rfl (bi (bytes := 1) 2 aa ac rfl (by kernel_rfl) rfl rfl rfl rfl g39 e41) ?_;rintro _ _ ⟨t46, rfl, rfl⟩;show AI _ _ _ _ _ _ #[true, true, true, true, true, true, true, true, true, true, false, false] _;refine bf (i := 10) (by kernel_rfl) rfl rfl <| ck (aB (i := 1) (c := slE _ _ _) (by kernel_rfl) rfl rfl rfl rfl (aj rfl)) ?_;show AI _ _ _ _ _ _ #[true, true, true, true, true, true, true, true, true, true, true, false] _;refine bf (i := 11) (by kernel_rfl) rfl rfl <| ck (aB (i := 0) (c := .v _) (by kernel_rfl) rfl rfl rfl rfl (aj rfl)) ?_;show AI _ _ _ _ _ _ #[true, true, true, true, true, true, true, true, true, true, true, true] _
       refine bN rfl ?_;obtain rfl := ak H;exact ⟨rfl, rfl, t46, aO [0, 0, 0] rfl⟩
     ·refine be rfl (ao (i := 0) bm rfl rfl rfl rfl) ?_;show AI _ _ _ _ _ _ #[true, false, false, true, false, true, false, true, true, false, false, false] _;refine zk 6 rfl (bk rfl rfl g42) ?_;show AI _ _ _ _ _ _ #[true, false, false, true, false, true, true, true, true, false, false, false] _;refine zk 9 rfl (bk rfl rfl g43) ?_;show AI _ _ _ _ _ _ #[true, false, false, true, false, true, true, true, true, true, false, false] _;refine bf (i := 1) (by kernel_rfl) rfl rfl <| be rfl (bh (E := Enc.byte) (bytes := 1) (xs := [.const _]) (l := ([32] : List UInt8)) aa (by kernel_rfl) rfl rfl (by decide) rfl rfl) ?_;show AI _ _ _ _ _ _ #[true, true, false, true, false, true, true, true, true, true, false, false] _;refine bf (i := 2) (by kernel_rfl) rfl rfl <| bS rfl (bA (E := Enc.byte) (bytes := 1) 2 aa aa rfl (by kernel_rfl) rfl rfl rfl rfl g35 e37) ?_;rintro _ _ ⟨t47, rfl, rfl⟩;show AI _ _ _ _ _ _ #[true, true, true, true, false, true, true, true, true, true, false, false] _;refine bf (i := 4) (by kernel_rfl) rfl rfl <| bS rfl (bi (bytes := 1) 2 aa ac rfl (by kernel_rfl) rfl rfl rfl rfl g39 e41) ?_;rintro _ _ ⟨t48, rfl, rfl⟩;show AI _ _ _ _ _ _ #[true, true, true, true, true, true, true, true, true, true, false, false] _;refine bf (i := 10) (by kernel_rfl) rfl rfl <| ck (aB (i := 1) (c := slE _ _ _) (by kernel_rfl) rfl rfl rfl rfl (aj rfl)) ?_
      show AI _ _ _ _ _ _ #[true, true, true, true, true, true, true, true, true, true, true, false] _;refine bf (i := 11) (by kernel_rfl) rfl rfl <| ck (aB (i := 0) (c := .v _) (by kernel_rfl) rfl rfl rfl rfl (aj rfl)) ?_;show AI _ _ _ _ _ _ #[true, true, true, true, true, true, true, true, true, true, true, true] _;refine bN rfl ?_;obtain rfl := ak H;exact ⟨rfl, rfl, t48, aO [0, 0, 0] rfl⟩
    ·refine be rfl (bh (E := Enc.byte) (bytes := 1) (xs := [.const _]) (l := ([32] : List UInt8)) aa (by kernel_rfl) rfl rfl (by decide) rfl rfl) ?_;show AI _ _ _ _ _ _ #[false, true, false, true, false, false, false, true, true, false, false, false] _;refine dw (i := 0) (j := 5) (by kernel_rfl) rfl rfl rfl rfl ?_ ?_
     ·refine be rfl (ao (i := 1) aa rfl rfl rfl rfl) ?_;show AI _ _ _ _ _ _ #[true, true, false, true, false, false, false, true, true, false, false, false] _;refine dw (i := 2) (j := 5) (by kernel_rfl) rfl rfl rfl rfl ?_ ?_
      ·refine bS rfl (bA (E := Enc.byte) (bytes := 1) 2 aa aa rfl (by kernel_rfl) rfl rfl rfl rfl g35 e37) ?_;rintro _ _ ⟨t49, rfl, rfl⟩;show AI _ _ _ _ _ _ #[true, true, true, true, false, false, false, true, true, false, false, false] _;refine dw (i := 4) (j := 5) (by kernel_rfl) rfl rfl rfl rfl ?_ ?_
       ·refine bS rfl (bi (bytes := 1) 2 aa ac rfl (by kernel_rfl) rfl rfl rfl rfl g39 e41) ?_;rintro _ _ ⟨t50, rfl, rfl⟩;show AI _ _ _ _ _ _ #[true, true, true, true, true, false, false, true, true, false, false, false] _;refine dw (i := 5) (j := 10) (by kernel_rfl) rfl rfl rfl rfl ?_ ?_
        ·refine be rfl (ao (i := 0) bm rfl rfl rfl rfl) ?_;show AI _ _ _ _ _ _ #[true, true, true, true, true, true, false, true, true, false, false, false] _;refine zk 6 rfl (bk rfl rfl g42) ?_;show AI _ _ _ _ _ _ #[true, true, true, true, true, true, true, true, true, false, false, false] _;refine zk 9 rfl (bk rfl rfl g43) ?_;show AI _ _ _ _ _ _ #[true, true, true, true, true, true, true, true, true, true, false, false] _;refine bf (i := 10) (by kernel_rfl) rfl rfl <| ck (aB (i := 1) (c := slE _ _ _) (by kernel_rfl) rfl rfl rfl rfl (aj rfl)) ?_;show AI _ _ _ _ _ _ #[true, true, true, true, true, true, true, true, true, true, true, false] _;refine bf (i := 11) (by kernel_rfl) rfl rfl <| ck (aB (i := 0) (c := .v _) (by kernel_rfl) rfl rfl rfl rfl (aj rfl)) ?_;show AI _ _ _ _ _ _ #[true, true, true, true, true, true, true, true, true, true, true, true] _;refine bN rfl ?_;obtain rfl := ak H;exact ⟨rfl, rfl, t50, aO [0, 0, 0] rfl⟩
        ·refine ck (aB (i := 1) (c := slE _ _ _) (by kernel_rfl) rfl rfl rfl rfl (aj rfl)) ?_;show AI _ _ _ _ _ _ #[true, true, true, true, true, false, false, true, true, false, true, false] _;refine bf (i := 5) (by kernel_rfl) rfl rfl <| be rfl (ao (i := 0) bm rfl rfl rfl rfl) ?_;show AI _ _ _ _ _ _ #[true, true, true, true, true, true, false, true, true, false, true, false] _;refine zk 6 rfl (bk rfl rfl g42) ?_;show AI _ _ _ _ _ _ #[true, true, true, true, true, true, true, true, true, false, true, false] _;refine zk 9 rfl (bk rfl rfl g43) ?_;show AI _ _ _ _ _ _ #[true, true, true, true, true, true, true, true, true, true, true, false] _;refine bf (i := 11) (by kernel_rfl) rfl rfl <| ck (aB (i := 0) (c := .v _) (by kernel_rfl) rfl rfl rfl rfl (aj rfl)) ?_;show AI _ _ _ _ _ _ #[true, true, true, true, true, true, true, true, true, true, true, true] _;refine bN rfl ?_;obtain rfl := ak H;exact ⟨rfl, rfl, t50, aO [0, 0, 0] rfl⟩
       ·refine be rfl (ao (i := 0) bm rfl rfl rfl rfl) ?_;show AI _ _ _ _ _ _ #[true, true, true, true, false, true, false, true, true, false, false, false] _;refine zk 6 rfl (bk rfl rfl g42) ?_;show AI _ _ _ _ _ _ #[true, true, true, true, false, true, true, true, true, false, false, false] _;refine zk 9 rfl (bk rfl rfl g43) ?_;show AI _ _ _ _ _ _ #[true, true, true, true, false, true, true, true, true, true, false, false] _;refine bf (i := 4) (by kernel_rfl) rfl rfl <| bS rfl (bi (bytes := 1) 2 aa ac rfl (by kernel_rfl) rfl rfl rfl rfl g39 e41) ?_;rintro _ _ ⟨t51, rfl, rfl⟩;show AI _ _ _ _ _ _ #[true, true, true, true, true, true, true, true, true, true, false, false] _;refine bf (i := 10) (by kernel_rfl) rfl rfl <| ck (aB (i := 1) (c := slE _ _ _) (by kernel_rfl) rfl rfl rfl rfl (aj rfl)) ?_;show AI _ _ _ _ _ _ #[true, true, true, true, true, true, true, true, true, true, true, false] _;refine bf (i := 11) (by kernel_rfl) rfl rfl <| ck (aB (i := 0) (c := .v _) (by kernel_rfl) rfl rfl rfl rfl (aj rfl)) ?_;show AI _ _ _ _ _ _ #[true, true, true, true, true, true, true, true, true, true, true, true] _;refine bN rfl ?_;obtain rfl := ak H;exact ⟨rfl, rfl, t51, aO [0, 0, 0] rfl⟩
      ·refine be rfl (ao (i := 0) bm rfl rfl rfl rfl) ?_;show AI _ _ _ _ _ _ #[true, true, false, true, false, true, false, true, true, false, false, false] _;refine zk 6 rfl (bk rfl rfl g42) ?_;show AI _ _ _ _ _ _ #[true, true, false, true, false, true, true, true, true, false, false, false] _;refine zk 9 rfl (bk rfl rfl g43) ?_;show AI _ _ _ _ _ _ #[true, true, false, true, false, true, true, true, true, true, false, false] _;refine bf (i := 2) (by kernel_rfl) rfl rfl <| bS rfl (bA (E := Enc.byte) (bytes := 1) 2 aa aa rfl (by kernel_rfl) rfl rfl rfl rfl g35 e37) ?_;rintro _ _ ⟨t52, rfl, rfl⟩;show AI _ _ _ _ _ _ #[true, true, true, true, false, true, true, true, true, true, false, false] _;refine bf (i := 4) (by kernel_rfl) rfl rfl <| bS rfl (bi (bytes := 1) 2 aa ac rfl (by kernel_rfl) rfl rfl rfl rfl g39 e41) ?_;rintro _ _ ⟨t53, rfl, rfl⟩;show AI _ _ _ _ _ _ #[true, true, true, true, true, true, true, true, true, true, false, false] _;refine bf (i := 10) (by kernel_rfl) rfl rfl <| ck (aB (i := 1) (c := slE _ _ _) (by kernel_rfl) rfl rfl rfl rfl (aj rfl)) ?_;show AI _ _ _ _ _ _ #[true, true, true, true, true, true, true, true, true, true, true, false] _;refine bf (i := 11) (by kernel_rfl) rfl rfl <| ck (aB (i := 0) (c := .v _) (by kernel_rfl) rfl rfl rfl rfl (aj rfl)) ?_;show AI _ _ _ _ _ _ #[true, true, true, true, true, true, true, true, true, true, true, true] _
       refine bN rfl ?_;obtain rfl := ak H;exact ⟨rfl, rfl, t53, aO [0, 0, 0] rfl⟩
     ·refine be rfl (ao (i := 0) bm rfl rfl rfl rfl) ?_;show AI _ _ _ _ _ _ #[false, true, false, true, false, true, false, true, true, false, false, false] _;refine zk 6 rfl (bk rfl rfl g42) ?_;show AI _ _ _ _ _ _ #[false, true, false, true, false, true, true, true, true, false, false, false] _;refine zk 9 rfl (bk rfl rfl g43) ?_;show AI _ _ _ _ _ _ #[false, true, false, true, false, true, true, true, true, true, false, false] _;refine bf (i := 0) (by kernel_rfl) rfl rfl <| be rfl (ao (i := 1) aa rfl rfl rfl rfl) ?_;show AI _ _ _ _ _ _ #[true, true, false, true, false, true, true, true, true, true, false, false] _;refine bf (i := 2) (by kernel_rfl) rfl rfl <| bS rfl (bA (E := Enc.byte) (bytes := 1) 2 aa aa rfl (by kernel_rfl) rfl rfl rfl rfl g35 e37) ?_;rintro _ _ ⟨t54, rfl, rfl⟩;show AI _ _ _ _ _ _ #[true, true, true, true, false, true, true, true, true, true, false, false] _;refine bf (i := 4) (by kernel_rfl) rfl rfl <| bS rfl (bi (bytes := 1) 2 aa ac rfl (by kernel_rfl) rfl rfl rfl rfl g39 e41) ?_;rintro _ _ ⟨t55, rfl, rfl⟩;show AI _ _ _ _ _ _ #[true, true, true, true, true, true, true, true, true, true, false, false] _;refine bf (i := 10) (by kernel_rfl) rfl rfl <| ck (aB (i := 1) (c := slE _ _ _) (by kernel_rfl) rfl rfl rfl rfl (aj rfl)) ?_;show AI _ _ _ _ _ _ #[true, true, true, true, true, true, true, true, true, true, true, false] _
      refine bf (i := 11) (by kernel_rfl) rfl rfl <| ck (aB (i := 0) (c := .v _) (by kernel_rfl) rfl rfl rfl rfl (aj rfl)) ?_;show AI _ _ _ _ _ _ #[true, true, true, true, true, true, true, true, true, true, true, true] _;refine bN rfl ?_;obtain rfl := ak H;exact ⟨rfl, rfl, t55, aO [0, 0, 0] rfl⟩
    ·refine be rfl (ao (i := 0) bm rfl rfl rfl rfl) ?_;show AI _ _ _ _ _ _ #[false, false, false, true, false, true, false, true, true, false, false, false] _;refine zk 6 rfl (bk rfl rfl g42) ?_;show AI _ _ _ _ _ _ #[false, false, false, true, false, true, true, true, true, false, false, false] _;refine zk 9 rfl (bk rfl rfl g43) ?_;show AI _ _ _ _ _ _ #[false, false, false, true, false, true, true, true, true, true, false, false] _;refine dw (i := 0) (j := 1) (by kernel_rfl) rfl rfl rfl rfl ?_ ?_
     ·refine be rfl (ao (i := 1) aa rfl rfl rfl rfl) ?_;show AI _ _ _ _ _ _ #[true, false, false, true, false, true, true, true, true, true, false, false] _;refine bf (i := 1) (by kernel_rfl) rfl rfl <| be rfl (bh (E := Enc.byte) (bytes := 1) (xs := [.const _]) (l := ([32] : List UInt8)) aa (by kernel_rfl) rfl rfl (by decide) rfl rfl) ?_;show AI _ _ _ _ _ _ #[true, true, false, true, false, true, true, true, true, true, false, false] _;refine bf (i := 2) (by kernel_rfl) rfl rfl <| bS rfl (bA (E := Enc.byte) (bytes := 1) 2 aa aa rfl (by kernel_rfl) rfl rfl rfl rfl g35 e37) ?_;rintro _ _ ⟨t56, rfl, rfl⟩;show AI _ _ _ _ _ _ #[true, true, true, true, false, true, true, true, true, true, false, false] _;refine bf (i := 4) (by kernel_rfl) rfl rfl <| bS rfl (bi (bytes := 1) 2 aa ac rfl (by kernel_rfl) rfl rfl rfl rfl g39 e41) ?_;rintro _ _ ⟨t57, rfl, rfl⟩;show AI _ _ _ _ _ _ #[true, true, true, true, true, true, true, true, true, true, false, false] _;refine bf (i := 10) (by kernel_rfl) rfl rfl <| ck (aB (i := 1) (c := slE _ _ _) (by kernel_rfl) rfl rfl rfl rfl (aj rfl)) ?_;show AI _ _ _ _ _ _ #[true, true, true, true, true, true, true, true, true, true, true, false] _;refine bf (i := 11) (by kernel_rfl) rfl rfl <| ck (aB (i := 0) (c := .v _) (by kernel_rfl) rfl rfl rfl rfl (aj rfl)) ?_
      show AI _ _ _ _ _ _ #[true, true, true, true, true, true, true, true, true, true, true, true] _;refine bN rfl ?_;obtain rfl := ak H;exact ⟨rfl, rfl, t57, aO [0, 0, 0] rfl⟩
     ·refine be rfl (bh (E := Enc.byte) (bytes := 1) (xs := [.const _]) (l := ([32] : List UInt8)) aa (by kernel_rfl) rfl rfl (by decide) rfl rfl) ?_;show AI _ _ _ _ _ _ #[false, true, false, true, false, true, true, true, true, true, false, false] _;refine bf (i := 0) (by kernel_rfl) rfl rfl <| be rfl (ao (i := 1) aa rfl rfl rfl rfl) ?_;show AI _ _ _ _ _ _ #[true, true, false, true, false, true, true, true, true, true, false, false] _;refine bf (i := 2) (by kernel_rfl) rfl rfl <| bS rfl (bA (E := Enc.byte) (bytes := 1) 2 aa aa rfl (by kernel_rfl) rfl rfl rfl rfl g35 e37) ?_;rintro _ _ ⟨t58, rfl, rfl⟩;show AI _ _ _ _ _ _ #[true, true, true, true, false, true, true, true, true, true, false, false] _;refine bf (i := 4) (by kernel_rfl) rfl rfl <| bS rfl (bi (bytes := 1) 2 aa ac rfl (by kernel_rfl) rfl rfl rfl rfl g39 e41) ?_;rintro _ _ ⟨t59, rfl, rfl⟩;show AI _ _ _ _ _ _ #[true, true, true, true, true, true, true, true, true, true, false, false] _;refine bf (i := 10) (by kernel_rfl) rfl rfl <| ck (aB (i := 1) (c := slE _ _ _) (by kernel_rfl) rfl rfl rfl rfl (aj rfl)) ?_;show AI _ _ _ _ _ _ #[true, true, true, true, true, true, true, true, true, true, true, false] _;refine bf (i := 11) (by kernel_rfl) rfl rfl <| ck (aB (i := 0) (c := .v _) (by kernel_rfl) rfl rfl rfl rfl (aj rfl)) ?_
      show AI _ _ _ _ _ _ #[true, true, true, true, true, true, true, true, true, true, true, true] _;refine bN rfl ?_;obtain rfl := ak H;exact ⟨rfl, rfl, t59, aO [0, 0, 0] rfl⟩
   rintro o64 t63;exact Exists.intro (o64, x60.2, t63) ⟨H, aU [3, 3, 0] (.cons (.refl _) (.nil _)) rfl⟩
  rintro ⟨t65, y66, t67⟩ H;replace H : ju y66 = some (r3, r4) := H
  unfold ju at H
  refine af ?_;obtain ⟨g70, H⟩ := az H;obtain ⟨x71, e72, H⟩ := bb H;refine ab ?_;show AR _ _ _ _ _ [0, 1, 2, 3] _;refine zR rfl (ao (i := 0) aa rfl rfl rfl rfl) <| zX rfl (bi (bytes := 1) 1 aa ac rfl (by kernel_rfl) rfl rfl rfl rfl g70 e72) ?_;rintro _ _ ⟨t69, rfl, rfl⟩;refine zS rfl (am (av := slE _ _ _) rfl) <| za rfl <| ai <| aP ?_;obtain ⟨rfl, rfl⟩ := fX H;exact Exists.intro _ (And.intro (Unmark.at 2 rfl (.nil _)) (Exists.intro _ (Exists.intro _ ⟨bH rfl (.tok _ _ _) (.refl _), aO [] rfl, rfl, rfl⟩)))
end Go.Proofs.YtdaafnaokdigbaaGreatDoor
namespace Go.Pv
def spB (x : Nat) : Bool := (decide ((x : Int) = 32) || decide ((x : Int) = 13)) || decide ((x : Int) = 10)
def tU (F : Nat) (a1 : Int) : Option Bool :=
some (((decide (a1 = 32)) || (decide (a1 = 13))) || (decide (a1 = 10)))
def kP (F : Nat) (a1 : List UInt8) : Option ((List UInt8) × Bool) :=
lt (Go.Lib.trimPrefix a1 ([61, 63, 117, 116, 102, 45, 56, 63, 66, 63] : List UInt8), Go.Lib.hasPrefix a1 ([61, 63, 117, 116, 102, 45, 56, 63, 66, 63] : List UInt8)) fun x4 =>
bif !x4.2 then
  some (([] : List UInt8), false)
else
  grd (okS x4.1.length) <|
  lt (Go.Lib.trimSuffix x4.1 ([63, 61] : List UInt8), Go.Lib.hasSuffix x4.1 ([63, 61] : List UInt8)) fun x8 =>
  kV (mR F x8.1) fun x10 x11 =>
  some (x10, x8.2 && (decide (x11 = 0)))
def ic (y29 : List UInt8) : Option ((List UInt8)) :=
grd (okW y29 []) <|
some y29
def ig (F : Nat) (a1 : List (List UInt8)) (rec10 : (Int × (List UInt8)) → Option ((List UInt8))) (y6 : Int) (y8 : List UInt8) : Option ((List UInt8)) :=
bif decide (y6 < (a1.length : Int)) then
  grd (bQ y6 a1.length) <|
  lt (at_ a1 y6) fun x14 =>
  kV (kP F x14) fun x16 x17 =>
  bif !x17 then
    grd (sq a1 ([32] : List UInt8)) <|
    lt (Go.Av.Str.join ([32] : List UInt8) a1) fun x21 =>
    some x21
  else
    grd (okW y8 x16) <|
    lt (y8 ++ x16) fun x24 =>
    grd (okI (y6 + 1)) <|
    rec10 (y6 + 1, x24)
else
  ic y8
def ie (F : Nat) (a1 : List (List UInt8)) (n : Nat) : (Int × (List UInt8)) → Option ((List UInt8)) :=
  loop (fun rec x => ig F a1 rec x.1 x.2) n
def lT (F : Nat) (a1 : List (List UInt8)) : Option ((List UInt8)) :=
ie F a1 F (0, [])
def lH (F : Nat) (a1 : List UInt8) : Option ((List UInt8) × (List UInt8) × Int) :=
grd (okS a1.length) <|
lt (Go.Lib.cut a1 ([58] : List UInt8)) fun x8 =>
grd (okS x8.2.1.length) <|
lt (nG spB x8.2.1) fun x11 =>
bnd (lT F x11) fun x13 =>
kV (iM F x8.1 x13) fun x16 x17 =>
lt (decide (x16 = a1)) fun x21 =>
bif ((!x8.2.2) || (!decide (x17 = 0))) || (!x21) then
  some (([] : List UInt8), ([] : List UInt8), 2)
else
  some (x8.1, x13, 0)
def iu (y26 : List ((List UInt8) × List UInt8)) : Option ((List ((List UInt8) × List UInt8)) × Int) :=
some (y26, 0)
def iw (F : Nat) (a1 : List (List UInt8)) (rec9 : ((List ((List UInt8) × List UInt8)) × Int) → Option ((List ((List UInt8) × List UInt8)) × Int)) (y6 : List ((List UInt8) × List UInt8)) (y8 : Int) : Option ((List ((List UInt8) × List UInt8)) × Int) :=
bif decide (y8 < (a1.length : Int)) then
  grd (bQ y8 a1.length) <|
  lt (at_ a1 y8) fun x13 =>
  nV (lH F x13) fun x15 x16 x17 =>
  bif !decide (x17 = 0) then
    some ([], x17)
  else
    grd (bw (y6.length + ([(x15, x16)] : List ((List UInt8) × List UInt8)).length)) <|
    lt (y6 ++ ([(x15, x16)] : List ((List UInt8) × List UInt8))) fun x23 =>
    grd (okI (y8 + 1)) <|
    rec9 (x23, y8 + 1)
else
  iu y6
def iv (F : Nat) (a1 : List (List UInt8)) (n : Nat) : ((List ((List UInt8) × List UInt8)) × Int) → Option ((List ((List UInt8) × List UInt8)) × Int) :=
  loop (fun rec x => iw F a1 rec x.1 x.2) n
def lY (F : Nat) (a1 : List (List UInt8)) : Option ((List ((List UInt8) × List UInt8)) × Int) :=
iv F a1 F ([], 0)
def ix (y25 : List (List UInt8)) : Option ((List (List UInt8)) × Int) :=
some (y25, 0)
def iz (F : Nat) (a1 : List ((List UInt8) × List UInt8)) (rec9 : ((List (List UInt8)) × Int) → Option ((List (List UInt8)) × Int)) (y6 : List (List UInt8)) (y8 : Int) : Option ((List (List UInt8)) × Int) :=
bif decide (y8 < (a1.length : Int)) then
  grd (bQ y8 a1.length) <|
  lt (at_ a1 y8) fun x13 =>
  kV (iM F x13.1 x13.2) fun x16 x17 =>
  bif !decide (x17 = 0) then
    some ([], x17)
  else
    grd (bw (y6.length + ([x16] : List (List UInt8)).length)) <|
    lt (y6 ++ ([x16] : List (List UInt8))) fun x22 =>
    grd (okI (y8 + 1)) <|
    rec9 (x22, y8 + 1)
else
  ix y6
def iy (F : Nat) (a1 : List ((List UInt8) × List UInt8)) (n : Nat) : ((List (List UInt8)) × Int) → Option ((List (List UInt8)) × Int) :=
  loop (fun rec x => iz F a1 rec x.1 x.2) n
def lZ (F : Nat) (a1 : List ((List UInt8) × List UInt8)) : Option ((List (List UInt8)) × Int) :=
iy F a1 F ([], 0)
def lL (F : Nat) (a1 : List ((List UInt8) × List UInt8)) : Option ((List UInt8) × Int) :=
bif decide (50 < (a1.length : Int)) then
  some ([], 4)
else
  kV (lZ F a1) fun x6 x7 =>
  bif !decide (x7 = 0) then
    some ([], x7)
  else
    grd (mW x6) <|
    lt (List.flatten x6) fun x11 =>
    grd (bw (x11.length + ([13, 10] : List UInt8).length)) <|
    lt (x11 ++ ([13, 10] : List UInt8)) fun x16 =>
    some (x16, 0)
def iq (y50 : List UInt8) (y51 : List (List UInt8)) : Option ((List (List UInt8)) × (List UInt8) × Bool) :=
grd (gA 2 y50.length) <|
lt (jA y50 2) fun x55 =>
some (y51, x55, decide ((y51.length : Int) ≤ 50))
def fp (y7 : List UInt8) (y8 : List (List UInt8)) (rec10 : ((List UInt8) × (List (List UInt8))) → Option ((List (List UInt8)) × (List UInt8) × Bool)) (y38 : Int) : Option ((List (List UInt8)) × (List UInt8) × Bool) :=
grd (gA y38 y7.length) <|
lt (to_ y7 y38) fun x41 =>
grd (gA y38 y7.length) <|
lt (jA y7 y38) fun x44 =>
grd (bw (y8.length + ([x41] : List (List UInt8)).length)) <|
lt (y8 ++ ([x41] : List (List UInt8))) fun x48 =>
rec10 (x44, x48)
def dY (y7 : List UInt8) (y8 : List (List UInt8)) (rec10 : ((List UInt8) × (List (List UInt8))) → Option ((List (List UInt8)) × (List UInt8) × Bool)) (rec17 : Int → Option ((List (List UInt8)) × (List UInt8) × Bool)) (y16 : Int) : Option ((List (List UInt8)) × (List UInt8) × Bool) :=
cz ((!(decide (y16 = 0))) && (decide (y16 < (y7.length : Int)))) (bQ y16 y7.length) <|
lt (at_ y7 y16) fun x22 =>
bif (decide (y16 = 0)) || ((decide (y16 < (y7.length : Int))) && (decide (x22 = 32))) then
  grd (gA y16 y7.length) <|
  lt (jA y7 y16) fun x26 =>
  grd (okS x26.length) <|
  grd (decide (2 ≤ ([13, 10] : List UInt8).length)) <|
  grd (okS ([13, 10] : List UInt8).length) <|
  lt (Go.Lib.index x26 ([13, 10] : List UInt8)) fun x32 =>
  bif decide (x32 < 0) then
    some ([], [], false)
  else
    grd (okI (x32 + 2)) <|
    grd (okI (y16 + (x32 + 2))) <|
    rec17 (y16 + (x32 + 2))
else
  fp y7 y8 rec10 y16
def fq (y7 : List UInt8) (y8 : List (List UInt8)) (rec10 : ((List UInt8) × (List (List UInt8))) → Option ((List (List UInt8)) × (List UInt8) × Bool)) (n : Nat) : Int → Option ((List (List UInt8)) × (List UInt8) × Bool) :=
  loop (fun rec x => dY y7 y8 rec10 rec x) n
def ir (F : Nat) (rec10 : ((List UInt8) × (List (List UInt8))) → Option ((List (List UInt8)) × (List UInt8) × Bool)) (y7 : List UInt8) (y8 : List (List UInt8)) : Option ((List (List UInt8)) × (List UInt8) × Bool) :=
lt (Go.Lib.hasPrefix y7 ([13, 10] : List UInt8)) fun x13 =>
bif !x13 then
  fq y7 y8 rec10 F 0
else
  iq y7 y8
def cJ (F : Nat) (n : Nat) : ((List UInt8) × (List (List UInt8))) → Option ((List (List UInt8)) × (List UInt8) × Bool) :=
  loop (fun rec x => ir F rec x.1 x.2) n
def lX (F : Nat) (a1 : List UInt8) : Option ((List (List UInt8)) × (List UInt8) × Bool) :=
cJ F F (a1, [])
def mI (F : Nat) (a1 : List UInt8) : Option ((List ((List UInt8) × List UInt8)) × (List UInt8) × Int) :=
nV (lX F a1) fun x6 x7 x8 =>
bif !x8 then
  some ([], [], 2)
else
  kV (lY F x6) fun x11 x12 =>
  bif !decide (x12 = 0) then
    some ([], [], 2)
  else
    grd (okS x7.length) <|
    lt x7 fun x16 =>
    some (x11, x16, 0)
end Go.Pv
namespace Go.Proofs.YtdaafnaokdigbaaGreatDoor
open Go.RowKit Go.Av Go.Pv
theorem vB : ∀ (args : Array Value) (w : World), (callFunc 34 args).run Tryz.prog w = .ok (.enter 34 args) w := fun _ _ => by kernel_rfl
theorem vy : ∀ (args : Array Value) (w : World), (callFunc 36 args).run Tryz.prog w = .ok (.enter 36 args) w := fun _ _ => by kernel_rfl
theorem vj : ∀ (args : Array Value) (w : World), (callFunc 50 args).run Tryz.prog w = .ok (.enter 50 args) w := fun _ _ => by kernel_rfl
theorem ve : ∀ (args : Array Value) (w : World), (callFunc 68 args).run Tryz.prog w = .ok (.enter 68 args) w := fun _ _ => by kernel_rfl
theorem pJ : ∀ (args : Array Value) (w : World), (callFunc 69 args).run Tryz.prog w = .ok (.enter 69 args) w := fun _ _ => by kernel_rfl
theorem vd : ∀ (args : Array Value) (w : World), (callFunc 70 args).run Tryz.prog w = .ok (.enter 70 args) w := fun _ _ => by kernel_rfl
theorem vc : ∀ (args : Array Value) (w : World), (callFunc 75 args).run Tryz.prog w = .ok (.enter 75 args) w := fun _ _ => by kernel_rfl
theorem vb : ∀ (args : Array Value) (w : World), (callFunc 76 args).run Tryz.prog w = .ok (.enter 76 args) w := fun _ _ => by kernel_rfl
theorem va : ∀ (args : Array Value) (w : World), (callFunc 77 args).run Tryz.prog w = .ok (.enter 77 args) w := fun _ _ => by kernel_rfl
theorem uZ : ∀ (args : Array Value) (w : World), (callFunc 78 args).run Tryz.prog w = .ok (.enter 78 args) w := fun _ _ => by kernel_rfl
theorem uS : ∀ (args : Array Value) (w : World), (callFunc 98 args).run Tryz.prog w = .ok (.enter 98 args) w := fun _ _ => by kernel_rfl
theorem uR : ∀ (args : Array Value) (w : World), (callFunc 99 args).run Tryz.prog w = .ok (.enter 99 args) w := fun _ _ => by kernel_rfl
theorem tF : ∀ (args : Array Value) (w : World), (callFunc 100 args).run Tryz.prog w = .ok (.enter 100 args) w := fun _ _ => by kernel_rfl
theorem tE : ∀ (args : Array Value) (w : World), (callFunc 101 args).run Tryz.prog w = .ok (.enter 101 args) w := fun _ _ => by kernel_rfl
theorem tr : ∀ (args : Array Value) (w : World), (callFunc 125 args).run Tryz.prog w = .ok (.enter 125 args) w := fun _ _ => by kernel_rfl
theorem tq : ∀ (args : Array Value) (w : World), (callFunc 126 args).run Tryz.prog w = .ok (.enter 126 args) w := fun _ _ => by kernel_rfl
theorem tp : ∀ (args : Array Value) (w : World), (callFunc 127 args).run Tryz.prog w = .ok (.enter 127 args) w := fun _ _ => by kernel_rfl
theorem tn : ∀ (args : Array Value) (w : World), (callFunc 128 args).run Tryz.prog w = .ok (.enter 128 args) w := fun _ _ => by kernel_rfl
theorem ti : ∀ (args : Array Value) (w : World), (callFunc 139 args).run Tryz.prog w = .ok (.enter 139 args) w := fun _ _ => by kernel_rfl
theorem th : ∀ (args : Array Value) (w : World), (callFunc 140 args).run Tryz.prog w = .ok (.enter 140 args) w := fun _ _ => by kernel_rfl
theorem tg : ∀ (args : Array Value) (w : World), (callFunc 141 args).run Tryz.prog w = .ok (.enter 141 args) w := fun _ _ => by kernel_rfl
set_option maxRecDepth 100000 in
set_option maxHeartbeats 1000000 in
theorem uj (F : Nat) (a1 : Int) (r2 : Bool) (H : tU F a1 = some r2) : ACalls Tryz.prog 100 [.v (.int .i32 a1)] [] (Ret (B r2) []) := by
 unfold tU at H
 refine aw Tryz.func100 rfl rfl ?_;show AW _ _ 13 _ _ _;refine af <| ab ?_;show AR _ _ _ _ _ [0] _;refine za rfl <| ai <| af <| ab ?_;show AR _ _ _ _ _ [0, 1, 2, 3, 4, 5, 6, 7, 8, 9, 10] _;refine zm rfl <| zS rfl (dm rfl rfl) <| zm rfl <| aQ (l := [6, 7, 8, 9, 10]) 8 (B ((decide (a1 = 32)) || (decide (a1 = 13)))) (fun K => ?_) ?_
 ·rcases ah (decide (a1 = 32)) with h3 | h3
  ·refine zF h3 rfl <| zF h3 rfl <| zS rfl (ax (av := .v _) rfl h3 rfl) ?_;exact K _ 2 _ (an (dC h3)) rfl rfl
  ·refine zM h3 rfl <| zU h3 rfl (dm rfl rfl) <| zS rfl (ay (av := .v _) rfl h3 rfl) ?_;exact K _ 2 _ (an (dD h3)) rfl rfl
 refine zm rfl <| aQ (l := [10]) 12 (B (((decide (a1 = 32)) || (decide (a1 = 13))) || (decide (a1 = 10)))) (fun K => ?_) ?_
 ·rcases ah ((decide (a1 = 32)) || (decide (a1 = 13))) with h4 | h4
  ·refine zF h4 rfl <| zF h4 rfl <| zS rfl (ax (av := .v _) rfl h4 rfl) ?_;exact K _ 2 _ (an (dC h4)) rfl rfl
  ·refine zM h4 rfl <| zU h4 rfl (dm rfl rfl) <| zS rfl (ay (av := .v _) rfl h4 rfl) ?_;exact K _ 2 _ (an (dD h4)) rfl rfl
 refine za rfl <| ai <| aP ?_;obtain rfl := ak H;exact And.intro rfl (Exists.intro _ (Exists.intro _ ⟨aV rfl (.refl _), aO [] rfl, rfl, rfl⟩))
theorem head_sp (x : Nat) (hx : x ≤ 1114111) : ACalls Tryz.prog 100 [.v (.int .i32 (x : Int))] [] (Ret (.v (.bool (spB x))) []) := uj 0 (x : Int) (spB x) rfl
set_option maxRecDepth 100000 in
set_option maxHeartbeats 1000000 in
theorem rD (F : Nat) (a1 : List UInt8) (r2 : List UInt8) (r3 : Bool) (H : kP F a1 = some (r2, r3)) : ACalls Tryz.prog 125 [S a1] [] (Ret (.tup [S r2, B r3]) []) := by
 unfold kP at H
 refine aw Tryz.func125 rfl rfl ?_;show AW _ _ 32 _ _ _;refine af <| ab ?_;show AR _ _ _ _ _ [0, 1] _;refine za rfl <| za rfl <| ai <| af ?_;obtain ⟨x4, e5, H⟩ := bb H;refine ab ?_;show AR _ _ _ _ _ [0, 1, 2, 3, 4, 5, 6] _;refine zm rfl <| ap rfl rfl (aW rfl ti rfl (show ACalls _ _ _ [] (Ret (.tup [S x4.1, B x4.2]) []) from by subst e5; exact qG a1 ([61, 63, 117, 116, 102, 45, 56, 63, 66, 63] : List UInt8)) ?_);refine zS rfl (ag (av := .tup _) rfl) <| zS rfl (aI (av := .v _) rfl rfl) <| zS rfl (aI (av := .v _) rfl rfl) <| za rfl <| za rfl <| ai <| af <| af <| ab ?_;show AR _ _ _ _ _ [0, 1] _;refine zm rfl <| zS rfl (cx rfl) <| ai <| aD rfl (fun c6 => ?_) (fun c6 => ?_)
 ·replace H := aZ c6 H;refine af <| ab ?_;show AR _ _ _ _ _ [0, 1] _;refine za rfl <| za rfl <| ai <| aP ?_;obtain ⟨rfl, rfl⟩ := fX H;exact And.intro rfl (Exists.intro _ (Exists.intro _ ⟨bH rfl (.refl _) (.refl _), aO [] rfl, rfl, rfl⟩))
 ·replace H := ba c6 H;refine aF <| af ?_;obtain ⟨g7, H⟩ := az H;obtain ⟨x8, e9, H⟩ := bb H;refine ab ?_;show AR _ _ _ _ _ [0, 1, 2, 3, 4, 5, 6] _;refine zm rfl <| ap rfl rfl (aW rfl th rfl (show ACalls _ _ _ [] (Ret (.tup [S x8.1, B x8.2]) []) from by subst e9; exact qF x4.1 ([63, 61] : List UInt8) (kU g7)) ?_);refine zS rfl (ag (av := .tup _) rfl) <| zS rfl (aI (av := .v _) rfl rfl) <| zS rfl (aI (av := .v _) rfl rfl) <| za rfl <| za rfl <| ai <| af ?_;obtain ⟨x10, x11, e12, H⟩ := eK H;refine ab ?_;show AR _ _ _ _ _ [0, 1, 2, 3, 4, 5, 6] _;refine zm rfl <| ap rfl rfl (aW rfl tg rfl (sM F x8.1 x10 x11 e12) ?_);refine zS rfl (ag (av := .tup _) rfl) <| zS rfl (aI (av := slE _ _ _) rfl rfl) <| zS rfl (aI (av := .v _) rfl rfl) <| zS rfl (am (av := slE _ _ _) rfl) <| za rfl <| ai <| af <| ab ?_;show AR _ _ _ _ _ [0, 1, 2, 3, 4, 5, 6, 7, 8] _;refine zS rfl (ag (av := slE _ _ _) rfl) <| zS rfl (bn aa au ac rfl) <| zm rfl <| zm rfl <| aQ (l := [7, 8]) 31 (B (x8.2 && (decide (x11 = 0)))) (fun K => ?_) ?_
  ·rcases ah x8.2 with h13 | h13
   ·refine zM h13 rfl <| zU h13 rfl (dm rfl rfl) <| zS rfl (ax (av := .v _) rfl h13 rfl) ?_;exact K _ 2 _ (an (cc h13)) rfl rfl
   ·refine zF h13 rfl <| zF h13 rfl <| zS rfl (ay (av := .v _) rfl h13 rfl) ?_;exact K _ 2 _ (an (cd h13)) rfl rfl
  refine za rfl <| za rfl <| ai <| aP ?_;obtain ⟨rfl, rfl⟩ := fX H;exact And.intro rfl (Exists.intro _ (Exists.intro _ ⟨bH rfl (.refl _) (.refl _), aO [] rfl, rfl, rfl⟩))
set_option maxRecDepth 100000 in
set_option maxHeartbeats 1000000 in
theorem ru (F : Nat) (a1 : List (List UInt8)) (q2 : Option Nat) (r3 : List UInt8) (H : lT F a1 = some r3) : ACalls Tryz.prog 101 [slE Enc.str a1 q2] [] (Ret (S r3) []) := by
 unfold lT at H
 refine aw Tryz.func101 rfl rfl ?_;show AW _ _ 27 _ _ _;refine af <| ab ?_;show AR _ _ _ _ _ [0] _;refine za rfl <| ai <| af <| ab ?_;show AR _ _ _ _ _ [0] _;refine zX rfl (np (zs := [(.pointer none), .slice none 0 0]) (by kernel_rfl)) ?_;rintro _ _ ⟨o4, rfl, rfl⟩;refine ai ?_
 refine kv 0 1 1 5 rfl rfl fun t5 => ?_
 show AW _ _ _ _ _ ⟨_, _, [.tok t5 5, .obj o4 [.v (.pointer none), slE Enc.byte [] (some t5)], .ty o4 142]⟩;refine bx (X := AV × (List UInt8) × Nat) (fun (t28, y29, t30) => ⟨[(3, .pt o4 0)], [], [.obj o4 [t28, slE Enc.byte y29 (some t30)], .ty o4 142, .tok t30 5]⟩) (fun (t28, y29, t30) => ic y29 = some r3 ∧ (t28 = .v (.pointer none) ∨ t28 = .pt o4 0)) ?_ ?_
 ·refine af <| ab ?_;show AR _ _ _ _ _ [0, 1, 2] _;refine zS rfl (ag (av := slE _ _ _) rfl) <| zS rfl (aH aA rfl) <| zm rfl <| ai <| aJ <| bE (X := Nat × Int × AV × (List UInt8) × Nat) (fun (n11, y6, t7, y8, t9) => ⟨[(0, slE Enc.str a1 q2), (3, .pt o4 0), (8, slE Enc.str a1 q2), (9, i64 (a1.length : Int)), (10, i64 y6)], [], [.obj o4 [t7, slE Enc.byte y8 (some t9)], .ty o4 142, .tok t9 5]⟩) (fun (n11, y6, t7, y8, t9) => ie F a1 n11 (y6, y8) = some r3 ∧ (t7 = .v (.pointer none) ∨ t7 = .pt o4 0)) (fun (n11, y6, t7, y8, t9) => n11) (F, 0, (.v (.pointer none)), [], t5) ⟨H, .inl rfl⟩ (aU [1, 1, 0] (.cons (.refl _) (.cons (.refl _) (.cons (.refl _) (.cons (.refl _) (.cons (.refl _) (.nil _)))))) rfl) ?_;rintro ⟨n11, y6, t7, y8, t9⟩ ⟨H, ht7⟩;obtain ⟨n11, rfl, H⟩ := bX H;replace H : ig F a1 (ie F a1 n11) y6 y8 = some r3 := H
  unfold ig at H
  refine af <| ab ?_;show AR _ _ _ _ _ [0] _;refine zS rfl (bB rfl rfl) <| ai <| af <| aD rfl (fun c12 => ?_) (fun c12 => ?_)
  ·replace H := aZ c12 H;refine aF <| af <| aJ <| af ?_;obtain ⟨g13, H⟩ := az H;obtain ⟨x14, e15, H⟩ := bb H;refine ab ?_;show AR _ _ _ _ _ [0, 1, 2] _;refine zS rfl (aY (E := Enc.str) aA (by kernel_rfl) rfl rfl g13 e15) <| zS rfl (aL ac rfl rfl) <| za rfl <| ai <| af ?_;obtain ⟨x16, x17, e18, H⟩ := eK H;refine ab ?_;show AR _ _ _ _ _ [0, 1, 2, 3, 4, 5, 6] _;refine zm rfl <| ap rfl rfl (aW rfl tr rfl (rD F x14 x16 x17 e18) ?_);refine zS rfl (ag (av := .tup _) rfl) <| zS rfl (aI (av := .v _) rfl rfl) <| zS rfl (aI (av := .v _) rfl rfl) <| za rfl <| za rfl <| ai <| af <| af <| ab ?_;show AR _ _ _ _ _ [0, 1] _;refine zm rfl <| zS rfl (cx rfl) <| ai <| aD rfl (fun c19 => ?_) (fun c19 => ?_)
   ·replace H := aZ c19 H;refine af ?_;obtain ⟨g20, H⟩ := az H;obtain ⟨x21, e22, H⟩ := bb H;refine ab ?_;show AR _ _ _ _ _ [0, 1, 2] _;refine zS rfl (ag (av := slE _ _ _) rfl) <| ap rfl rfl (aW rfl tq rfl (show ACalls _ _ _ [] (Ret (S x21) []) from by subst e22; exact rG a1 ([32] : List UInt8) q2 (tR g20).1 (tR g20).2) ?_);refine za rfl <| ai <| aP ?_;obtain rfl := ak H;exact And.intro rfl (Exists.intro _ (Exists.intro _ ⟨aV rfl (.refl _), aO [] rfl, rfl, rfl⟩))
   ·replace H := ba c19 H;refine aF ?_;obtain ⟨g23, H⟩ := az H;obtain ⟨x24, e25, H⟩ := bb H;refine ab ?_;show AR _ _ _ _ _ [0, 1] _;refine zm rfl <| ap rfl rfl (AO.callAt [0, 0, 0] rfl tp rfl (dM  o4 (t7) ht7 y8 x16 t9 (okW_s g23)) rfl (fun c A' h => by cases h.1) ?_)
    rintro av A' ⟨h, t26, rfl⟩; cases h
    rw [e25]
    refine ai ?_;obtain ⟨g27, H⟩ := az H;refine ab ?_;show AR _ _ _ _ _ [0, 1] _;refine zS rfl (bk rfl rfl g27) <| zm rfl <| ai ?_;exact Exists.intro (n11, y6 + 1, (.pt o4 0), x24, t26) ⟨⟨H, .inr rfl⟩, Nat.lt_succ_self _, aU [0, 0, 0] (.cons (.refl _) (.cons (.refl _) (.cons (.refl _) (.cons (.refl _) (.cons (.refl _) (.nil _)))))) rfl⟩
  ·replace H := ba c12 H;refine bz ?_;exact Exists.intro (t7, y8, t9) ⟨⟨H, ht7⟩, aU [0, 0, 0] (.cons (.refl _) (.nil _)) rfl⟩
 rintro ⟨t28, y29, t30⟩ ⟨H, ht28⟩;replace H : ic y29 = some r3 := H
 unfold ic at H
 refine af ?_;obtain ⟨g32, H⟩ := az H;refine ab ?_;show AR _ _ _ _ _ [0, 1] _;refine ap rfl rfl (AO.callAt [0, 1] rfl tn rfl (kn  o4 (t28) y29 t30 (okW0_s g32)) rfl (fun c A' h => by cases h.1) ?_)
 rintro av A' ⟨h, rfl⟩; cases h
 refine za rfl <| ai <| aP ?_;obtain rfl := ak H;exact And.intro rfl (Exists.intro _ (Exists.intro _ ⟨aV rfl (.refl _), aO [] rfl, rfl, rfl⟩))
abbrev _root_.Go.Av.bV := @Tryz.underlying71
set_option maxRecDepth 100000 in
set_option maxHeartbeats 1000000 in
theorem sK (F : Nat) (a1 : List UInt8) (q2 : Option Nat) (r3 : List UInt8) (r4 : List UInt8) (r5 : Int) (H : lH F a1 = some (r3, r4, r5)) : ACalls Tryz.prog 77 [slE Enc.byte a1 q2] [] (Ret (.tup [.agg [S r3, S r4], i64 r5]) []) := by
 unfold lH at H
 refine aw Tryz.func77 rfl rfl ?_;show AW _ _ 43 _ _ _;refine af <| ab ?_;show AR _ _ _ _ _ [0, 1] _;refine zX rfl (de (zs := [.string ⟨#[]⟩, .string ⟨#[]⟩]) (by kernel_rfl)) ?_;rintro _ _ ⟨o6, rfl, rfl⟩;refine za rfl <| ai <| af ?_;obtain ⟨g7, H⟩ := az H;obtain ⟨x8, e9, H⟩ := bb H;refine ab ?_;show AR _ _ _ _ _ [0, 1, 2, 3, 4, 5, 6, 7, 8, 9] _;refine zS rfl (ag (av := slE _ _ _) rfl) <| zS rfl (bn aa au ac rfl) <| ap rfl rfl (aW rfl uS rfl (show ACalls _ _ _ [] (Ret (.tup [S x8.1, S x8.2.1, B x8.2.2]) []) from by subst e9; exact lib_Cut a1 ([58] : List UInt8) (kU g7)) ?_);refine zS rfl (ag (av := .tup _) rfl) <| zS rfl (aI (av := .v _) rfl rfl) <| zS rfl (aI (av := .v _) rfl rfl) <| zS rfl (aI (av := .v _) rfl rfl) <| za rfl <| za rfl <| za rfl <| ai <| af ?_;obtain ⟨g10, H⟩ := az H;obtain ⟨x11, e12, H⟩ := bb H;refine ab ?_;show AR _ _ _ _ _ [0, 1, 2] _;refine zm rfl <| ap rfl rfl (aW rfl uR rfl (show ACalls _ _ _ [] (Ret (slE Enc.str x11 none) []) from by subst e12; exact pn 100 spB x8.2.1 tF head_sp (kU g10)) ?_);refine zS rfl (am (av := slE _ _ _) rfl) <| ai <| af ?_;obtain ⟨x13, e14, H⟩ := cT H;refine ab ?_;show AR _ _ _ _ _ [0, 1, 2, 3, 4, 5] _;refine zm rfl <| zS rfl (ag (av := slE _ _ _) rfl) <| ap rfl rfl (aW rfl tE rfl (ru F x11 none x13 e14) ?_)
 refine zS rfl (iH (zs := [.string ⟨#[]⟩, .string ⟨#[]⟩]) (ps := [(0, 1), (1, 1)]) (cs := [S x8.1, S x13]) (by kernel_rfl) rfl rfl) <| zX rfl (de (zs := [.string ⟨#[]⟩, .string ⟨#[]⟩]) (by kernel_rfl)) ?_;rintro _ _ ⟨o15, rfl, rfl⟩;refine s0 rfl rfl (cq (i := 0) (vs := [S x8.1, S x13]) (by kernel_rfl) rfl rfl (by simp [cw, slE]) rfl (aj rfl)) <| AR.freezeCp 8 0 rfl rfl ?_;show AR _ _ _ _ _ _ ⟨_, _, [.obj o6 [S ([] : List UInt8), S ([] : List UInt8)]]⟩;refine ai <| af <| af ?_;obtain ⟨x16, x17, e18, H⟩ := eK H;refine ab ?_;show AR _ _ _ _ _ [0, 1, 2, 3, 4, 5, 6] _;refine zS rfl (dr bV rfl (n := 2) (by kernel_rfl) rfl (aj rfl)) <| ap rfl rfl (aW rfl pJ rfl (ot F x8.1 x13 x16 x17 e18) ?_);refine zS rfl (ag (av := .tup _) rfl) <| zS rfl (aI (av := slE _ _ _) rfl rfl) <| zS rfl (aI (av := .v _) rfl rfl) <| zS rfl (am (av := slE _ _ _) rfl) <| za rfl <| ai <| af ?_;obtain ⟨x21, e22, H⟩ := bb H;refine ab ?_;show AR _ _ _ _ _ [0, 1, 2, 3, 4, 5, 6, 7, 8, 9, 10, 11] _;refine zm rfl <| zS rfl (cx rfl) <| zm rfl <| aQ (l := [6, 7, 8, 9, 10, 11]) 34 (B ((!x8.2.2) || (!decide (x17 = 0)))) (fun K => ?_) ?_
 ·rcases ah (!x8.2.2) with h19 | h19
  ·refine zF h19 rfl <| zF h19 rfl <| zS rfl (ax (av := .v _) rfl h19 rfl) ?_;exact K _ 2 _ (an (dC h19)) rfl rfl
  ·refine zM h19 rfl <| zU h19 rfl (dv rfl rfl) <| zS rfl (ay (av := .v _) rfl h19 rfl) ?_;exact K _ 2 _ (an (dD h19)) rfl rfl
 refine zm rfl <| aQ (l := []) 40 (B (((!x8.2.2) || (!decide (x17 = 0))) || (!x21))) (fun K => ?_) ?_
 ·rcases ah ((!x8.2.2) || (!decide (x17 = 0))) with h20 | h20
  ·refine zF h20 rfl <| zF h20 rfl <| zF h20 rfl <| zF h20 rfl <| zS rfl (ax (av := .v _) rfl h20 rfl) ?_;exact K _ 4 _ (an (dC h20)) rfl rfl
  ·refine zU h20 rfl (ag (av := slE _ _ _) rfl) <| zU h20 rfl (ag (av := slE _ _ _) rfl) <| zT h20 rfl (aW rfl vy rfl (show ACalls _ _ _ [] (Ret (B x21) []) from by subst e22; exact mz x16 a1 none q2) ?_);refine zU h20 rfl (cx rfl) <| zS rfl (ay (av := .v _) rfl h20 rfl) ?_;exact K _ 4 _ (an (dD h20)) rfl rfl
 refine ai <| aD rfl (fun c23 => ?_) (fun c23 => ?_)
 ·replace H := aZ c23 H;refine af <| ab ?_;show AR _ _ _ _ _ [0, 1, 2] _;refine zS rfl (iH (zs := [.string ⟨#[]⟩, .string ⟨#[]⟩]) (ps := [(0, 1), (1, 1)]) (cs := [S ([] : List UInt8), S ([] : List UInt8)]) (by kernel_rfl) rfl rfl) <| s0 rfl rfl (cq (i := 0) (vs := [S ([] : List UInt8), S ([] : List UInt8)]) (by kernel_rfl) rfl rfl (by simp [cw, slE]) rfl (aj rfl)) <| za rfl <| ai <| aP ?_;obtain ⟨rfl, rfl, rfl⟩ := gz H;exact And.intro rfl (Exists.intro _ (Exists.intro _ ⟨kG (ki rfl (CellV.agg (off := 0) (cs := [S ([] : List UInt8), S ([] : List UInt8)]) (n := 2) 0 bV rfl (by kernel_rfl) rfl rfl (aj rfl)) ((show PlaceV _ _ _ (.tmp _) _ from (.refl _)))), aO [] rfl, rfl, rfl⟩))
 ·replace H := ba c23 H;refine aF <| af <| ab ?_;show AR _ _ _ _ _ [0, 1, 2] _;refine zS rfl (dr bV rfl (n := 2) (by kernel_rfl) rfl (aj rfl)) <| s0 rfl rfl (cq (i := 0) (vs := [S x8.1, S x13]) (by kernel_rfl) rfl rfl (by simp [cw, slE]) rfl (aj rfl)) <| za rfl <| ai <| aP ?_;obtain ⟨rfl, rfl, rfl⟩ := gz H;exact And.intro rfl (Exists.intro _ (Exists.intro _ ⟨kG (ki rfl (CellV.agg (off := 0) (cs := [S x8.1, S x13]) (n := 2) 0 bV rfl (by kernel_rfl) rfl rfl (aj rfl)) ((show PlaceV _ _ _ (.tmp _) _ from (.refl _)))), aO [] rfl, rfl, rfl⟩))
abbrev _root_.Go.Av.aC := @Tryz.underlying23
abbrev _root_.Go.Av.bu := @Tryz.underlying72
set_option maxRecDepth 100000 in
set_option maxHeartbeats 1000000 in
theorem rB (F : Nat) (a1 : List (List UInt8)) (q2 : Option Nat) (r3 : List ((List UInt8) × List UInt8)) (r4 : Int) (H : lY F a1 = some (r3, r4)) : ACalls Tryz.prog 76 [slE (Enc.sl Enc.byte) a1 q2, .v (.func (.func 77) #[] #[])] [] (Ret (.tup [slE (cA Enc.str Enc.str) r3 none, i64 r4]) []) := by
 unfold lY at H
 refine aw Tryz.func76 rfl rfl ?_;show AW _ _ 32 _ _ _;refine af <| ab ?_;show AR _ _ _ _ _ [0, 1] _;refine za rfl <| za rfl <| ai <| af <| ab ?_;show AR _ _ _ _ _ [0] _;refine za rfl <| ai ?_
 refine bL 6 2 71 rfl fun t5 => ?_
 show AW _ _ _ _ _ ⟨(6, slE (cA Enc.str Enc.str) [] (some t5)) :: _, _, _⟩;refine bx (X := (List ((List UInt8) × List UInt8)) × Nat) (fun (y26, t27) => ⟨[(6, slE (cA Enc.str Enc.str) y26 (some t27))], [], [.tok t27 71]⟩) (fun (y26, t27) => iu y26 = some (r3, r4)) ?_ ?_
 ·refine af <| ab ?_;show AR _ _ _ _ _ [0, 1, 2] _;refine zS rfl (ag (av := slE _ _ _) rfl) <| zS rfl (aH aC rfl) <| zm rfl <| ai <| aJ <| bE (X := Nat × (List ((List UInt8) × List UInt8)) × Nat × Int) (fun (n10, y6, t7, y8) => ⟨[(1, .v (.func (.func 77) #[] #[])), (6, slE (cA Enc.str Enc.str) y6 (some t7)), (11, slE (Enc.sl Enc.byte) a1 q2), (12, i64 (a1.length : Int)), (13, i64 y8)], [], [.tok t7 71]⟩) (fun (n10, y6, t7, y8) => iv F a1 n10 (y6, y8) = some (r3, r4)) (fun (n10, y6, t7, y8) => n10) (F, [], t5, 0) H (aU [0] (.cons (.refl _) (.cons (.refl _) (.cons (.refl _) (.cons (.refl _) (.cons (.refl _) (.nil _)))))) rfl) ?_;rintro ⟨n10, y6, t7, y8⟩ H;obtain ⟨n10, rfl, H⟩ := bX H;replace H : iw F a1 (iv F a1 n10) y6 y8 = some (r3, r4) := H
  unfold iw at H
  refine af <| ab ?_;show AR _ _ _ _ _ [0] _;refine zS rfl (bB rfl rfl) <| ai <| af <| aD rfl (fun c11 => ?_) (fun c11 => ?_)
  ·replace H := aZ c11 H;refine aF <| af <| aJ <| af ?_;obtain ⟨g12, H⟩ := az H;obtain ⟨x13, e14, H⟩ := bb H;refine ab ?_;show AR _ _ _ _ _ [0, 1, 2] _;refine zS rfl (aY (E := (Enc.sl Enc.byte)) aC (by kernel_rfl) rfl rfl g12 e14) <| zS rfl (aL aa rfl rfl) <| zS rfl (am (av := slE _ _ _) rfl) <| ai <| af ?_;obtain ⟨x15, x16, x17, e18, H⟩ := kj H;refine ab ?_;show AR _ _ _ _ _ [0, 1, 2, 3, 4, 5, 6, 7, 8] _;refine zm rfl <| zS rfl (ag (av := slE _ _ _) rfl) <| ap rfl rfl (AO.callFp rfl (.inr ⟨rfl, rfl, rfl⟩) va rfl (sK F x13 none x15 x16 x17 e18) ?_);refine zS rfl (ag (av := .tup _) rfl) <| zS rfl (aI (av := .agg _) rfl rfl) <| zS rfl (aI (av := .v _) rfl rfl) <| zX rfl (de (zs := [.string ⟨#[]⟩, .string ⟨#[]⟩]) (by kernel_rfl)) ?_;rintro _ _ ⟨o19, rfl, rfl⟩;refine s0 rfl rfl (cq (i := 0) (vs := [S x15, S x16]) (by kernel_rfl) rfl rfl (by simp [cw, slE]) rfl (aj rfl)) <| AR.freezeCp 9 0 rfl rfl ?_;show AR _ _ _ _ _ _ ⟨_, _, [.tok t7 71]⟩;refine za rfl <| ai <| af <| af <| ab ?_;show AR _ _ _ _ _ [0, 1] _;refine zm rfl <| zS rfl (dv rfl rfl) <| ai <| aD rfl (fun c20 => ?_) (fun c20 => ?_)
   ·replace H := aZ c20 H;refine af <| ab ?_;show AR _ _ _ _ _ [0, 1, 2] _;refine zm rfl <| za rfl <| za rfl <| ai <| aP ?_;obtain ⟨rfl, rfl⟩ := fX H;exact And.intro rfl (Exists.intro _ (Exists.intro _ ⟨bH rfl (.nil _) (.refl _), aO [] rfl, rfl, rfl⟩))
   ·replace H := ba c20 H;refine aF ?_;obtain ⟨g22, H⟩ := az H;obtain ⟨x23, e24, H⟩ := bb H;refine ab ?_;show AR _ _ _ _ _ [0, 1, 2, 3, 4] _;refine zS rfl (ag (av := slE _ _ _) rfl) <| zS rfl (dr bV rfl (n := 2) (by kernel_rfl) rfl (aj rfl)) <| zR rfl (ku (E := (cA Enc.str Enc.str)) (bytes := 32) (zs := [.string ⟨#[]⟩, .string ⟨#[]⟩]) (l := ([(x15, x16)] : List ((List UInt8) × List UInt8))) bu (by kernel_rfl) (by kernel_rfl) rfl rfl rfl rfl rfl) <| zX rfl (bA (E := (cA Enc.str Enc.str)) (bytes := 32) 0 bu bu rfl (by kernel_rfl) rfl rfl rfl rfl g22 e24) ?_;rintro _ _ ⟨t21, rfl, rfl⟩;refine zS rfl (am (av := slE _ _ _) rfl) <| ai ?_;obtain ⟨g25, H⟩ := az H;refine ab ?_;show AR _ _ _ _ _ [0, 1] _;refine zS rfl (bk rfl rfl g25) <| zm rfl <| ai ?_;exact Exists.intro (n10, x23, t21, y8 + 1) ⟨H, Nat.lt_succ_self _, aU [0] (.cons (.refl _) (.cons (.refl _) (.cons (.refl _) (.cons (.refl _) (.cons (.refl _) (.nil _)))))) rfl⟩
  ·replace H := ba c11 H;refine bz ?_;exact Exists.intro (y6, t7) ⟨H, aU [0] (.cons (.refl _) (.nil _)) rfl⟩
 rintro ⟨y26, t27⟩ H;replace H : iu y26 = some (r3, r4) := H
 unfold iu at H
 refine af <| ab ?_;show AR _ _ _ _ _ [0, 1, 2] _;refine zS rfl (ag (av := slE _ _ _) rfl) <| zS rfl (am (av := slE _ _ _) rfl) <| za rfl <| ai <| aP ?_;obtain ⟨rfl, rfl⟩ := fX H;exact And.intro rfl (Exists.intro _ (Exists.intro _ ⟨bH rfl (.tok _ _ _) (.refl _), aO [] rfl, rfl, rfl⟩))
set_option maxRecDepth 100000 in
set_option maxHeartbeats 1000000 in
theorem rC (F : Nat) (a1 : List ((List UInt8) × List UInt8)) (q2 : Option Nat) (r3 : List (List UInt8)) (r4 : Int) (H : lZ F a1 = some (r3, r4)) : ACalls Tryz.prog 68 [slE (cA Enc.str Enc.str) a1 q2, .v (.func (.func 69) #[] #[])] [] (Ret (.tup [slE (Enc.sl Enc.byte) r3 none, i64 r4]) []) := by
 unfold lZ at H
 refine aw Tryz.func68 rfl rfl ?_;show AW _ _ 32 _ _ _;refine af <| ab ?_;show AR _ _ _ _ _ [0, 1] _;refine za rfl <| za rfl <| ai <| af <| ab ?_;show AR _ _ _ _ _ [0] _;refine za rfl <| ai ?_
 refine bL 6 1 26 rfl fun t5 => ?_
 show AW _ _ _ _ _ ⟨(6, slE (Enc.sl Enc.byte) [] (some t5)) :: _, _, _⟩;refine bx (X := (List (List UInt8)) × Nat) (fun (y25, t26) => ⟨[(6, slE (Enc.sl Enc.byte) y25 (some t26))], [], [.tok t26 26]⟩) (fun (y25, t26) => ix y25 = some (r3, r4)) ?_ ?_
 ·refine af <| ab ?_;show AR _ _ _ _ _ [0, 1, 2] _;refine zS rfl (ag (av := slE _ _ _) rfl) <| zS rfl (aH bu rfl) <| zm rfl <| ai <| aJ <| bE (X := Nat × (List (List UInt8)) × Nat × Int) (fun (n10, y6, t7, y8) => ⟨[(1, .v (.func (.func 69) #[] #[])), (6, slE (Enc.sl Enc.byte) y6 (some t7)), (11, slE (cA Enc.str Enc.str) a1 q2), (12, i64 (a1.length : Int)), (13, i64 y8)], [], [.tok t7 26]⟩) (fun (n10, y6, t7, y8) => iy F a1 n10 (y6, y8) = some (r3, r4)) (fun (n10, y6, t7, y8) => n10) (F, [], t5, 0) H (aU [0] (.cons (.refl _) (.cons (.refl _) (.cons (.refl _) (.cons (.refl _) (.cons (.refl _) (.nil _)))))) rfl) ?_;rintro ⟨n10, y6, t7, y8⟩ H;obtain ⟨n10, rfl, H⟩ := bX H;replace H : iz F a1 (iy F a1 n10) y6 y8 = some (r3, r4) := H
  unfold iz at H
  refine af <| ab ?_;show AR _ _ _ _ _ [0] _;refine zS rfl (bB rfl rfl) <| ai <| af <| aD rfl (fun c11 => ?_) (fun c11 => ?_)
  ·replace H := aZ c11 H;refine aF <| af <| aJ <| af ?_;obtain ⟨g12, H⟩ := az H;obtain ⟨x13, e14, H⟩ := bb H;refine ab ?_;show AR _ _ _ _ _ [0, 1, 2, 3] _;refine zS rfl (aY (E := (cA Enc.str Enc.str)) bu (by kernel_rfl) rfl rfl g12 e14) <| zS rfl (dr bV rfl (n := 2) (by kernel_rfl) rfl (aj rfl)) <| zX rfl (de (zs := [.string ⟨#[]⟩, .string ⟨#[]⟩]) (by kernel_rfl)) ?_;rintro _ _ ⟨o15, rfl, rfl⟩;refine s0 rfl rfl (cq (i := 0) (vs := [S x13.1, S x13.2]) (by kernel_rfl) rfl rfl (by simp [cw, slE]) rfl (aj rfl)) <| AR.freezeCp 8 0 rfl rfl ?_;show AR _ _ _ _ _ _ ⟨_, _, [.tok t7 26]⟩;refine ai <| af ?_;obtain ⟨x16, x17, e18, H⟩ := eK H;refine ab ?_;show AR _ _ _ _ _ [0, 1, 2, 3, 4, 5, 6, 7] _;refine zm rfl <| zS rfl (dr bV rfl (n := 2) (by kernel_rfl) rfl (aj rfl)) <| ap rfl rfl (AO.callFp rfl (.inr ⟨rfl, rfl, rfl⟩) pJ rfl (ot F x13.1 x13.2 x16 x17 e18) ?_);refine zS rfl (ag (av := .tup _) rfl) <| zS rfl (aI (av := slE _ _ _) rfl rfl) <| zS rfl (aI (av := .v _) rfl rfl) <| zS rfl (am (av := slE _ _ _) rfl) <| za rfl <| ai <| af <| af <| ab ?_;show AR _ _ _ _ _ [0, 1] _;refine zm rfl <| zS rfl (dv rfl rfl) <| ai <| aD rfl (fun c19 => ?_) (fun c19 => ?_)
   ·replace H := aZ c19 H;refine af <| ab ?_;show AR _ _ _ _ _ [0, 1, 2] _;refine zm rfl <| za rfl <| za rfl <| ai <| aP ?_;obtain ⟨rfl, rfl⟩ := fX H;exact And.intro rfl (Exists.intro _ (Exists.intro _ ⟨bH rfl (.nil _) (.refl _), aO [] rfl, rfl, rfl⟩))
   ·replace H := ba c19 H;refine aF ?_;obtain ⟨g21, H⟩ := az H;obtain ⟨x22, e23, H⟩ := bb H;refine ab ?_;show AR _ _ _ _ _ [0, 1, 2, 3, 4] _;refine zS rfl (ag (av := slE _ _ _) rfl) <| zS rfl (ag (av := slE _ _ _) rfl) <| zR rfl (bh (E := (Enc.sl Enc.byte)) (bytes := 24) (xs := [.tmp 27]) (l := ([x16] : List (List UInt8))) aC (by kernel_rfl) rfl rfl (by decide) rfl rfl) <| zX rfl (bA (E := (Enc.sl Enc.byte)) (bytes := 24) 0 aC aC rfl (by kernel_rfl) rfl rfl rfl rfl g21 e23) ?_;rintro _ _ ⟨t20, rfl, rfl⟩;refine zS rfl (am (av := slE _ _ _) rfl) <| ai ?_;obtain ⟨g24, H⟩ := az H;refine ab ?_;show AR _ _ _ _ _ [0, 1] _;refine zS rfl (bk rfl rfl g24) <| zm rfl <| ai ?_;exact Exists.intro (n10, x22, t20, y8 + 1) ⟨H, Nat.lt_succ_self _, aU [0] (.cons (.refl _) (.cons (.refl _) (.cons (.refl _) (.cons (.refl _) (.cons (.refl _) (.nil _)))))) rfl⟩
  ·replace H := ba c11 H;refine bz ?_;exact Exists.intro (y6, t7) ⟨H, aU [0] (.cons (.refl _) (.nil _)) rfl⟩
 rintro ⟨y25, t26⟩ H;replace H : ix y25 = some (r3, r4) := H
 unfold ix at H
 refine af <| ab ?_;show AR _ _ _ _ _ [0, 1, 2] _;refine zS rfl (ag (av := slE _ _ _) rfl) <| zS rfl (am (av := slE _ _ _) rfl) <| za rfl <| ai <| aP ?_;obtain ⟨rfl, rfl⟩ := fX H;exact And.intro rfl (Exists.intro _ (Exists.intro _ ⟨bH rfl (.tok _ _ _) (.refl _), aO [] rfl, rfl, rfl⟩))
set_option maxRecDepth 100000 in
set_option maxHeartbeats 1000000 in
theorem ul (F : Nat) (a1 : List ((List UInt8) × List UInt8)) (q2 : Option Nat) (r3 : List UInt8) (r4 : Int) (H : lL F a1 = some (r3, r4)) : ACalls Tryz.prog 46 [slE (cA Enc.str Enc.str) a1 q2] [] (Ret (.tup [slE Enc.byte r3 none, i64 r4]) []) := by
 unfold lL at H
 refine aw Tryz.func46 rfl rfl ?_;show AW _ _ 20 _ _ _;refine af <| ab ?_;show AR _ _ _ _ _ [0, 1] _;refine za rfl <| za rfl <| ai <| af <| af <| ab ?_;show AR _ _ _ _ _ [0, 1, 2] _;refine zS rfl (ag (av := slE _ _ _) rfl) <| zS rfl (aH bu rfl) <| zS rfl (cN rfl rfl) <| ai <| aD rfl (fun c5 => ?_) (fun c5 => ?_)
 ·replace H := aZ c5 H;refine af <| ab ?_;show AR _ _ _ _ _ [0, 1] _;refine za rfl <| za rfl <| ai <| aP ?_;obtain ⟨rfl, rfl⟩ := fX H;exact And.intro rfl (Exists.intro _ (Exists.intro _ ⟨bH rfl (.nil _) (.refl _), aO [] rfl, rfl, rfl⟩))
 ·replace H := ba c5 H;refine aF <| af ?_;obtain ⟨x6, x7, e8, H⟩ := eK H;refine ab ?_;show AR _ _ _ _ _ [0, 1, 2, 3, 4, 5, 6] _;refine zS rfl (ag (av := slE _ _ _) rfl) <| ap rfl rfl (aW rfl ve rfl (rC F a1 q2 x6 x7 e8) ?_);refine zS rfl (ag (av := .tup _) rfl) <| zS rfl (aI (av := slE _ _ _) rfl rfl) <| zS rfl (aI (av := .v _) rfl rfl) <| zS rfl (am (av := slE _ _ _) rfl) <| za rfl <| ai <| af <| af <| ab ?_;show AR _ _ _ _ _ [0, 1] _;refine zm rfl <| zS rfl (dv rfl rfl) <| ai <| aD rfl (fun c9 => ?_) (fun c9 => ?_)
  ·replace H := aZ c9 H;refine af <| ab ?_;show AR _ _ _ _ _ [0, 1, 2] _;refine zm rfl <| za rfl <| za rfl <| ai <| aP ?_;obtain ⟨rfl, rfl⟩ := fX H;exact And.intro rfl (Exists.intro _ (Exists.intro _ ⟨bH rfl (.nil _) (.refl _), aO [] rfl, rfl, rfl⟩))
  ·replace H := ba c9 H;refine aF <| af ?_;obtain ⟨g10, H⟩ := az H;obtain ⟨x11, e12, H⟩ := bb H;obtain ⟨g15, H⟩ := az H;obtain ⟨x16, e17, H⟩ := bb H;refine ab ?_;show AR _ _ _ _ _ [0, 1, 2, 3, 4] _;refine zS rfl (ag (av := slE _ _ _) rfl) <| ap rfl rfl (AO.callAt [] rfl vd rfl (pl x6 none g10) rfl (fun c A' h => by obtain ⟨_, h, _⟩ := h; cases h) ?_)
   rintro av A' ⟨t13, h, rfl⟩; cases h; rw [e12]
   refine zX rfl (qI (bytes := 1) 0 aa ac rfl (by kernel_rfl) rfl rfl rfl rfl g15 e17) ?_;rintro _ _ ⟨t14, rfl, rfl⟩;refine zS rfl (am (av := slE _ _ _) rfl) <| za rfl <| ai <| aP ?_;obtain ⟨rfl, rfl⟩ := fX H;exact And.intro rfl (Exists.intro _ (Exists.intro _ ⟨bH rfl (.tok _ _ _) (.refl _), aO [] rfl, rfl, rfl⟩))
set_option maxRecDepth 100000 in
set_option maxHeartbeats 1000000 in
theorem rA (F : Nat) (a1 : List UInt8) (q2 : Option Nat) (r3 : List (List UInt8)) (r4 : List UInt8) (r5 : Bool) (H : lX F a1 = some (r3, r4, r5)) : ACalls Tryz.prog 75 [slE Enc.byte a1 q2] [] (Ret (.tup [slE (Enc.sl Enc.byte) r3 none, slE Enc.byte r4 none, B r5]) []) := by
 unfold lX at H
 refine aw Tryz.func75 rfl rfl ?_;show AW _ _ 54 _ _ _;refine af <| ab ?_;show AR _ _ _ _ _ [0, 1, 2] _;refine za rfl <| za rfl <| za rfl <| ai ?_
 refine bL 2 1 26 rfl fun t6 => ?_
 show AW _ _ _ _ _ ⟨(2, slE (Enc.sl Enc.byte) [] (some t6)) :: _, _, _⟩;refine bx (X := (List UInt8) × (List (List UInt8)) × Nat) (fun (y50, y51, t52) => ⟨[(0, slE Enc.byte y50 none), (2, slE (Enc.sl Enc.byte) y51 (some t52))], [], [.tok t52 26]⟩) (fun (y50, y51, t52) => iq y50 y51 = some (r3, r4, r5)) ?_ ?_
 ·refine aJ <| bE (X := Nat × (List UInt8) × (List (List UInt8)) × Nat) (fun (n11, y7, y8, t9) => ⟨[(0, slE Enc.byte y7 none), (2, slE (Enc.sl Enc.byte) y8 (some t9))], [], [.tok t9 26]⟩) (fun (n11, y7, y8, t9) => cJ F n11 (y7, y8) = some (r3, r4, r5)) (fun (n11, y7, y8, t9) => n11) (F, a1, [], t6) H (aU [0] (.cons (.tok _ _ _) (.cons (.refl _) (.nil _))) rfl) ?_;rintro ⟨n11, y7, y8, t9⟩ H;obtain ⟨n11, rfl, H⟩ := bX H;replace H : ir F (cJ F n11) y7 y8 = some (r3, r4, r5) := H
  unfold ir at H
  refine af <| af ?_;obtain ⟨x13, e14, H⟩ := bb H;refine ab ?_;show AR _ _ _ _ _ [0, 1, 2, 3, 4] _;refine zS rfl (ag (av := slE _ _ _) rfl) <| zX rfl (kM (E := Enc.byte) (bytes := 1) (xs := [.const _, .const _]) (l := ([13, 10] : List UInt8)) aa (by kernel_rfl) rfl rfl (by decide) rfl rfl) ?_;rintro _ _ ⟨t12, rfl, rfl⟩;refine zR rfl (hC 0 aa au rfl (by simp) rfl) <| ap rfl rfl (aW rfl vj rfl (show ACalls _ _ _ [] (Ret (B x13) []) from by subst e14; exact iB y7 ([13, 10] : List UInt8) none (some t12)) ?_);refine zS rfl (cx rfl) <| ai <| aD rfl (fun c15 => ?_) (fun c15 => ?_)
  ·replace H := aZ c15 H;refine aF <| aJ <| af <| ab ?_;show AR _ _ _ _ _ [0] _;refine za rfl <| ai <| bx (X := Int) (fun y38 => ⟨[(0, slE Enc.byte y7 none), (2, slE (Enc.sl Enc.byte) y8 (some t9)), (5, i64 y38)], [], [.tok t9 26]⟩) (fun y38 => fp y7 y8 (cJ F n11) y38 = some (r3, r4, r5)) ?_ ?_
   ·refine aJ <| bE (X := Nat × Int) (fun (n18, y16) => ⟨[(0, slE Enc.byte y7 none), (2, slE (Enc.sl Enc.byte) y8 (some t9)), (5, i64 y16)], [], [.tok t9 26]⟩) (fun (n18, y16) => fq y7 y8 (cJ F n11) n18 y16 = some (r3, r4, r5)) (fun (n18, y16) => n18) (F, 0) H (aU [1] (.cons (.refl _) (.cons (.refl _) (.cons (.refl _) (.nil _)))) rfl) ?_;rintro ⟨n18, y16⟩ H;obtain ⟨n18, rfl, H⟩ := bX H;replace H : dY y7 y8 (cJ F n11) (fq y7 y8 (cJ F n11) n18) y16 = some (r3, r4, r5) := H
    unfold dY at H
    refine af <| af ?_;obtain ⟨g21, H⟩ := cb H;obtain ⟨x22, e23, H⟩ := bb H;refine ab ?_;show AR _ _ _ _ _ [0, 1, 2, 3, 4, 5, 6, 7, 8, 9, 10, 11, 12, 13, 14] _;refine zm rfl <| zS rfl (dm rfl rfl) <| zm rfl <| aQ (l := []) 26 (B ((decide (y16 = 0)) || ((decide (y16 < (y7.length : Int))) && (decide (x22 = 32))))) (fun K => ?_) ?_
    ·rcases ah (decide (y16 = 0)) with h19 | h19
     ·refine zF h19 rfl <| zF h19 rfl <| zF h19 rfl <| zF h19 rfl <| zF h19 rfl <| gU rfl rfl rfl rfl rfl <| gU rfl rfl rfl rfl rfl <| gU rfl rfl rfl rfl rfl <| gU rfl rfl rfl rfl rfl <| gU rfl rfl rfl rfl rfl <| zF h19 rfl <| zS rfl (ax (av := .v _) rfl h19 rfl) ?_;exact K _ 11 _ (an (dC h19)) rfl rfl
     ·refine zM h19 rfl <| zU h19 rfl (ag (av := slE _ _ _) rfl) <| zU h19 rfl (aH aa rfl) <| zU h19 rfl (bB rfl rfl) <| zM h19 rfl <| aQ (l := [14]) 25 (B ((decide (y16 < (y7.length : Int))) && (decide (x22 = 32)))) (fun K => ?_) ?_
      ·rcases ah (decide (y16 < (y7.length : Int))) with h20 | h20
       ·refine zU h20 rfl (ag (av := slE _ _ _) rfl) <| zM h20 rfl <| zU h20 rfl (aY (E := Enc.byte) aa (by kernel_rfl) rfl rfl (g21 (mn (nf h19) h20)) e23) <| zU h20 rfl (aL au rfl rfl) <| zU h20 rfl (dt (a := x22) (b := 32) rfl rfl) <| zU h19 rfl (ax (av := .v _) rfl h20 rfl) ?_;exact K _ 5 _ (an (cc h20)) rfl rfl
       ·refine zF h20 rfl <| zF h20 rfl <| zF h20 rfl <| zF h20 rfl <| zF h20 rfl <| zU h19 rfl (ay (av := .v _) rfl h20 rfl) ?_;exact K _ 5 _ (an (cd h20)) rfl rfl
      refine zS rfl (ay (av := .v _) rfl h19 rfl) ?_;exact K _ 6 _ (an (dD h19)) rfl rfl
    refine ai <| aD rfl (fun c24 => ?_) (fun c24 => ?_)
    ·replace H := aZ c24 H;refine aF <| aJ <| af ?_;obtain ⟨g25, H⟩ := az H;obtain ⟨x26, e27, H⟩ := bb H;obtain ⟨g29, H⟩ := az H;obtain ⟨g30, H⟩ := az H;obtain ⟨g31, H⟩ := az H;obtain ⟨x32, e33, H⟩ := bb H;refine ab ?_;show AR _ _ _ _ _ [0, 1, 2, 3, 4, 5, 6] _;refine zS rfl (ag (av := slE _ _ _) rfl) <| zm rfl <| zS rfl (gx (E := Enc.byte) aa (by kernel_rfl) rfl rfl g25 e27) <| zX rfl (kM (E := Enc.byte) (bytes := 1) (xs := [.const _, .const _]) (l := ([13, 10] : List UInt8)) aa (by kernel_rfl) rfl rfl (by decide) rfl rfl) ?_;rintro _ _ ⟨t28, rfl, rfl⟩;refine zR rfl (hC 0 aa au rfl (by simp) rfl) <| ap rfl rfl (aW rfl vB rfl (show ACalls _ _ _ [] (Ret (i64 x32) []) from by subst e33; exact my x26 ([13, 10] : List UInt8) none (some t28) (kU g29) (of_decide_eq_true g30) (kU g31)) ?_);refine za rfl <| ai <| af <| af <| ab ?_;show AR _ _ _ _ _ [0, 1] _;refine zm rfl <| zS rfl (bB rfl rfl) <| ai <| aD rfl (fun c34 => ?_) (fun c34 => ?_)
     ·replace H := aZ c34 H;refine af <| ab ?_;show AR _ _ _ _ _ [0, 1, 2] _;refine za rfl <| za rfl <| za rfl <| ai ?_
      refine bL 2 1 26 rfl fun t35 => ?_
      show AW _ _ _ _ _ ⟨(2, slE (Enc.sl Enc.byte) [] (some t35)) :: _, _, _⟩;refine aP ?_;obtain ⟨rfl, rfl, rfl⟩ := gz H;exact And.intro rfl (Exists.intro _ (Exists.intro _ ⟨bp rfl (.tok _ _ _) (.nil _) (.refl _), aO [] rfl, rfl, rfl⟩))
     ·replace H := ba c34 H;refine aF ?_;obtain ⟨g36, H⟩ := az H;obtain ⟨g37, H⟩ := az H;refine ab ?_;show AR _ _ _ _ _ [0, 1, 2, 3, 4] _;refine zm rfl <| zm rfl <| zS rfl (bk rfl rfl g36) <| zS rfl (bk rfl rfl g37) <| za rfl <| ai ?_;exact Exists.intro (n18, y16 + (x32 + 2)) ⟨H, Nat.lt_succ_self _, aU [1] (.cons (.refl _) (.cons (.refl _) (.cons (.refl _) (.nil _)))) rfl⟩
    ·replace H := ba c24 H;refine bz ?_;exact Exists.intro y16 ⟨H, aU [0] (.cons (.refl _) (.cons (.refl _) (.cons (.refl _) (.nil _)))) rfl⟩
   rintro y38 H;replace H : fp y7 y8 (cJ F n11) y38 = some (r3, r4, r5) := H
   unfold fp at H
   obtain ⟨g40, H⟩ := az H;obtain ⟨x41, e42, H⟩ := bb H;obtain ⟨g43, H⟩ := az H;obtain ⟨x44, e45, H⟩ := bb H;obtain ⟨g47, H⟩ := az H;obtain ⟨x48, e49, H⟩ := bb H;refine bW (by kernel_rfl) ?_;show AI _ _ _ _ _ 11 (Array.replicate 11 false) _;refine zk 0 rfl (ag (av := slE _ _ _) rfl) ?_;show AI _ _ _ _ _ _ #[true, false, false, false, false, false, false, false, false, false, false] _;refine zk 1 rfl (ag (av := slE _ _ _) rfl) ?_;show AI _ _ _ _ _ _ #[true, true, false, false, false, false, false, false, false, false, false] _;refine zk 2 rfl (mv rfl) ?_;show AI _ _ _ _ _ _ #[true, true, true, false, false, false, false, false, false, false, false] _;refine zk 3 rfl (lu (E := Enc.byte) aa (by kernel_rfl) rfl rfl g40 e42) ?_;show AI _ _ _ _ _ _ #[true, true, true, true, false, false, false, false, false, false, false] _;refine zk 6 rfl (ag (av := slE _ _ _) rfl) ?_;show AI _ _ _ _ _ _ #[true, true, true, true, false, false, true, false, false, false, false] _;refine zk 7 rfl (mv rfl) ?_;show AI _ _ _ _ _ _ #[true, true, true, true, false, false, true, true, false, false, false] _;refine zk 8 rfl (gx (E := Enc.byte) aa (by kernel_rfl) rfl rfl g43 e45) ?_;show AI _ _ _ _ _ _ #[true, true, true, true, false, false, true, true, true, false, false] _;refine bf (i := 4) (by kernel_rfl) rfl rfl <| be rfl (bh (E := (Enc.sl Enc.byte)) (bytes := 24) (xs := [.tmp 42]) (l := ([x41] : List (List UInt8))) aC (by kernel_rfl) rfl rfl (by decide) rfl rfl) ?_
   show AI _ _ _ _ _ _ #[true, true, true, true, true, false, true, true, true, false, false] _;refine bf (i := 5) (by kernel_rfl) rfl rfl <| bS rfl (bA (E := (Enc.sl Enc.byte)) (bytes := 24) 0 aC aC rfl (by kernel_rfl) rfl rfl rfl rfl g47 e49) ?_;rintro _ _ ⟨t46, rfl, rfl⟩;show AI _ _ _ _ _ _ #[true, true, true, true, true, true, true, true, true, false, false] _;refine zk 9 rfl (am (av := slE _ _ _) rfl) ?_;show AI _ _ _ _ _ _ #[true, true, true, true, true, true, true, true, true, true, false] _;refine zk 10 rfl (am (av := slE _ _ _) rfl) ?_;show AI _ _ _ _ _ _ #[true, true, true, true, true, true, true, true, true, true, true] _;refine bN rfl ?_;exact Exists.intro (n11, x44, x48, t46) ⟨H, Nat.lt_succ_self _, aU [0] (.cons (.refl _) (.cons (.refl _) (.nil _))) rfl⟩
  ·replace H := ba c15 H;refine bz ?_;exact Exists.intro (y7, y8, t9) ⟨H, aU [1] (.cons (.refl _) (.cons (.refl _) (.nil _))) rfl⟩
 rintro ⟨y50, y51, t52⟩ H;replace H : iq y50 y51 = some (r3, r4, r5) := H
 unfold iq at H
 refine af ?_;obtain ⟨g54, H⟩ := az H;obtain ⟨x55, e56, H⟩ := bb H;refine bW (by kernel_rfl) ?_;show AI _ _ _ _ _ 9 (Array.replicate 9 false) _;refine zk 0 rfl (ag (av := slE _ _ _) rfl) ?_;show AI _ _ _ _ _ _ #[true, false, false, false, false, false, false, false, false] _;refine zk 1 rfl (ag (av := slE _ _ _) rfl) ?_;show AI _ _ _ _ _ _ #[true, true, false, false, false, false, false, false, false] _;refine zk 2 rfl (gx (E := Enc.byte) aa (by kernel_rfl) rfl rfl g54 e56) ?_;show AI _ _ _ _ _ _ #[true, true, true, false, false, false, false, false, false] _;refine zk 3 rfl (ag (av := slE _ _ _) rfl) ?_;show AI _ _ _ _ _ _ #[true, true, true, true, false, false, false, false, false] _;refine zk 4 rfl (aH aC rfl) ?_;show AI _ _ _ _ _ _ #[true, true, true, true, true, false, false, false, false] _;refine zk 5 rfl (dd rfl rfl) ?_;show AI _ _ _ _ _ _ #[true, true, true, true, true, true, false, false, false] _;refine zk 6 rfl (am (av := slE _ _ _) rfl) ?_;show AI _ _ _ _ _ _ #[true, true, true, true, true, true, true, false, false] _;refine zk 7 rfl (am (av := slE _ _ _) rfl) ?_;show AI _ _ _ _ _ _ #[true, true, true, true, true, true, true, true, false] _;refine zk 8 rfl (asg rfl) ?_;show AI _ _ _ _ _ _ #[true, true, true, true, true, true, true, true, true] _;refine bN rfl <| aP ?_;obtain ⟨rfl, rfl, rfl⟩ := gz H;exact And.intro rfl (Exists.intro _ (Exists.intro _ ⟨bp rfl (.tok _ _ _) (.refl _) (.refl _), aO [] rfl, rfl, rfl⟩))
set_option maxRecDepth 100000 in
set_option maxHeartbeats 1000000 in
theorem uk (F : Nat) (a1 : List UInt8) (q2 : Option Nat) (r3 : List ((List UInt8) × List UInt8)) (r4 : List UInt8) (r5 : Int) (H : mI F a1 = some (r3, r4, r5)) : ACalls Tryz.prog 55 [slE Enc.byte a1 q2] [] (Ret (.tup [slE (cA Enc.str Enc.str) r3 none, slE Enc.byte r4 none, i64 r5]) []) := by
 unfold mI at H
 refine aw Tryz.func55 rfl rfl ?_;show AW _ _ 28 _ _ _;refine af <| ab ?_;show AR _ _ _ _ _ [0, 1, 2] _;refine za rfl <| za rfl <| za rfl <| ai <| af ?_;obtain ⟨x6, x7, x8, e9, H⟩ := kj H;refine ab ?_;show AR _ _ _ _ _ [0, 1, 2, 3, 4, 5, 6, 7, 8] _;refine zS rfl (ag (av := slE _ _ _) rfl) <| ap rfl rfl (aW rfl vc rfl (rA F a1 q2 x6 x7 x8 e9) ?_);refine zS rfl (ag (av := .tup _) rfl) <| zS rfl (aI (av := slE _ _ _) rfl rfl) <| zS rfl (aI (av := slE _ _ _) rfl rfl) <| zS rfl (aI (av := .v _) rfl rfl) <| zS rfl (am (av := slE _ _ _) rfl) <| zS rfl (am (av := slE _ _ _) rfl) <| za rfl <| ai <| af <| af <| ab ?_;show AR _ _ _ _ _ [0, 1] _;refine zm rfl <| zS rfl (cx rfl) <| ai <| aD rfl (fun c10 => ?_) (fun c10 => ?_)
 ·replace H := aZ c10 H;refine af <| ab ?_;show AR _ _ _ _ _ [0, 1, 2] _;refine za rfl <| za rfl <| za rfl <| ai <| aP ?_;obtain ⟨rfl, rfl, rfl⟩ := gz H;exact And.intro rfl (Exists.intro _ (Exists.intro _ ⟨bp rfl (.nil _) (.nil _) (.refl _), aO [] rfl, rfl, rfl⟩))
 ·replace H := ba c10 H;refine aF <| af ?_;obtain ⟨x11, x12, e13, H⟩ := eK H;refine ab ?_;show AR _ _ _ _ _ [0, 1, 2, 3, 4, 5, 6] _;refine zS rfl (ag (av := slE _ _ _) rfl) <| ap rfl rfl (aW rfl vb rfl (rB F x6 none x11 x12 e13) ?_);refine zS rfl (ag (av := .tup _) rfl) <| zS rfl (aI (av := slE _ _ _) rfl rfl) <| zS rfl (aI (av := .v _) rfl rfl) <| zS rfl (am (av := slE _ _ _) rfl) <| za rfl <| ai <| af <| af <| ab ?_;show AR _ _ _ _ _ [0, 1] _;refine zm rfl <| zS rfl (dv rfl rfl) <| ai <| aD rfl (fun c14 => ?_) (fun c14 => ?_)
  ·replace H := aZ c14 H;refine af <| ab ?_;show AR _ _ _ _ _ [0, 1, 2] _;refine za rfl <| za rfl <| za rfl <| ai <| aP ?_;obtain ⟨rfl, rfl, rfl⟩ := gz H;exact And.intro rfl (Exists.intro _ (Exists.intro _ ⟨bp rfl (.nil _) (.nil _) (.refl _), aO [] rfl, rfl, rfl⟩))
  ·replace H := ba c14 H;refine aF <| af ?_;obtain ⟨g15, H⟩ := az H;obtain ⟨x16, e17, H⟩ := bb H;refine ab ?_;show AR _ _ _ _ _ [0, 1, 2, 3, 4, 5] _;refine zS rfl (ag (av := slE _ _ _) rfl) <| zS rfl (ag (av := slE _ _ _) rfl) <| ap rfl rfl (aW rfl uZ rfl (show ACalls _ _ _ [] (Ret (slE Enc.byte x16 none) []) from by subst e17; exact pm x7 none (kU g15)) ?_);refine zS rfl (am (av := slE _ _ _) rfl) <| zS rfl (am (av := slE _ _ _) rfl) <| za rfl <| ai <| aP ?_;obtain ⟨rfl, rfl, rfl⟩ := gz H;exact And.intro rfl (Exists.intro _ (Exists.intro _ ⟨bp rfl (.refl _) (.refl _) (.refl _), aO [] rfl, rfl, rfl⟩))
end Go.Proofs.YtdaafnaokdigbaaGreatDoor
namespace Go.Pv
def nz : List UInt8 := [97, 98, 99, 100, 101, 102, 103, 104, 105, 106, 107, 108, 109, 110, 111, 112, 113, 114, 115, 116, 117, 118, 119, 120, 121, 122, 48, 49, 50, 51, 52, 53, 54, 55, 56, 57, 47, 45, 61, 59, 32]
def parta_k2 : List UInt8 := [67, 111, 110, 116, 101, 110, 116, 45, 84, 114, 97, 110, 115, 102, 101, 114, 45, 69, 110, 99, 111, 100, 105, 110, 103]
def lF (F : Nat) (a1 : List UInt8) (a4 : List UInt8) : Option Bool :=
grd (bw a4.length) <|
grd (okS a1.length) <|
grd (decide (2 ≤ a4.length)) <|
grd (okS a4.length) <|
lt (Go.Lib.contains a1 a4) fun x11 =>
some x11
def fP : Option Int :=
some (-1)
def fR (F : Nat) (a1 : List (List UInt8)) (a4 : List UInt8) (rec7 : Int → Option Int) (y6 : Int) : Option Int :=
bif decide (y6 < (a1.length : Int)) then
  grd (bQ y6 a1.length) <|
  lt (at_ a1 y6) fun x11 =>
  bnd (lF F x11 a4) fun x13 =>
  bif x13 then
    some y6
  else
    grd (okI (y6 + 1)) <|
    rec7 (y6 + 1)
else
  fP
def fQ (F : Nat) (a1 : List (List UInt8)) (a4 : List UInt8) (n : Nat) : Int → Option Int :=
  loop (fun rec x => fR F a1 a4 rec x) n
def la (F : Nat) (a1 : List (List UInt8)) (a4 : List UInt8) : Option Int :=
fQ F a1 a4 F 0
def ew (F : Nat) (a1 : List (List UInt8)) (a4 : List UInt8) : Option Bool :=
bnd (la F a1 a4) fun x6 =>
some (decide (0 ≤ x6))
def ei (F : Nat) (a1 : List (List UInt8)) (rec5 : Int → Option ((List UInt8))) (y4 : Int) : Option ((List UInt8)) :=
grd (okI y4) <|
lt (Go.Lib.itoa y4) fun x8 =>
grd (bw (([61, 95] : List UInt8).length + x8.length)) <|
lt (([61, 95] : List UInt8) ++ x8) fun x11 =>
bnd (ew F a1 x11) fun x14 =>
bif !x14 then
  some x11
else
  grd (okI (y4 + 1)) <|
  rec5 (y4 + 1)
def eh (F : Nat) (a1 : List (List UInt8)) (n : Nat) : Int → Option ((List UInt8)) :=
  loop (fun rec x => ei F a1 rec x) n
def gZ (F : Nat) (a1 : List (List UInt8)) : Option ((List UInt8)) :=
eh F a1 F 0
def eN (a1 : List UInt8) : Option Bool :=
cz ((!decide (a1 = ([] : List UInt8))) && (decide ((a1.length : Int) ≤ 60))) (okS a1.length) <|
lt (Go.Lib.trimB a1 32) fun x18 =>
cz (((!decide (a1 = ([] : List UInt8))) && (decide ((a1.length : Int) ≤ 60))) && (decide (x18 = a1))) (okS a1.length) <|
lt (Go.Lib.contains a1 ([32, 32] : List UInt8)) fun x22 =>
some ((((!decide (a1 = ([] : List UInt8))) && (decide ((a1.length : Int) ≤ 60))) && (decide (x18 = a1))) && (!x22))
def jk (a1 : List UInt8) (rec4 : Int → Option Bool) (y3 : Int) : Option Bool :=
bif decide (y3 < (a1.length : Int)) then
  grd (bQ y3 a1.length) <|
  lt (at_ a1 y3) fun x8 =>
  lt (Go.Lib.indexByte nz x8) fun x10 =>
  bif decide (x10 < 0) then
    some false
  else
    grd (okI (y3 + 1)) <|
    rec4 (y3 + 1)
else
  eN a1
def jj (a1 : List UInt8) (n : Nat) : Int → Option Bool :=
  loop (fun rec x => jk a1 rec x) n
def mP (F : Nat) (a1 : List UInt8) : Option Bool :=
jj a1 F 0
def mO (F : Nat) (a1 : List UInt8) : Option Bool :=
bnd (mP F a1) fun x3 =>
some (!x3)
def fM : Option Int :=
some (-1)
def fO (F : Nat) (a1 : List (List UInt8)) (rec5 : Int → Option Int) (y4 : Int) : Option Int :=
bif decide (y4 < (a1.length : Int)) then
  grd (bQ y4 a1.length) <|
  lt (at_ a1 y4) fun x9 =>
  bnd (mO F x9) fun x11 =>
  bif x11 then
    some y4
  else
    grd (okI (y4 + 1)) <|
    rec5 (y4 + 1)
else
  fM
def fN (F : Nat) (a1 : List (List UInt8)) (n : Nat) : Int → Option Int :=
  loop (fun rec x => fO F a1 rec x) n
def kZ (F : Nat) (a1 : List (List UInt8)) : Option Int :=
fN F a1 F 0
def fS (F : Nat) (a1 : List (List UInt8)) : Option Bool :=
bnd (kZ F a1) fun x4 =>
some (decide (0 ≤ x4))
def kd (a6 : List UInt8) (x10 : List UInt8) (y24 : List UInt8) : Option ((List UInt8)) :=
grd (bw (y24.length + x10.length)) <|
lt (y24 ++ x10) fun x29 =>
grd (bw (x29.length + a6.length)) <|
lt (x29 ++ a6) fun x33 =>
grd (bw (x33.length + ([13, 10] : List UInt8).length)) <|
lt (x33 ++ ([13, 10] : List UInt8)) fun x37 =>
some x37
def mG (F : Nat) (a2 : List UInt8) (a4 : List UInt8) (a5 : List UInt8) (a6 : List UInt8) : Option ((List UInt8)) :=
kV (lL F ([(([67, 111, 110, 116, 101, 110, 116, 45, 84, 121, 112, 101] : List UInt8), a5), (parta_k2, ([113, 117, 111, 116, 101, 100, 45, 112, 114, 105, 110, 116, 97, 98, 108, 101] : List UInt8))] : List ((List UInt8) × List UInt8))) fun x10 x11 =>
grd (bw (([45, 45] : List UInt8).length + a4.length)) <|
lt (([45, 45] : List UInt8) ++ a4) fun x14 =>
grd (bw (x14.length + ([13, 10] : List UInt8).length)) <|
lt (x14 ++ ([13, 10] : List UInt8)) fun x17 =>
grd (bw (a2.length + x17.length)) <|
lt (a2 ++ x17) fun x21 =>
kd a6 x10 x21
def jl (x34 : List UInt8) (y54 : List UInt8) : Option ((List UInt8) × (List UInt8) × Int) :=
grd (bw (([45, 45] : List UInt8).length + x34.length)) <|
lt (([45, 45] : List UInt8) ++ x34) fun x58 =>
grd (bw (x58.length + ([45, 45] : List UInt8).length)) <|
lt (x58 ++ ([45, 45] : List UInt8)) fun x61 =>
grd (bw (x61.length + ([13, 10] : List UInt8).length)) <|
lt (x61 ++ ([13, 10] : List UInt8)) fun x64 =>
grd (bw (y54.length + x64.length)) <|
lt (y54 ++ x64) fun x68 =>
some (x68, x34, 0)
def jq (F : Nat) (a1 : List (List UInt8)) (y31 : List (List UInt8)) (x34 : List UInt8) (rec41 : (Int × (List UInt8)) → Option ((List UInt8) × (List UInt8) × Int)) (y38 : Int) (y39 : List UInt8) : Option ((List UInt8) × (List UInt8) × Int) :=
bif decide (y38 < (y31.length : Int)) then
  grd (bQ y38 y31.length) <|
  lt (at_ y31 y38) fun x45 =>
  grd (bQ y38 a1.length) <|
  lt (at_ a1 y38) fun x48 =>
  bnd (mG F y39 x34 x48 x45) fun x50 =>
  grd (okI (y38 + 1)) <|
  rec41 (y38 + 1, x50)
else
  jl x34 y39
def jo (F : Nat) (a1 : List (List UInt8)) (y31 : List (List UInt8)) (x34 : List UInt8) (n : Nat) : (Int × (List UInt8)) → Option ((List UInt8) × (List UInt8) × Int) :=
  loop (fun rec x => jq F a1 y31 x34 rec x.1 x.2) n
def gl (F : Nat) (a1 : List (List UInt8)) (y31 : List (List UInt8)) : Option ((List UInt8) × (List UInt8) × Int) :=
bnd (gZ F y31) fun x34 =>
jo F a1 y31 x34 F (0, [])
def jp (F : Nat) (a1 : List (List UInt8)) (a3 : List (List UInt8)) (rec18 : ((List (List UInt8)) × Int) → Option ((List UInt8) × (List UInt8) × Int)) (y15 : List (List UInt8)) (y17 : Int) : Option ((List UInt8) × (List UInt8) × Int) :=
bif decide (y17 < (a3.length : Int)) then
  grd (bQ y17 a3.length) <|
  lt (at_ a3 y17) fun x22 =>
  bnd (mM F x22) fun x24 =>
  grd (bw (y15.length + ([x24] : List (List UInt8)).length)) <|
  lt (y15 ++ ([x24] : List (List UInt8))) fun x28 =>
  grd (okI (y17 + 1)) <|
  rec18 (x28, y17 + 1)
else
  gl F a1 y15
def jm (F : Nat) (a1 : List (List UInt8)) (a3 : List (List UInt8)) (n : Nat) : ((List (List UInt8)) × Int) → Option ((List UInt8) × (List UInt8) × Int) :=
  loop (fun rec x => jp F a1 a3 rec x.1 x.2) n
def kE (F : Nat) (a1 : List (List UInt8)) (a3 : List (List UInt8)) : Option ((List UInt8) × (List UInt8) × Int) :=
bndc (!(((!decide ((a1.length : Int) = (a3.length : Int))) || (decide ((a3.length : Int) = 0))) || (decide (8 < (a3.length : Int))))) (fS F a1) fun x11 =>
bif (((!decide ((a1.length : Int) = (a3.length : Int))) || (decide ((a3.length : Int) = 0))) || (decide (8 < (a3.length : Int)))) || x11 then
  some ([], ([] : List UInt8), 1)
else
  jm F a1 a3 F ([], 0)
def mH (F : Nat) (a1 : List UInt8) : Option ((List UInt8) × (List UInt8) × Bool) :=
nV (mI F a1) fun x6 x7 x8 =>
bif ((!decide (x8 = 0)) || (!decide ((x6.length : Int) = 2))) || (decide ((x7.length : Int) < 2)) then
  some (([] : List UInt8), [], false)
else
  grd (okI ((x7.length : Int) - 2)) <|
  grd (gA ((x7.length : Int) - 2) x7.length) <|
  lt (to_ x7 ((x7.length : Int) - 2)) fun x15 =>
  kV (mN F x15) fun x17 x18 =>
  grd (bQ 0 x6.length) <|
  lt (at_ x6 0) fun x21 =>
  some (x21.2, x17, decide (x18 = 0))
def dX (F : Nat) (a1 : List UInt8) (a3 : List UInt8) (y63 : List (List UInt8)) (y65 : List (List UInt8)) : Option ((List (List UInt8)) × (List (List UInt8)) × Int) :=
nV (kE F y63 y65) fun x68 x69 x70 =>
lt (decide (x68 = a1)) fun x74 =>
bif ((!decide (x70 = 0)) || (!decide (x69 = a3))) || (!x74) then
  some ([], [], 2)
else
  some (y63, y65, 0)
def gY (F : Nat) (a1 : List UInt8) (a3 : List UInt8) (rec14 : ((List (List UInt8)) × (List (List UInt8)) × (List UInt8)) → Option ((List (List UInt8)) × (List (List UInt8)) × Int)) (y9 : List (List UInt8)) (y11 : List (List UInt8)) (y13 : List UInt8) : Option ((List (List UInt8)) × (List (List UInt8)) × Int) :=
bif decide ((y11.length : Int) ≤ 8) then
  grd (bw (([45, 45] : List UInt8).length + a3.length)) <|
  lt (([45, 45] : List UInt8) ++ a3) fun x18 =>
  grd (bw (x18.length + ([13, 10] : List UInt8).length)) <|
  lt (x18 ++ ([13, 10] : List UInt8)) fun x21 =>
  grd (bw x21.length) <|
  grd (decide (1 ≤ x21.length)) <|
  lt (Go.Lib.trimPrefix y13 x21, Go.Lib.hasPrefix y13 x21) fun x26 =>
  bif !x26.2 then
    dX F a1 a3 y9 y11
  else
    grd (bw (([45, 45] : List UInt8).length + a3.length)) <|
    lt (([45, 45] : List UInt8) ++ a3) fun x30 =>
    grd (bw x30.length) <|
    grd (okS x26.1.length) <|
    grd (decide (2 ≤ x30.length)) <|
    grd (okS x30.length) <|
    lt (Go.Lib.index x26.1 x30) fun x37 =>
    bif decide (x37 < 0) then
      some ([], [], 2)
    else
      grd (gA x37 x26.1.length) <|
      lt (to_ x26.1 x37) fun x41 =>
      nV (mH F x41) fun x43 x44 x45 =>
      bif !x45 then
        some ([], [], 2)
      else
        grd (gA x37 x26.1.length) <|
        lt (jA x26.1 x37) fun x49 =>
        grd (bw (y9.length + ([x43] : List (List UInt8)).length)) <|
        lt (y9 ++ ([x43] : List (List UInt8))) fun x53 =>
        grd (bw (y11.length + ([x44] : List (List UInt8)).length)) <|
        lt (y11 ++ ([x44] : List (List UInt8))) fun x57 =>
        rec14 (x53, x57, x49)
else
  dX F a1 a3 y9 y11
def gX (F : Nat) (a1 : List UInt8) (a3 : List UInt8) (n : Nat) : ((List (List UInt8)) × (List (List UInt8)) × (List UInt8)) → Option ((List (List UInt8)) × (List (List UInt8)) × Int) :=
  loop (fun rec x => gY F a1 a3 rec x.1 x.2.1 x.2.2) n
def jI (F : Nat) (a1 : List UInt8) (a3 : List UInt8) : Option ((List (List UInt8)) × (List (List UInt8)) × Int) :=
gX F a1 a3 F ([], [], a1)
end Go.Pv
namespace Go.Proofs.YtdaafnaokdigbaaGreatDoor
open Go.RowKit Go.Av Go.Pv
theorem vW : ∀ (args : Array Value) (w : World), (callFunc 10 args).run Tryz.prog w = .ok (.enter 10 args) w := fun _ _ => by kernel_rfl
theorem vT : ∀ (args : Array Value) (w : World), (callFunc 12 args).run Tryz.prog w = .ok (.enter 12 args) w := fun _ _ => by kernel_rfl
theorem vO : ∀ (args : Array Value) (w : World), (callFunc 20 args).run Tryz.prog w = .ok (.enter 20 args) w := fun _ _ => by kernel_rfl
theorem vN : ∀ (args : Array Value) (w : World), (callFunc 21 args).run Tryz.prog w = .ok (.enter 21 args) w := fun _ _ => by kernel_rfl
theorem vM : ∀ (args : Array Value) (w : World), (callFunc 22 args).run Tryz.prog w = .ok (.enter 22 args) w := fun _ _ => by kernel_rfl
theorem vL : ∀ (args : Array Value) (w : World), (callFunc 23 args).run Tryz.prog w = .ok (.enter 23 args) w := fun _ _ => by kernel_rfl
theorem vK : ∀ (args : Array Value) (w : World), (callFunc 24 args).run Tryz.prog w = .ok (.enter 24 args) w := fun _ _ => by kernel_rfl
theorem vH : ∀ (args : Array Value) (w : World), (callFunc 27 args).run Tryz.prog w = .ok (.enter 27 args) w := fun _ _ => by kernel_rfl
theorem vG : ∀ (args : Array Value) (w : World), (callFunc 28 args).run Tryz.prog w = .ok (.enter 28 args) w := fun _ _ => by kernel_rfl
theorem vF : ∀ (args : Array Value) (w : World), (callFunc 29 args).run Tryz.prog w = .ok (.enter 29 args) w := fun _ _ => by kernel_rfl
theorem vE : ∀ (args : Array Value) (w : World), (callFunc 30 args).run Tryz.prog w = .ok (.enter 30 args) w := fun _ _ => by kernel_rfl
theorem vC : ∀ (args : Array Value) (w : World), (callFunc 33 args).run Tryz.prog w = .ok (.enter 33 args) w := fun _ _ => by kernel_rfl
theorem vA : ∀ (args : Array Value) (w : World), (callFunc 34 args).run Tryz.prog w = .ok (.enter 34 args) w := fun _ _ => by kernel_rfl
theorem vz : ∀ (args : Array Value) (w : World), (callFunc 35 args).run Tryz.prog w = .ok (.enter 35 args) w := fun _ _ => by kernel_rfl
theorem vx : ∀ (args : Array Value) (w : World), (callFunc 36 args).run Tryz.prog w = .ok (.enter 36 args) w := fun _ _ => by kernel_rfl
theorem vr : ∀ (args : Array Value) (w : World), (callFunc 40 args).run Tryz.prog w = .ok (.enter 40 args) w := fun _ _ => by kernel_rfl
theorem vq : ∀ (args : Array Value) (w : World), (callFunc 41 args).run Tryz.prog w = .ok (.enter 41 args) w := fun _ _ => by kernel_rfl
theorem vo : ∀ (args : Array Value) (w : World), (callFunc 42 args).run Tryz.prog w = .ok (.enter 42 args) w := fun _ _ => by kernel_rfl
theorem vn : ∀ (args : Array Value) (w : World), (callFunc 43 args).run Tryz.prog w = .ok (.enter 43 args) w := fun _ _ => by kernel_rfl
theorem vm : ∀ (args : Array Value) (w : World), (callFunc 46 args).run Tryz.prog w = .ok (.enter 46 args) w := fun _ _ => by kernel_rfl
theorem vk : ∀ (args : Array Value) (w : World), (callFunc 49 args).run Tryz.prog w = .ok (.enter 49 args) w := fun _ _ => by kernel_rfl
theorem vi : ∀ (args : Array Value) (w : World), (callFunc 55 args).run Tryz.prog w = .ok (.enter 55 args) w := fun _ _ => by kernel_rfl
theorem vh : ∀ (args : Array Value) (w : World), (callFunc 56 args).run Tryz.prog w = .ok (.enter 56 args) w := fun _ _ => by kernel_rfl
set_option maxRecDepth 100000 in
set_option maxHeartbeats 1000000 in
theorem sH (F : Nat) (a1 : List UInt8) (q2 : Option Nat) (o3 : Nat) (a4 : List UInt8) (r5 : Bool) (H : lF F a1 a4 = some r5) : ACalls Tryz.prog 29 [slE Enc.byte a1 q2, .pt o3 0] [.obj o3 [S a4]] (fun e A' => e = .ret (B r5) ∧ A' = [.obj o3 [S a4]]) := by
 unfold lF at H
 refine aw Tryz.func29 rfl rfl ?_;show AW _ _ 8 _ _ _;refine af <| ab ?_;show AR _ _ _ _ _ [0] _;refine za rfl <| ai <| af ?_;obtain ⟨g6, H⟩ := az H;obtain ⟨g8, H⟩ := az H;obtain ⟨g9, H⟩ := az H;obtain ⟨g10, H⟩ := az H;obtain ⟨x11, e12, H⟩ := bb H;refine ab ?_;show AR _ _ _ _ _ [0, 1, 2, 3, 4] _;refine zS rfl (ag (av := slE _ _ _) rfl) <| zR rfl (ao (i := 0) ac rfl rfl rfl rfl) <| zX rfl (cQ (bytes := 1) ac aa au rfl g6) ?_;rintro _ _ ⟨t7, rfl, rfl⟩;refine ap rfl rfl (aW rfl vE rfl (show ACalls _ _ _ [] (Ret (B x11) []) from by subst e12; exact nt a1 a4 q2 (some t7) (kU g8) (of_decide_eq_true g9) (kU g10)) ?_);refine za rfl <| ai <| aP ?_;obtain rfl := ak H;exact And.intro rfl (Exists.intro _ (Exists.intro _ ⟨aV rfl (.refl _), aO [1] rfl, rfl, rfl⟩))
set_option maxRecDepth 100000 in
set_option maxHeartbeats 1000000 in
theorem qr (F : Nat) (a1 : List (List UInt8)) (q2 : Option Nat) (o3 : Nat) (a4 : List UInt8) (r5 : Int) (H : la F a1 a4 = some r5) : ACalls Tryz.prog 49 [slE (Enc.sl Enc.byte) a1 q2, .fn (.func 29) [] [.pt o3 0]] [.obj o3 [S a4]] (fun e A' => e = .ret (i64 r5) ∧ A' = [.obj o3 [S a4]]) := by
 unfold la at H
 refine aw Tryz.func49 rfl rfl ?_;show AW _ _ 19 _ _ _;refine af <| ab ?_;show AR _ _ _ _ _ [0] _;refine za rfl <| ai <| bx (X := Unit) (fun _ => ⟨[], [], [.obj o3 [S a4]]⟩) (fun _ => fP = some r5) ?_ ?_
 ·refine af <| ab ?_;show AR _ _ _ _ _ [0, 1, 2] _;refine zS rfl (ag (av := slE _ _ _) rfl) <| zS rfl (aH aC rfl) <| zm rfl <| ai <| aJ <| bE (X := Nat × Int) (fun (n8, y6) => ⟨[(0, slE (Enc.sl Enc.byte) a1 q2), (1, .fn (.func 29) [] [.pt o3 0]), (7, i64 (a1.length : Int)), (8, i64 y6)], [], [.obj o3 [S a4]]⟩) (fun (n8, y6) => fQ F a1 a4 n8 y6 = some r5) (fun (n8, y6) => n8) (F, 0) H (aU [0] (.cons (.refl _) (.cons (.refl _) (.cons (.refl _) (.cons (.refl _) (.nil _))))) rfl) ?_;rintro ⟨n8, y6⟩ H;obtain ⟨n8, rfl, H⟩ := bX H;replace H : fR F a1 a4 (fQ F a1 a4 n8) y6 = some r5 := H
  unfold fR at H
  refine af <| ab ?_;show AR _ _ _ _ _ [0] _;refine zS rfl (bB rfl rfl) <| ai <| af <| aD rfl (fun c9 => ?_) (fun c9 => ?_)
  ·replace H := aZ c9 H;refine aF <| af <| aJ <| af <| ab ?_;show AR _ _ _ _ _ [0, 1] _;refine zm rfl <| za rfl <| ai <| af ?_;obtain ⟨g10, H⟩ := az H;obtain ⟨x11, e12, H⟩ := bb H;obtain ⟨x13, e14, H⟩ := cT H;refine ab ?_;show AR _ _ _ _ _ [0, 1, 2, 3, 4, 5] _;refine zS rfl (ag (av := .fn _ _ _) rfl) <| zS rfl (ag (av := slE _ _ _) rfl) <| zm rfl <| zS rfl (aY (E := (Enc.sl Enc.byte)) aC (by kernel_rfl) rfl rfl g10 e12) <| zS rfl (aL aa rfl rfl) <| ap rfl rfl (AO.callFAt [0] rfl (.inl rfl) vF rfl (sH F x11 none o3 a4 x13 e14) rfl (fun c A' h => by cases h.1) ?_)
   rintro av A' ⟨h, rfl⟩; cases h
   refine ai <| aD rfl (fun c15 => ?_) (fun c15 => ?_)
   ·replace H := aZ c15 H;refine af <| ab ?_;show AR _ _ _ _ _ [0, 1] _;refine zm rfl <| za rfl <| ai <| aP ?_;obtain rfl := ak H;exact And.intro rfl (Exists.intro _ (Exists.intro _ ⟨aV rfl (.refl _), aO [0] rfl, rfl, rfl⟩))
   ·replace H := ba c15 H;refine aF ?_;obtain ⟨g16, H⟩ := az H;refine ab ?_;show AR _ _ _ _ _ [0, 1] _;refine zS rfl (bk rfl rfl g16) <| zm rfl <| ai ?_;exact Exists.intro (n8, y6 + 1) ⟨H, Nat.lt_succ_self _, aU [0] (.cons (.refl _) (.cons (.refl _) (.cons (.refl _) (.cons (.refl _) (.nil _))))) rfl⟩
  ·replace H := ba c9 H;refine bz ?_;exact Exists.intro () ⟨H, aU [0] (.nil _) rfl⟩
 rintro _ H;replace H : fP = some r5 := H
 unfold fP at H
 refine af <| ab ?_;show AR _ _ _ _ _ [0] _;refine za rfl <| ai <| aP ?_;obtain rfl := ak H;exact And.intro rfl (Exists.intro _ (Exists.intro _ ⟨aV rfl (.refl _), aO [0] rfl, rfl, rfl⟩))
set_option maxRecDepth 100000 in
set_option maxHeartbeats 1000000 in
theorem nM (F : Nat) (a1 : List (List UInt8)) (q2 : Option Nat) (o3 : Nat) (a4 : List UInt8) (r5 : Bool) (H : ew F a1 a4 = some r5) : ACalls Tryz.prog 28 [slE (Enc.sl Enc.byte) a1 q2, .fn (.func 29) [] [.pt o3 0]] [.obj o3 [S a4]] (fun e A' => e = .ret (B r5) ∧ A' = [.obj o3 [S a4]]) := by
 unfold ew at H
 refine aw Tryz.func28 rfl rfl ?_;show AW _ _ 9 _ _ _;refine af <| ab ?_;show AR _ _ _ _ _ [0] _;refine za rfl <| ai <| af ?_;obtain ⟨x6, e7, H⟩ := cT H;refine ab ?_;show AR _ _ _ _ _ [0, 1, 2, 3, 4] _;refine zS rfl (ag (av := slE _ _ _) rfl) <| zS rfl (ag (av := .fn _ _ _) rfl) <| ap rfl rfl (AO.callAt [0] rfl vk rfl (qr F a1 q2 o3 a4 x6 e7) rfl (fun c A' h => by cases h.1) ?_)
 rintro av A' ⟨h, rfl⟩; cases h
 refine zS rfl (dl rfl rfl) <| za rfl <| ai <| aP ?_;obtain rfl := ak H;exact And.intro rfl (Exists.intro _ (Exists.intro _ ⟨aV rfl (.refl _), aO [0] rfl, rfl, rfl⟩))
set_option maxRecDepth 100000 in
set_option maxHeartbeats 1000000 in
theorem mb (F : Nat) (a1 : List (List UInt8)) (q2 : Option Nat) (r3 : List UInt8) (H : gZ F a1 = some r3) : ACalls Tryz.prog 12 [slE (Enc.sl Enc.byte) a1 q2] [] (Ret (S r3) []) := by
 unfold gZ at H
 refine aw Tryz.func12 rfl rfl ?_;show AW _ _ 15 _ _ _;refine af <| ab ?_;show AR _ _ _ _ _ [0] _;refine za rfl <| ai <| af <| ab ?_;show AR _ _ _ _ _ [0] _;refine za rfl <| ai <| aJ <| bE (X := Nat × Int) (fun (n6, y4) => ⟨[(0, slE (Enc.sl Enc.byte) a1 q2), (3, i64 y4)], [], []⟩) (fun (n6, y4) => eh F a1 n6 y4 = some r3) (fun (n6, y4) => n6) (F, 0) H (aU [] (.cons (.refl _) (.cons (.refl _) (.nil _))) rfl) ?_;rintro ⟨n6, y4⟩ H;obtain ⟨n6, rfl, H⟩ := bX H;replace H : ei F a1 (eh F a1 n6) y4 = some r3 := H
 unfold ei at H
 refine af <| aJ <| af ?_;obtain ⟨g7, H⟩ := az H;obtain ⟨x8, e9, H⟩ := bb H;obtain ⟨g10, H⟩ := az H;obtain ⟨x11, e12, H⟩ := bb H;refine ab ?_;show AR _ _ _ _ _ [0, 1, 2, 3, 4] _;refine zm rfl <| ap rfl rfl (aW rfl vH rfl (show ACalls _ _ _ [] (Ret (S x8) []) from by subst e9; exact ta y4 (okI_s g7)) ?_);refine zS rfl (cE rfl rfl g10 e12) <| zX rfl (de (zs := [.string ⟨#[]⟩]) (by kernel_rfl)) ?_;rintro _ _ ⟨o13, rfl, rfl⟩;refine s0 rfl rfl (aB (i := 0) (c := .v _) (by kernel_rfl) rfl rfl rfl rfl (aj rfl)) <| ai <| af ?_;obtain ⟨x14, e15, H⟩ := cT H;refine ab ?_;show AR _ _ _ _ _ [0, 1, 2, 3] _;refine zS rfl (ag (av := slE _ _ _) rfl) <| zS rfl (lO rfl rfl) <| ap rfl rfl (AO.callAt [0] rfl vG rfl (nM F a1 q2 o13 x11 x14 e15) rfl (fun c A' h => by cases h.1) ?_)
 rintro av A' ⟨h, rfl⟩; cases h
 refine zS rfl (cx rfl) <| ai <| aD rfl (fun c16 => ?_) (fun c16 => ?_)
 ·replace H := aZ c16 H;refine af <| ab ?_;show AR _ _ _ _ _ [0, 1] _;refine zR rfl (ao (i := 0) ac rfl rfl rfl rfl) <| za rfl <| ai <| aP ?_;obtain rfl := ak H;exact And.intro rfl (Exists.intro _ (Exists.intro _ ⟨aV rfl (.refl _), aO [] rfl, rfl, rfl⟩))
 ·replace H := ba c16 H;refine aF ?_;obtain ⟨g17, H⟩ := az H;refine ab ?_;show AR _ _ _ _ _ [0, 1, 2] _;refine zm rfl <| zS rfl (bk rfl rfl g17) <| za rfl <| ai ?_;exact Exists.intro (n6, y4 + 1) ⟨H, Nat.lt_succ_self _, aU [] (.cons (.refl _) (.cons (.refl _) (.nil _))) rfl⟩
set_option maxRecDepth 100000 in
set_option maxHeartbeats 1000000 in
theorem sG (F : Nat) (a1 : List UInt8) (r2 : Bool) (H : mP F a1 = some r2) : ACalls Tryz.prog 22 [S a1] [] (Ret (B r2) []) := by
 unfold mP at H
 refine aw Tryz.func22 rfl rfl ?_;show AW _ _ 33 _ _ _;refine af <| ab ?_;show AR _ _ _ _ _ [0] _;refine za rfl <| ai <| bx (X := Unit) (fun _ => ⟨[(0, S a1)], [], []⟩) (fun _ => eN a1 = some r2) ?_ ?_
 ·refine af <| ab ?_;show AR _ _ _ _ _ [0, 1, 2] _;refine zm rfl <| zS rfl (aX ac rfl) <| zm rfl <| ai <| aJ <| bE (X := Nat × Int) (fun (n5, y3) => ⟨[(0, S a1), (5, i64 (a1.length : Int)), (6, i64 y3)], [], []⟩) (fun (n5, y3) => jj a1 n5 y3 = some r2) (fun (n5, y3) => n5) (F, 0) H (aU [] (.cons (.refl _) (.cons (.refl _) (.cons (.refl _) (.nil _)))) rfl) ?_;rintro ⟨n5, y3⟩ H;obtain ⟨n5, rfl, H⟩ := bX H;replace H : jk a1 (jj a1 n5) y3 = some r2 := H
  unfold jk at H
  refine af <| ab ?_;show AR _ _ _ _ _ [0] _;refine zS rfl (bB rfl rfl) <| ai <| af <| aD rfl (fun c6 => ?_) (fun c6 => ?_)
  ·replace H := aZ c6 H;refine aF <| af <| aJ <| af <| ab ?_;show AR _ _ _ _ _ [0, 1] _;refine zm rfl <| za rfl <| ai <| af ?_;obtain ⟨g7, H⟩ := az H;obtain ⟨x8, e9, H⟩ := bb H;obtain ⟨x10, e11, H⟩ := bb H;refine ab ?_;show AR _ _ _ _ _ [0, 1, 2, 3, 4] _;refine zm rfl <| zm rfl <| zS rfl (bo ac rfl rfl g7 e9) <| ap rfl rfl (aW rfl vq rfl (show ACalls _ _ _ [] (Ret (i64 x10) []) from by subst e11; exact lj nz x8) ?_);refine zS rfl (bB rfl rfl) <| ai <| aD rfl (fun c12 => ?_) (fun c12 => ?_)
   ·replace H := aZ c12 H;refine af <| ab ?_;show AR _ _ _ _ _ [0] _;refine za rfl <| ai <| aP ?_;obtain rfl := ak H;exact And.intro rfl (Exists.intro _ (Exists.intro _ ⟨aV rfl (.refl _), aO [] rfl, rfl, rfl⟩))
   ·replace H := ba c12 H;refine aF ?_;obtain ⟨g13, H⟩ := az H;refine ab ?_;show AR _ _ _ _ _ [0, 1] _;refine zS rfl (bk rfl rfl g13) <| zm rfl <| ai ?_;exact Exists.intro (n5, y3 + 1) ⟨H, Nat.lt_succ_self _, aU [] (.cons (.refl _) (.cons (.refl _) (.cons (.refl _) (.nil _)))) rfl⟩
  ·replace H := ba c6 H;refine bz ?_;exact Exists.intro () ⟨H, aU [] (.cons (.refl _) (.nil _)) rfl⟩
 rintro _ H;replace H : eN a1 = some r2 := H
 unfold eN at H
 refine af ?_;obtain ⟨g17, H⟩ := cb H;obtain ⟨x18, e19, H⟩ := bb H;obtain ⟨g21, H⟩ := cb H;obtain ⟨x22, e23, H⟩ := bb H;refine ab ?_;show AR _ _ _ _ _ [0, 1, 2, 3, 4, 5, 6, 7, 8, 9, 10, 11, 12, 13, 14, 15, 16, 17, 18] _;refine zm rfl <| zS rfl (eb rfl rfl) <| zm rfl <| aQ (l := [7, 8, 9, 10, 11, 12, 13, 14, 15, 16, 17, 18]) 21 (B ((!decide (a1 = ([] : List UInt8))) && (decide ((a1.length : Int) ≤ 60)))) (fun K => ?_) ?_
 ·rcases ah (!decide (a1 = ([] : List UInt8))) with h15 | h15
  ·refine zM h15 rfl <| zU h15 rfl (aX ac rfl) <| zU h15 rfl (dd rfl rfl) <| zS rfl (ax (av := .v _) rfl h15 rfl) ?_;exact K _ 3 _ (an (cc h15)) rfl rfl
  ·refine zF h15 rfl <| zF h15 rfl <| zF h15 rfl <| zS rfl (ay (av := .v _) rfl h15 rfl) ?_;exact K _ 3 _ (an (cd h15)) rfl rfl
 refine zm rfl <| aQ (l := [13, 14, 15, 16, 17, 18]) 27 (B (((!decide (a1 = ([] : List UInt8))) && (decide ((a1.length : Int) ≤ 60))) && (decide (x18 = a1)))) (fun K => ?_) ?_
 ·rcases ah ((!decide (a1 = ([] : List UInt8))) && (decide ((a1.length : Int) ≤ 60))) with h16 | h16
  ·refine zM h16 rfl <| zT h16 rfl (aW rfl vo rfl (show ACalls _ _ _ [] (Ret (S x18) []) from by subst e19; exact qW a1 32 (by decide) (kU (g17 h16))) ?_);refine zM h16 rfl <| zU h16 rfl (lr rfl rfl) <| zS rfl (ax (av := .v _) rfl h16 rfl) ?_;exact K _ 4 _ (an (cc h16)) rfl rfl
  ·refine zF h16 rfl <| zF h16 rfl <| zF h16 rfl <| zF h16 rfl <| zS rfl (ay (av := .v _) rfl h16 rfl) ?_;exact K _ 4 _ (an (cd h16)) rfl rfl
 refine zm rfl <| aQ (l := [18]) 32 (B ((((!decide (a1 = ([] : List UInt8))) && (decide ((a1.length : Int) ≤ 60))) && (decide (x18 = a1))) && (!x22))) (fun K => ?_) ?_
 ·rcases ah (((!decide (a1 = ([] : List UInt8))) && (decide ((a1.length : Int) ≤ 60))) && (decide (x18 = a1))) with h20 | h20
  ·refine zM h20 rfl <| zT h20 rfl (aW rfl vn rfl (show ACalls _ _ _ [] (Ret (B x22) []) from by subst e23; exact lQ a1 ([32, 32] : List UInt8) (kU (g21 h20))) ?_);refine zU h20 rfl (cx rfl) <| zS rfl (ax (av := .v _) rfl h20 rfl) ?_;exact K _ 3 _ (an (cc h20)) rfl rfl
  ·refine zF h20 rfl <| zF h20 rfl <| zF h20 rfl <| zS rfl (ay (av := .v _) rfl h20 rfl) ?_;exact K _ 3 _ (an (cd h20)) rfl rfl
 refine za rfl <| ai <| aP ?_;obtain rfl := ak H;exact And.intro rfl (Exists.intro _ (Exists.intro _ ⟨aV rfl (.refl _), aO [] rfl, rfl, rfl⟩))
set_option maxRecDepth 100000 in
set_option maxHeartbeats 1000000 in
theorem sF (F : Nat) (a1 : List UInt8) (r2 : Bool) (H : mO F a1 = some r2) : ACalls Tryz.prog 21 [S a1] [] (Ret (B r2) []) := by
 unfold mO at H
 refine aw Tryz.func21 rfl rfl ?_;show AW _ _ 6 _ _ _;refine af <| ab ?_;show AR _ _ _ _ _ [0] _;refine za rfl <| ai <| af ?_;obtain ⟨x3, e4, H⟩ := cT H;refine ab ?_;show AR _ _ _ _ _ [0, 1, 2, 3] _;refine zm rfl <| ap rfl rfl (aW rfl vM rfl (sG F a1 x3 e4) ?_);refine zS rfl (cx rfl) <| za rfl <| ai <| aP ?_;obtain rfl := ak H;exact And.intro rfl (Exists.intro _ (Exists.intro _ ⟨aV rfl (.refl _), aO [] rfl, rfl, rfl⟩))
set_option maxRecDepth 100000 in
set_option maxHeartbeats 1000000 in
theorem qq (F : Nat) (a1 : List (List UInt8)) (q2 : Option Nat) (r3 : Int) (H : kZ F a1 = some r3) : ACalls Tryz.prog 40 [slE Enc.str a1 q2, .v (.func (.func 21) #[] #[])] [] (Ret (i64 r3) []) := by
 unfold kZ at H
 refine aw Tryz.func40 rfl rfl ?_;show AW _ _ 19 _ _ _;refine af <| ab ?_;show AR _ _ _ _ _ [0] _;refine za rfl <| ai <| bx (X := Unit) (fun _ => ⟨[], [], []⟩) (fun _ => fM = some r3) ?_ ?_
 ·refine af <| ab ?_;show AR _ _ _ _ _ [0, 1, 2] _;refine zS rfl (ag (av := slE _ _ _) rfl) <| zS rfl (aH aA rfl) <| zm rfl <| ai <| aJ <| bE (X := Nat × Int) (fun (n6, y4) => ⟨[(0, slE Enc.str a1 q2), (1, .v (.func (.func 21) #[] #[])), (7, i64 (a1.length : Int)), (8, i64 y4)], [], []⟩) (fun (n6, y4) => fN F a1 n6 y4 = some r3) (fun (n6, y4) => n6) (F, 0) H (aU [] (.cons (.refl _) (.cons (.refl _) (.cons (.refl _) (.cons (.refl _) (.nil _))))) rfl) ?_;rintro ⟨n6, y4⟩ H;obtain ⟨n6, rfl, H⟩ := bX H;replace H : fO F a1 (fN F a1 n6) y4 = some r3 := H
  unfold fO at H
  refine af <| ab ?_;show AR _ _ _ _ _ [0] _;refine zS rfl (bB rfl rfl) <| ai <| af <| aD rfl (fun c7 => ?_) (fun c7 => ?_)
  ·replace H := aZ c7 H;refine aF <| af <| aJ <| af <| ab ?_;show AR _ _ _ _ _ [0, 1] _;refine zm rfl <| za rfl <| ai <| af ?_;obtain ⟨g8, H⟩ := az H;obtain ⟨x9, e10, H⟩ := bb H;obtain ⟨x11, e12, H⟩ := cT H;refine ab ?_;show AR _ _ _ _ _ [0, 1, 2, 3, 4, 5] _;refine zm rfl <| zS rfl (ag (av := slE _ _ _) rfl) <| zm rfl <| zS rfl (aY (E := Enc.str) aA (by kernel_rfl) rfl rfl g8 e10) <| zS rfl (aL ac rfl rfl) <| ap rfl rfl (AO.callFp rfl (.inr ⟨rfl, rfl, rfl⟩) vN rfl (sF F x9 x11 e12) ?_);refine ai <| aD rfl (fun c13 => ?_) (fun c13 => ?_)
   ·replace H := aZ c13 H;refine af <| ab ?_;show AR _ _ _ _ _ [0, 1] _;refine zm rfl <| za rfl <| ai <| aP ?_;obtain rfl := ak H;exact And.intro rfl (Exists.intro _ (Exists.intro _ ⟨aV rfl (.refl _), aO [] rfl, rfl, rfl⟩))
   ·replace H := ba c13 H;refine aF ?_;obtain ⟨g14, H⟩ := az H;refine ab ?_;show AR _ _ _ _ _ [0, 1] _;refine zS rfl (bk rfl rfl g14) <| zm rfl <| ai ?_;exact Exists.intro (n6, y4 + 1) ⟨H, Nat.lt_succ_self _, aU [] (.cons (.refl _) (.cons (.refl _) (.cons (.refl _) (.cons (.refl _) (.nil _))))) rfl⟩
  ·replace H := ba c7 H;refine bz ?_;exact Exists.intro () ⟨H, aU [] (.nil _) rfl⟩
 rintro _ H;replace H : fM = some r3 := H
 unfold fM at H
 refine af <| ab ?_;show AR _ _ _ _ _ [0] _;refine za rfl <| ai <| aP ?_;obtain rfl := ak H;exact And.intro rfl (Exists.intro _ (Exists.intro _ ⟨aV rfl (.refl _), aO [] rfl, rfl, rfl⟩))
set_option maxRecDepth 100000 in
set_option maxHeartbeats 1000000 in
theorem nL (F : Nat) (a1 : List (List UInt8)) (q2 : Option Nat) (r3 : Bool) (H : fS F a1 = some r3) : ACalls Tryz.prog 20 [slE Enc.str a1 q2, .v (.func (.func 21) #[] #[])] [] (Ret (B r3) []) := by
 unfold fS at H
 refine aw Tryz.func20 rfl rfl ?_;show AW _ _ 9 _ _ _;refine af <| ab ?_;show AR _ _ _ _ _ [0] _;refine za rfl <| ai <| af ?_;obtain ⟨x4, e5, H⟩ := cT H;refine ab ?_;show AR _ _ _ _ _ [0, 1, 2, 3, 4] _;refine zS rfl (ag (av := slE _ _ _) rfl) <| zm rfl <| ap rfl rfl (aW rfl vr rfl (qq F a1 q2 x4 e5) ?_);refine zS rfl (dl rfl rfl) <| za rfl <| ai <| aP ?_;obtain rfl := ak H;exact And.intro rfl (Exists.intro _ (Exists.intro _ ⟨aV rfl (.refl _), aO [] rfl, rfl, rfl⟩))
set_option maxRecDepth 100000 in
set_option maxHeartbeats 1000000 in
theorem uh (F : Nat) (o1 : Nat) (a2 : List UInt8) (t3 : Nat) (a4 : List UInt8) (a5 : List UInt8) (a6 : List UInt8) (q7 : Option Nat) (r8 : List UInt8) (H : mG F a2 a4 a5 a6 = some r8) : ACalls Tryz.prog 24 [.pt o1 0, S a5, slE Enc.byte a6 q7] [.obj o1 [slE Enc.byte a2 (some t3), S a4], .tok t3 5] (fun e A' => e = .ret (.tup []) ∧ ∃ t9, A' = [.obj o1 [slE Enc.byte r8 (some t9), S a4], .tok t9 5]) := by
 unfold mG at H
 refine aw Tryz.func24 rfl rfl ?_;show AW _ _ 42 _ _ _;refine af ?_;obtain ⟨x10, x11, e12, H⟩ := eK H;refine ab ?_;show AR _ _ _ _ _ [0, 1, 2, 3, 4, 5, 6, 7, 8, 9] _;refine zm rfl <| zS rfl (iH (zs := [.string ⟨#[]⟩, .string ⟨#[]⟩]) (ps := [(0, 1), (1, 1)]) (cs := [S ([67, 111, 110, 116, 101, 110, 116, 45, 84, 121, 112, 101] : List UInt8), S a5]) (by kernel_rfl) rfl rfl) <| zS rfl (iH (zs := [.string ⟨#[]⟩, .string ⟨#[]⟩]) (ps := [(0, 1), (1, 1)]) (cs := [S parta_k2, S ([113, 117, 111, 116, 101, 100, 45, 112, 114, 105, 110, 116, 97, 98, 108, 101] : List UInt8)]) (by kernel_rfl) rfl rfl) <| zR rfl (ku (E := (cA Enc.str Enc.str)) (bytes := 32) (zs := [.string ⟨#[]⟩, .string ⟨#[]⟩]) (l := ([(([67, 111, 110, 116, 101, 110, 116, 45, 84, 121, 112, 101] : List UInt8), a5), (parta_k2, ([113, 117, 111, 116, 101, 100, 45, 112, 114, 105, 110, 116, 97, 98, 108, 101] : List UInt8))] : List ((List UInt8) × List UInt8))) bu (by kernel_rfl) (by kernel_rfl) rfl rfl rfl rfl rfl) <| ap rfl rfl (aW rfl vm rfl (ul F ([(([67, 111, 110, 116, 101, 110, 116, 45, 84, 121, 112, 101] : List UInt8), a5), (parta_k2, ([113, 117, 111, 116, 101, 100, 45, 112, 114, 105, 110, 116, 97, 98, 108, 101] : List UInt8))] : List ((List UInt8) × List UInt8)) none x10 x11 e12) ?_)
 refine zS rfl (ag (av := .tup _) rfl) <| zS rfl (aI (av := slE _ _ _) rfl rfl) <| zS rfl (aI (av := .v _) rfl rfl) <| zS rfl (am (av := slE _ _ _) rfl) <| za rfl <| ai <| bx (X := (List UInt8) × Nat) (fun (y24, t25) => ⟨[(0, .pt o1 0), (2, slE Enc.byte a6 q7), (6, slE Enc.byte x10 none)], [], [.obj o1 [slE Enc.byte y24 (some t25), S a4], .tok t25 5]⟩) (fun (y24, t25) => kd a6 x10 y24 = some r8) ?_ ?_
 ·obtain ⟨g13, H⟩ := az H;obtain ⟨x14, e15, H⟩ := bb H;obtain ⟨g16, H⟩ := az H;obtain ⟨x17, e18, H⟩ := bb H;obtain ⟨g20, H⟩ := az H;obtain ⟨x21, e22, H⟩ := bb H;refine bW (by kernel_rfl) ?_;show AI _ _ _ _ _ 15 (Array.replicate 15 false) _;refine zk 0 rfl (ag (av := .pt _ _) rfl) ?_;show AI _ _ _ _ _ _ #[true, false, false, false, false, false, false, false, false, false, false, false, false, false, false] _;refine zk 1 rfl (ag (av := .pt _ _) rfl) ?_;show AI _ _ _ _ _ _ #[true, true, false, false, false, false, false, false, false, false, false, false, false, false, false] _;refine zk 2 rfl (aN rfl) ?_;show AI _ _ _ _ _ _ #[true, true, true, false, false, false, false, false, false, false, false, false, false, false, false] _;refine zk 3 rfl (aK (n := 0) (by kernel_rfl) rfl) ?_;show AI _ _ _ _ _ _ #[true, true, true, true, false, false, false, false, false, false, false, false, false, false, false] _;refine zk 5 rfl (ag (av := .pt _ _) rfl) ?_;show AI _ _ _ _ _ _ #[true, true, true, true, false, true, false, false, false, false, false, false, false, false, false] _;refine zk 6 rfl (aN rfl) ?_;show AI _ _ _ _ _ _ #[true, true, true, true, false, true, true, false, false, false, false, false, false, false, false] _;refine zk 7 rfl (aK (n := 1) (by kernel_rfl) rfl) ?_;show AI _ _ _ _ _ _ #[true, true, true, true, false, true, true, true, false, false, false, false, false, false, false] _;refine dw (i := 4) (j := 8) (by kernel_rfl) rfl rfl rfl rfl ?_ ?_
  ·refine be rfl (ao (i := 0) aa rfl rfl rfl rfl) ?_;show AI _ _ _ _ _ _ #[true, true, true, true, true, true, true, true, false, false, false, false, false, false, false] _;refine bf (i := 8) (by kernel_rfl) rfl rfl <| be rfl (ao (i := 0) ac rfl rfl rfl rfl) ?_;show AI _ _ _ _ _ _ #[true, true, true, true, true, true, true, true, true, false, false, false, false, false, false] _;refine zk 9 rfl (cE rfl rfl g13 e15) ?_;show AI _ _ _ _ _ _ #[true, true, true, true, true, true, true, true, true, true, false, false, false, false, false] _;refine zk 10 rfl (cE rfl rfl g16 e18) ?_;show AI _ _ _ _ _ _ #[true, true, true, true, true, true, true, true, true, true, true, false, false, false, false] _;refine bf (i := 11) (by kernel_rfl) rfl rfl <| bS rfl (bi (bytes := 1) 1 aa ac rfl (by kernel_rfl) rfl rfl rfl rfl g20 e22) ?_;rintro _ _ ⟨t19, rfl, rfl⟩;show AI _ _ _ _ _ _ #[true, true, true, true, true, true, true, true, true, true, true, true, false, false, false] _;refine zk 12 rfl (aN rfl) ?_;show AI _ _ _ _ _ _ #[true, true, true, true, true, true, true, true, true, true, true, true, true, false, false] _;refine zk 13 rfl (aK (n := 0) (by kernel_rfl) rfl) ?_;show AI _ _ _ _ _ _ #[true, true, true, true, true, true, true, true, true, true, true, true, true, true, false] _;refine bf (i := 14) (by kernel_rfl) rfl rfl <| ck (aB (i := 0) (c := slE _ _ _) (by kernel_rfl) rfl rfl rfl rfl (aj rfl)) ?_
   show AI _ _ _ _ _ _ #[true, true, true, true, true, true, true, true, true, true, true, true, true, true, true] _;refine bN rfl ?_;exact Exists.intro (x21, t19) ⟨H, aU [0, 0] (.cons (.refl _) (.cons (.refl _) (.cons (.refl _) (.nil _)))) rfl⟩
  ·refine be rfl (ao (i := 0) ac rfl rfl rfl rfl) ?_;show AI _ _ _ _ _ _ #[true, true, true, true, false, true, true, true, true, false, false, false, false, false, false] _;refine zk 9 rfl (cE rfl rfl g13 e15) ?_;show AI _ _ _ _ _ _ #[true, true, true, true, false, true, true, true, true, true, false, false, false, false, false] _;refine zk 10 rfl (cE rfl rfl g16 e18) ?_;show AI _ _ _ _ _ _ #[true, true, true, true, false, true, true, true, true, true, true, false, false, false, false] _;refine bf (i := 4) (by kernel_rfl) rfl rfl <| be rfl (ao (i := 0) aa rfl rfl rfl rfl) ?_;show AI _ _ _ _ _ _ #[true, true, true, true, true, true, true, true, true, true, true, false, false, false, false] _;refine bf (i := 11) (by kernel_rfl) rfl rfl <| bS rfl (bi (bytes := 1) 1 aa ac rfl (by kernel_rfl) rfl rfl rfl rfl g20 e22) ?_;rintro _ _ ⟨t23, rfl, rfl⟩;show AI _ _ _ _ _ _ #[true, true, true, true, true, true, true, true, true, true, true, true, false, false, false] _;refine zk 12 rfl (aN rfl) ?_;show AI _ _ _ _ _ _ #[true, true, true, true, true, true, true, true, true, true, true, true, true, false, false] _;refine zk 13 rfl (aK (n := 0) (by kernel_rfl) rfl) ?_;show AI _ _ _ _ _ _ #[true, true, true, true, true, true, true, true, true, true, true, true, true, true, false] _;refine bf (i := 14) (by kernel_rfl) rfl rfl <| ck (aB (i := 0) (c := slE _ _ _) (by kernel_rfl) rfl rfl rfl rfl (aj rfl)) ?_
   show AI _ _ _ _ _ _ #[true, true, true, true, true, true, true, true, true, true, true, true, true, true, true] _;refine bN rfl ?_;exact Exists.intro (x21, t23) ⟨H, aU [0, 0] (.cons (.refl _) (.cons (.refl _) (.cons (.refl _) (.nil _)))) rfl⟩
 rintro ⟨y24, t25⟩ H;replace H : kd a6 x10 y24 = some r8 := H
 unfold kd at H
 obtain ⟨g28, H⟩ := az H;obtain ⟨x29, e30, H⟩ := bb H;obtain ⟨g32, H⟩ := az H;obtain ⟨x33, e34, H⟩ := bb H;obtain ⟨g36, H⟩ := az H;obtain ⟨x37, e38, H⟩ := bb H;refine ab ?_;show AR _ _ _ _ _ [0, 1, 2, 3, 4, 5, 6, 7, 8, 9, 10, 11, 12] _;refine zS rfl (ag (av := .pt _ _) rfl) <| zS rfl (ag (av := .pt _ _) rfl) <| zS rfl (aN rfl) <| zS rfl (aK (n := 0) (by kernel_rfl) rfl) <| zR rfl (ao (i := 0) aa rfl rfl rfl rfl) <| zS rfl (ag (av := slE _ _ _) rfl) <| zX rfl (bA (E := Enc.byte) (bytes := 1) 1 aa aa rfl (by kernel_rfl) rfl rfl rfl rfl g28 e30) ?_;rintro _ _ ⟨t27, rfl, rfl⟩;refine zS rfl (ag (av := slE _ _ _) rfl) <| zX rfl (bA (E := Enc.byte) (bytes := 1) 1 aa aa rfl (by kernel_rfl) rfl rfl rfl rfl g32 e34) ?_;rintro _ _ ⟨t31, rfl, rfl⟩;refine zX rfl (bi (bytes := 1) 1 aa ac rfl (by kernel_rfl) rfl rfl rfl rfl g36 e38) ?_;rintro _ _ ⟨t35, rfl, rfl⟩;refine zS rfl (aN rfl) <| zS rfl (aK (n := 0) (by kernel_rfl) rfl) <| s0 rfl rfl (aB (i := 0) (c := slE _ _ _) (by kernel_rfl) rfl rfl rfl rfl (aj rfl)) <| ai ?_;obtain rfl := ak H;exact And.intro rfl (Exists.intro _ (Exists.intro _ ⟨dJ rfl, aO [0, 0] rfl, rfl, t35, rfl⟩))
set_option maxRecDepth 100000 in
set_option maxHeartbeats 1000000 in
theorem oq (F : Nat) (a1 : List (List UInt8)) (q2 : Option Nat) (a3 : List (List UInt8)) (q4 : Option Nat) (r5 : List UInt8) (r6 : List UInt8) (r7 : Int) (H : kE F a1 a3 = some (r5, r6, r7)) : ACalls Tryz.prog 10 [slE Enc.str a1 q2, slE (Enc.sl Enc.byte) a3 q4] [] (Ret (.tup [slE Enc.byte r5 none, S r6, i64 r7]) []) := by
 unfold kE at H
 refine aw Tryz.func10 rfl rfl ?_;show AW _ _ 82 _ _ _;refine af <| ab ?_;show AR _ _ _ _ _ [0, 1, 2] _;refine za rfl <| za rfl <| za rfl <| ai <| af <| af ?_;obtain ⟨x11, e12, H⟩ := qf H;refine ab ?_;show AR _ _ _ _ _ [0, 1, 2, 3, 4, 5, 6, 7, 8, 9, 10, 11, 12, 13, 14, 15, 16, 17, 18] _;refine zS rfl (ag (av := slE _ _ _) rfl) <| zS rfl (aH aA rfl) <| zS rfl (ag (av := slE _ _ _) rfl) <| zS rfl (aH aC rfl) <| zS rfl (dv rfl rfl) <| zm rfl <| aQ (l := [10, 11, 12, 13, 14, 15, 16, 17, 18]) 23 (B ((!decide ((a1.length : Int) = (a3.length : Int))) || (decide ((a3.length : Int) = 0)))) (fun K => ?_) ?_
 ·rcases ah (!decide ((a1.length : Int) = (a3.length : Int))) with h8 | h8
  ·refine zF h8 rfl <| zF h8 rfl <| zF h8 rfl <| zS rfl (ax (av := .v _) rfl h8 rfl) ?_;exact K _ 3 _ (an (dC h8)) rfl rfl
  ·refine zU h8 rfl (ag (av := slE _ _ _) rfl) <| zU h8 rfl (aH aC rfl) <| zU h8 rfl (dm rfl rfl) <| zS rfl (ay (av := .v _) rfl h8 rfl) ?_;exact K _ 3 _ (an (dD h8)) rfl rfl
 refine zm rfl <| aQ (l := [15, 16, 17, 18]) 28 (B (((!decide ((a1.length : Int) = (a3.length : Int))) || (decide ((a3.length : Int) = 0))) || (decide (8 < (a3.length : Int))))) (fun K => ?_) ?_
 ·rcases ah ((!decide ((a1.length : Int) = (a3.length : Int))) || (decide ((a3.length : Int) = 0))) with h9 | h9
  ·refine zF h9 rfl <| zF h9 rfl <| zF h9 rfl <| zS rfl (ax (av := .v _) rfl h9 rfl) ?_;exact K _ 3 _ (an (dC h9)) rfl rfl
  ·refine zU h9 rfl (ag (av := slE _ _ _) rfl) <| zU h9 rfl (aH aC rfl) <| zU h9 rfl (cN rfl rfl) <| zS rfl (ay (av := .v _) rfl h9 rfl) ?_;exact K _ 3 _ (an (dD h9)) rfl rfl
 refine zm rfl <| aQ (l := []) 32 (B ((((!decide ((a1.length : Int) = (a3.length : Int))) || (decide ((a3.length : Int) = 0))) || (decide (8 < (a3.length : Int)))) || x11)) (fun K => ?_) ?_
 ·rcases ah (((!decide ((a1.length : Int) = (a3.length : Int))) || (decide ((a3.length : Int) = 0))) || (decide (8 < (a3.length : Int)))) with h10 | h10
  ·refine zF h10 rfl <| zF h10 rfl <| zS rfl (ax (av := .v _) rfl h10 rfl) ?_;exact K _ 2 _ (an (dC h10)) rfl rfl
  ·refine zU h10 rfl (ag (av := slE _ _ _) rfl) <| zT h10 rfl (aW rfl vO rfl (nL F a1 q2 x11 (e12 (nf h10))) ?_);refine zS rfl (ay (av := .v _) rfl h10 rfl) ?_;exact K _ 2 _ (an (dD h10)) rfl rfl
 refine ai <| aD rfl (fun c13 => ?_) (fun c13 => ?_)
 ·replace H := aZ c13 H;refine af <| ab ?_;show AR _ _ _ _ _ [0, 1, 2] _;refine za rfl <| za rfl <| za rfl <| ai <| aP ?_;obtain ⟨rfl, rfl, rfl⟩ := gz H;exact And.intro rfl (Exists.intro _ (Exists.intro _ ⟨bp rfl (.nil _) (.refl _) (.refl _), aO [] rfl, rfl, rfl⟩))
 ·replace H := ba c13 H;refine aF <| af <| ab ?_;show AR _ _ _ _ _ [0] _;refine za rfl <| ai ?_
  refine bL 7 1 26 rfl fun t14 => ?_
  show AW _ _ _ _ _ ⟨(7, slE (Enc.sl Enc.byte) [] (some t14)) :: _, _, _⟩;refine bx (X := (List (List UInt8)) × Nat) (fun (y31, t32) => ⟨[(0, slE Enc.str a1 q2), (7, slE (Enc.sl Enc.byte) y31 (some t32))], [], [.tok t32 26]⟩) (fun (y31, t32) => gl F a1 y31 = some (r5, r6, r7)) ?_ ?_
  ·refine af <| ab ?_;show AR _ _ _ _ _ [0, 1, 2] _;refine zS rfl (ag (av := slE _ _ _) rfl) <| zS rfl (aH aC rfl) <| zm rfl <| ai <| aJ <| bE (X := Nat × (List (List UInt8)) × Nat × Int) (fun (n19, y15, t16, y17) => ⟨[(0, slE Enc.str a1 q2), (7, slE (Enc.sl Enc.byte) y15 (some t16)), (33, slE (Enc.sl Enc.byte) a3 q4), (34, i64 (a3.length : Int)), (35, i64 y17)], [], [.tok t16 26]⟩) (fun (n19, y15, t16, y17) => jm F a1 a3 n19 (y15, y17) = some (r5, r6, r7)) (fun (n19, y15, t16, y17) => n19) (F, [], t14, 0) H (aU [0] (.cons (.refl _) (.cons (.refl _) (.cons (.refl _) (.cons (.refl _) (.cons (.refl _) (.nil _)))))) rfl) ?_;rintro ⟨n19, y15, t16, y17⟩ H;obtain ⟨n19, rfl, H⟩ := bX H;replace H : jp F a1 a3 (jm F a1 a3 n19) y15 y17 = some (r5, r6, r7) := H
   unfold jp at H
   refine af <| ab ?_;show AR _ _ _ _ _ [0] _;refine zS rfl (bB rfl rfl) <| ai <| af <| aD rfl (fun c20 => ?_) (fun c20 => ?_)
   ·replace H := aZ c20 H;refine aF <| af <| aJ <| af ?_;obtain ⟨g21, H⟩ := az H;obtain ⟨x22, e23, H⟩ := bb H;refine ab ?_;show AR _ _ _ _ _ [0, 1, 2] _;refine zS rfl (aY (E := (Enc.sl Enc.byte)) aC (by kernel_rfl) rfl rfl g21 e23) <| zS rfl (aL aa rfl rfl) <| zS rfl (am (av := slE _ _ _) rfl) <| ai ?_;obtain ⟨x24, e25, H⟩ := cT H;obtain ⟨g27, H⟩ := az H;obtain ⟨x28, e29, H⟩ := bb H;refine ab ?_;show AR _ _ _ _ _ [0, 1, 2, 3, 4, 5] _;refine zS rfl (ag (av := slE _ _ _) rfl) <| zS rfl (ag (av := slE _ _ _) rfl) <| ap rfl rfl (aW rfl vL rfl (sD F x22 none x24 e25) ?_);refine zR rfl (bh (E := (Enc.sl Enc.byte)) (bytes := 24) (xs := [.tmp 41]) (l := ([x24] : List (List UInt8))) aC (by kernel_rfl) rfl rfl (by decide) rfl rfl) <| zX rfl (bA (E := (Enc.sl Enc.byte)) (bytes := 24) 0 aC aC rfl (by kernel_rfl) rfl rfl rfl rfl g27 e29) ?_;rintro _ _ ⟨t26, rfl, rfl⟩;refine zS rfl (am (av := slE _ _ _) rfl) <| ai ?_;obtain ⟨g30, H⟩ := az H;refine ab ?_;show AR _ _ _ _ _ [0, 1] _;refine zS rfl (bk rfl rfl g30) <| zm rfl <| ai ?_;exact Exists.intro (n19, x28, t26, y17 + 1) ⟨H, Nat.lt_succ_self _, aU [0] (.cons (.refl _) (.cons (.refl _) (.cons (.refl _) (.cons (.refl _) (.cons (.refl _) (.nil _)))))) rfl⟩
   ·replace H := ba c20 H;refine bz ?_;exact Exists.intro (y15, t16) ⟨H, aU [0] (.cons (.refl _) (.cons (.refl _) (.nil _))) rfl⟩
  rintro ⟨y31, t32⟩ H;replace H : gl F a1 y31 = some (r5, r6, r7) := H
  unfold gl at H
  refine af ?_;obtain ⟨x34, e35, H⟩ := cT H;refine ab ?_;show AR _ _ _ _ _ [0, 1, 2, 3, 4] _;refine zS rfl (ag (av := slE _ _ _) rfl) <| ap rfl rfl (aW rfl vT rfl (mb F y31 (some t32) x34 e35) ?_);refine zS rfl (iH (zs := [.slice none 0 0, .string ⟨#[]⟩]) (ps := [(0, 1), (1, 1)]) (cs := [nT, S x34]) (by kernel_rfl) rfl rfl) <| zX rfl (sa rfl (.inr ⟨_, rfl⟩)) ?_;rintro _ _ ⟨o36, rfl, rfl⟩;refine zS rfl (am (av := .pt _ _) rfl) <| ai ?_
  refine kv 0 0 1 5 rfl rfl fun t37 => ?_
  show AW _ _ _ _ _ ⟨_, _, [.tok t37 5, .obj o36 [slE Enc.byte [] (some t37), S x34], .tok t32 26]⟩;refine af <| ab ?_;show AR _ _ _ _ _ [0, 1, 2] _;refine zS rfl (ag (av := .pt _ _) rfl) <| zS rfl (lO rfl rfl) <| zS rfl (am (av := .fn _ _ _) rfl) <| ai <| bx (X := (List UInt8) × Nat) (fun (y54, t55) => ⟨[(10, .pt o36 0)], [], [.obj o36 [slE Enc.byte y54 (some t55), S x34], .tok t55 5]⟩) (fun (y54, t55) => jl x34 y54 = some (r5, r6, r7)) ?_ ?_
  ·refine af <| ab ?_;show AR _ _ _ _ _ [0, 1, 2] _;refine zS rfl (ag (av := slE _ _ _) rfl) <| zS rfl (aH aC rfl) <| zm rfl <| ai <| aJ <| bE (X := Nat × Int × (List UInt8) × Nat) (fun (n42, y38, y39, t40) => ⟨[(0, slE Enc.str a1 q2), (10, .pt o36 0), (11, .fn (.func 24) [.pt o36 0] []), (51, slE (Enc.sl Enc.byte) y31 (some t32)), (52, i64 (y31.length : Int)), (53, i64 y38)], [], [.obj o36 [slE Enc.byte y39 (some t40), S x34], .tok t32 26, .tok t40 5]⟩) (fun (n42, y38, y39, t40) => jo F a1 y31 x34 n42 (y38, y39) = some (r5, r6, r7)) (fun (n42, y38, y39, t40) => n42) (F, 0, [], t37) H (aU [1, 1, 0] (.cons (.refl _) (.cons (.refl _) (.cons (.refl _) (.cons (.refl _) (.cons (.refl _) (.cons (.refl _) (.nil _))))))) rfl) ?_;rintro ⟨n42, y38, y39, t40⟩ H;obtain ⟨n42, rfl, H⟩ := bX H;replace H : jq F a1 y31 x34 (jo F a1 y31 x34 n42) y38 y39 = some (r5, r6, r7) := H
   unfold jq at H
   refine af <| ab ?_;show AR _ _ _ _ _ [0] _;refine zS rfl (bB rfl rfl) <| ai <| af <| aD rfl (fun c43 => ?_) (fun c43 => ?_)
   ·replace H := aZ c43 H;refine aF <| af <| aJ <| af ?_;obtain ⟨g44, H⟩ := az H;obtain ⟨x45, e46, H⟩ := bb H;refine ab ?_;show AR _ _ _ _ _ [0, 1, 2, 3, 4] _;refine zm rfl <| zS rfl (aY (E := (Enc.sl Enc.byte)) aC (by kernel_rfl) rfl rfl g44 e46) <| zS rfl (aL aa rfl rfl) <| za rfl <| zS rfl (am (av := slE _ _ _) rfl) <| ai ?_;obtain ⟨g47, H⟩ := az H;obtain ⟨x48, e49, H⟩ := bb H;obtain ⟨x50, e51, H⟩ := cT H;refine ab ?_;show AR _ _ _ _ _ [0, 1, 2, 3, 4, 5, 6] _;refine zS rfl (ag (av := .fn _ _ _) rfl) <| zS rfl (ag (av := slE _ _ _) rfl) <| zm rfl <| zS rfl (aY (E := Enc.str) aA (by kernel_rfl) rfl rfl g47 e49) <| zS rfl (aL ac rfl rfl) <| zS rfl (ag (av := slE _ _ _) rfl) <| ap rfl rfl (AO.callFAt [0, 1] rfl (.inl rfl) vK rfl (uh F o36 y39 t40 x34 x48 x45 none x50 e51) rfl (fun c A' h => by cases h.1) ?_)
    rintro av A' ⟨h, t52, rfl⟩; cases h
    refine ai ?_;obtain ⟨g53, H⟩ := az H;refine ab ?_;show AR _ _ _ _ _ [0, 1] _;refine zS rfl (bk rfl rfl g53) <| zm rfl <| ai ?_;exact Exists.intro (n42, y38 + 1, x50, t52) ⟨H, Nat.lt_succ_self _, aU [0, 1, 0] (.cons (.refl _) (.cons (.refl _) (.cons (.refl _) (.cons (.refl _) (.cons (.refl _) (.cons (.refl _) (.nil _))))))) rfl⟩
   ·replace H := ba c43 H;refine bz ?_;exact Exists.intro (y39, t40) ⟨H, aU [0, 1] (.cons (.refl _) (.nil _)) rfl⟩
  rintro ⟨y54, t55⟩ H;replace H : jl x34 y54 = some (r5, r6, r7) := H
  unfold jl at H
  refine af ?_;obtain ⟨g57, H⟩ := az H;obtain ⟨x58, e59, H⟩ := bb H;obtain ⟨g60, H⟩ := az H;obtain ⟨x61, e62, H⟩ := bb H;obtain ⟨g63, H⟩ := az H;obtain ⟨x64, e65, H⟩ := bb H;obtain ⟨g67, H⟩ := az H;obtain ⟨x68, e69, H⟩ := bb H;refine bW (by kernel_rfl) ?_;show AI _ _ _ _ _ 19 (Array.replicate 19 false) _;refine zk 0 rfl (ag (av := .pt _ _) rfl) ?_;show AI _ _ _ _ _ _ #[true, false, false, false, false, false, false, false, false, false, false, false, false, false, false, false, false, false, false] _;refine zk 1 rfl (aN rfl) ?_;show AI _ _ _ _ _ _ #[true, true, false, false, false, false, false, false, false, false, false, false, false, false, false, false, false, false, false] _;refine zk 2 rfl (aK (n := 0) (by kernel_rfl) rfl) ?_;show AI _ _ _ _ _ _ #[true, true, true, false, false, false, false, false, false, false, false, false, false, false, false, false, false, false, false] _;refine zk 4 rfl (ag (av := .pt _ _) rfl) ?_;show AI _ _ _ _ _ _ #[true, true, true, false, true, false, false, false, false, false, false, false, false, false, false, false, false, false, false] _;refine zk 5 rfl (aN rfl) ?_;show AI _ _ _ _ _ _ #[true, true, true, false, true, true, false, false, false, false, false, false, false, false, false, false, false, false, false] _;refine zk 6 rfl (aK (n := 1) (by kernel_rfl) rfl) ?_;show AI _ _ _ _ _ _ #[true, true, true, false, true, true, true, false, false, false, false, false, false, false, false, false, false, false, false] _
  refine zk 12 rfl (ag (av := .pt _ _) rfl) ?_;show AI _ _ _ _ _ _ #[true, true, true, false, true, true, true, false, false, false, false, false, true, false, false, false, false, false, false] _;refine zk 13 rfl (aN rfl) ?_;show AI _ _ _ _ _ _ #[true, true, true, false, true, true, true, false, false, false, false, false, true, true, false, false, false, false, false] _;refine zk 14 rfl (aK (n := 1) (by kernel_rfl) rfl) ?_;show AI _ _ _ _ _ _ #[true, true, true, false, true, true, true, false, false, false, false, false, true, true, true, false, false, false, false] _;refine AI.three (i := 3) (j := 7) (l := 15) (by kernel_rfl) rfl rfl rfl rfl rfl rfl ?_ ?_ ?_
  ·refine be rfl (ao (i := 0) aa rfl rfl rfl rfl) ?_;show AI _ _ _ _ _ _ #[true, true, true, true, true, true, true, false, false, false, false, false, true, true, true, false, false, false, false] _;refine dw (i := 7) (j := 15) (by kernel_rfl) rfl rfl rfl rfl ?_ ?_
   ·refine be rfl (ao (i := 0) ac rfl rfl rfl rfl) ?_;show AI _ _ _ _ _ _ #[true, true, true, true, true, true, true, true, false, false, false, false, true, true, true, false, false, false, false] _;refine zk 8 rfl (cE rfl rfl g57 e59) ?_;show AI _ _ _ _ _ _ #[true, true, true, true, true, true, true, true, true, false, false, false, true, true, true, false, false, false, false] _;refine zk 9 rfl (cE rfl rfl g60 e62) ?_;show AI _ _ _ _ _ _ #[true, true, true, true, true, true, true, true, true, true, false, false, true, true, true, false, false, false, false] _;refine zk 10 rfl (cE rfl rfl g63 e65) ?_;show AI _ _ _ _ _ _ #[true, true, true, true, true, true, true, true, true, true, true, false, true, true, true, false, false, false, false] _;refine dw (i := 11) (j := 15) (by kernel_rfl) rfl rfl rfl rfl ?_ ?_
    ·refine bS rfl (bi (bytes := 1) 1 aa ac rfl (by kernel_rfl) rfl rfl rfl rfl g67 e69) ?_;rintro _ _ ⟨t66, rfl, rfl⟩;show AI _ _ _ _ _ _ #[true, true, true, true, true, true, true, true, true, true, true, true, true, true, true, false, false, false, false] _;refine zk 16 rfl (am (av := slE _ _ _) rfl) ?_;show AI _ _ _ _ _ _ #[true, true, true, true, true, true, true, true, true, true, true, true, true, true, true, false, true, false, false] _;refine bf (i := 15) (by kernel_rfl) rfl rfl <| be rfl (ao (i := 0) ac rfl rfl rfl rfl) ?_;show AI _ _ _ _ _ _ #[true, true, true, true, true, true, true, true, true, true, true, true, true, true, true, true, true, false, false] _;refine zk 17 rfl (asg rfl) ?_;show AI _ _ _ _ _ _ #[true, true, true, true, true, true, true, true, true, true, true, true, true, true, true, true, true, true, false] _;refine zk 18 rfl (asg rfl) ?_;show AI _ _ _ _ _ _ #[true, true, true, true, true, true, true, true, true, true, true, true, true, true, true, true, true, true, true] _;refine bN rfl <| aP ?_;obtain ⟨rfl, rfl, rfl⟩ := gz H;exact And.intro rfl (Exists.intro _ (Exists.intro _ ⟨bp rfl (.tok _ _ _) (.refl _) (.refl _), aO [] rfl, rfl, rfl⟩))
    ·refine be rfl (ao (i := 0) ac rfl rfl rfl rfl) ?_;show AI _ _ _ _ _ _ #[true, true, true, true, true, true, true, true, true, true, true, false, true, true, true, true, false, false, false] _;refine bf (i := 11) (by kernel_rfl) rfl rfl <| bS rfl (bi (bytes := 1) 1 aa ac rfl (by kernel_rfl) rfl rfl rfl rfl g67 e69) ?_;rintro _ _ ⟨t70, rfl, rfl⟩;show AI _ _ _ _ _ _ #[true, true, true, true, true, true, true, true, true, true, true, true, true, true, true, true, false, false, false] _;refine zk 16 rfl (am (av := slE _ _ _) rfl) ?_;show AI _ _ _ _ _ _ #[true, true, true, true, true, true, true, true, true, true, true, true, true, true, true, true, true, false, false] _;refine zk 17 rfl (asg rfl) ?_;show AI _ _ _ _ _ _ #[true, true, true, true, true, true, true, true, true, true, true, true, true, true, true, true, true, true, false] _;refine zk 18 rfl (asg rfl) ?_;show AI _ _ _ _ _ _ #[true, true, true, true, true, true, true, true, true, true, true, true, true, true, true, true, true, true, true] _;refine bN rfl <| aP ?_;obtain ⟨rfl, rfl, rfl⟩ := gz H;exact And.intro rfl (Exists.intro _ (Exists.intro _ ⟨bp rfl (.tok _ _ _) (.refl _) (.refl _), aO [] rfl, rfl, rfl⟩))
   ·refine be rfl (ao (i := 0) ac rfl rfl rfl rfl) ?_;show AI _ _ _ _ _ _ #[true, true, true, true, true, true, true, false, false, false, false, false, true, true, true, true, false, false, false] _;refine bf (i := 7) (by kernel_rfl) rfl rfl <| be rfl (ao (i := 0) ac rfl rfl rfl rfl) ?_;show AI _ _ _ _ _ _ #[true, true, true, true, true, true, true, true, false, false, false, false, true, true, true, true, false, false, false] _;refine zk 8 rfl (cE rfl rfl g57 e59) ?_;show AI _ _ _ _ _ _ #[true, true, true, true, true, true, true, true, true, false, false, false, true, true, true, true, false, false, false] _;refine zk 9 rfl (cE rfl rfl g60 e62) ?_;show AI _ _ _ _ _ _ #[true, true, true, true, true, true, true, true, true, true, false, false, true, true, true, true, false, false, false] _;refine zk 10 rfl (cE rfl rfl g63 e65) ?_;show AI _ _ _ _ _ _ #[true, true, true, true, true, true, true, true, true, true, true, false, true, true, true, true, false, false, false] _;refine bf (i := 11) (by kernel_rfl) rfl rfl <| bS rfl (bi (bytes := 1) 1 aa ac rfl (by kernel_rfl) rfl rfl rfl rfl g67 e69) ?_;rintro _ _ ⟨t71, rfl, rfl⟩;show AI _ _ _ _ _ _ #[true, true, true, true, true, true, true, true, true, true, true, true, true, true, true, true, false, false, false] _;refine zk 16 rfl (am (av := slE _ _ _) rfl) ?_;show AI _ _ _ _ _ _ #[true, true, true, true, true, true, true, true, true, true, true, true, true, true, true, true, true, false, false] _
    refine zk 17 rfl (asg rfl) ?_;show AI _ _ _ _ _ _ #[true, true, true, true, true, true, true, true, true, true, true, true, true, true, true, true, true, true, false] _;refine zk 18 rfl (asg rfl) ?_;show AI _ _ _ _ _ _ #[true, true, true, true, true, true, true, true, true, true, true, true, true, true, true, true, true, true, true] _;refine bN rfl <| aP ?_;obtain ⟨rfl, rfl, rfl⟩ := gz H;exact And.intro rfl (Exists.intro _ (Exists.intro _ ⟨bp rfl (.tok _ _ _) (.refl _) (.refl _), aO [] rfl, rfl, rfl⟩))
  ·refine be rfl (ao (i := 0) ac rfl rfl rfl rfl) ?_;show AI _ _ _ _ _ _ #[true, true, true, false, true, true, true, true, false, false, false, false, true, true, true, false, false, false, false] _;refine zk 8 rfl (cE rfl rfl g57 e59) ?_;show AI _ _ _ _ _ _ #[true, true, true, false, true, true, true, true, true, false, false, false, true, true, true, false, false, false, false] _;refine zk 9 rfl (cE rfl rfl g60 e62) ?_;show AI _ _ _ _ _ _ #[true, true, true, false, true, true, true, true, true, true, false, false, true, true, true, false, false, false, false] _;refine zk 10 rfl (cE rfl rfl g63 e65) ?_;show AI _ _ _ _ _ _ #[true, true, true, false, true, true, true, true, true, true, true, false, true, true, true, false, false, false, false] _;refine dw (i := 3) (j := 15) (by kernel_rfl) rfl rfl rfl rfl ?_ ?_
   ·refine be rfl (ao (i := 0) aa rfl rfl rfl rfl) ?_;show AI _ _ _ _ _ _ #[true, true, true, true, true, true, true, true, true, true, true, false, true, true, true, false, false, false, false] _;refine dw (i := 11) (j := 15) (by kernel_rfl) rfl rfl rfl rfl ?_ ?_
    ·refine bS rfl (bi (bytes := 1) 1 aa ac rfl (by kernel_rfl) rfl rfl rfl rfl g67 e69) ?_;rintro _ _ ⟨t72, rfl, rfl⟩;show AI _ _ _ _ _ _ #[true, true, true, true, true, true, true, true, true, true, true, true, true, true, true, false, false, false, false] _;refine zk 16 rfl (am (av := slE _ _ _) rfl) ?_;show AI _ _ _ _ _ _ #[true, true, true, true, true, true, true, true, true, true, true, true, true, true, true, false, true, false, false] _;refine bf (i := 15) (by kernel_rfl) rfl rfl <| be rfl (ao (i := 0) ac rfl rfl rfl rfl) ?_;show AI _ _ _ _ _ _ #[true, true, true, true, true, true, true, true, true, true, true, true, true, true, true, true, true, false, false] _;refine zk 17 rfl (asg rfl) ?_;show AI _ _ _ _ _ _ #[true, true, true, true, true, true, true, true, true, true, true, true, true, true, true, true, true, true, false] _;refine zk 18 rfl (asg rfl) ?_;show AI _ _ _ _ _ _ #[true, true, true, true, true, true, true, true, true, true, true, true, true, true, true, true, true, true, true] _;refine bN rfl <| aP ?_;obtain ⟨rfl, rfl, rfl⟩ := gz H;exact And.intro rfl (Exists.intro _ (Exists.intro _ ⟨bp rfl (.tok _ _ _) (.refl _) (.refl _), aO [] rfl, rfl, rfl⟩))
    ·refine be rfl (ao (i := 0) ac rfl rfl rfl rfl) ?_;show AI _ _ _ _ _ _ #[true, true, true, true, true, true, true, true, true, true, true, false, true, true, true, true, false, false, false] _;refine bf (i := 11) (by kernel_rfl) rfl rfl <| bS rfl (bi (bytes := 1) 1 aa ac rfl (by kernel_rfl) rfl rfl rfl rfl g67 e69) ?_;rintro _ _ ⟨t73, rfl, rfl⟩;show AI _ _ _ _ _ _ #[true, true, true, true, true, true, true, true, true, true, true, true, true, true, true, true, false, false, false] _;refine zk 16 rfl (am (av := slE _ _ _) rfl) ?_;show AI _ _ _ _ _ _ #[true, true, true, true, true, true, true, true, true, true, true, true, true, true, true, true, true, false, false] _;refine zk 17 rfl (asg rfl) ?_;show AI _ _ _ _ _ _ #[true, true, true, true, true, true, true, true, true, true, true, true, true, true, true, true, true, true, false] _;refine zk 18 rfl (asg rfl) ?_;show AI _ _ _ _ _ _ #[true, true, true, true, true, true, true, true, true, true, true, true, true, true, true, true, true, true, true] _;refine bN rfl <| aP ?_;obtain ⟨rfl, rfl, rfl⟩ := gz H;exact And.intro rfl (Exists.intro _ (Exists.intro _ ⟨bp rfl (.tok _ _ _) (.refl _) (.refl _), aO [] rfl, rfl, rfl⟩))
   ·refine be rfl (ao (i := 0) ac rfl rfl rfl rfl) ?_;show AI _ _ _ _ _ _ #[true, true, true, false, true, true, true, true, true, true, true, false, true, true, true, true, false, false, false] _;refine bf (i := 3) (by kernel_rfl) rfl rfl <| be rfl (ao (i := 0) aa rfl rfl rfl rfl) ?_;show AI _ _ _ _ _ _ #[true, true, true, true, true, true, true, true, true, true, true, false, true, true, true, true, false, false, false] _;refine bf (i := 11) (by kernel_rfl) rfl rfl <| bS rfl (bi (bytes := 1) 1 aa ac rfl (by kernel_rfl) rfl rfl rfl rfl g67 e69) ?_;rintro _ _ ⟨t74, rfl, rfl⟩;show AI _ _ _ _ _ _ #[true, true, true, true, true, true, true, true, true, true, true, true, true, true, true, true, false, false, false] _;refine zk 16 rfl (am (av := slE _ _ _) rfl) ?_;show AI _ _ _ _ _ _ #[true, true, true, true, true, true, true, true, true, true, true, true, true, true, true, true, true, false, false] _;refine zk 17 rfl (asg rfl) ?_;show AI _ _ _ _ _ _ #[true, true, true, true, true, true, true, true, true, true, true, true, true, true, true, true, true, true, false] _;refine zk 18 rfl (asg rfl) ?_;show AI _ _ _ _ _ _ #[true, true, true, true, true, true, true, true, true, true, true, true, true, true, true, true, true, true, true] _;refine bN rfl <| aP ?_;obtain ⟨rfl, rfl, rfl⟩ := gz H;exact And.intro rfl (Exists.intro _ (Exists.intro _ ⟨bp rfl (.tok _ _ _) (.refl _) (.refl _), aO [] rfl, rfl, rfl⟩))
  ·refine be rfl (ao (i := 0) ac rfl rfl rfl rfl) ?_;show AI _ _ _ _ _ _ #[true, true, true, false, true, true, true, false, false, false, false, false, true, true, true, true, false, false, false] _;refine dw (i := 3) (j := 7) (by kernel_rfl) rfl rfl rfl rfl ?_ ?_
   ·refine be rfl (ao (i := 0) aa rfl rfl rfl rfl) ?_;show AI _ _ _ _ _ _ #[true, true, true, true, true, true, true, false, false, false, false, false, true, true, true, true, false, false, false] _;refine bf (i := 7) (by kernel_rfl) rfl rfl <| be rfl (ao (i := 0) ac rfl rfl rfl rfl) ?_;show AI _ _ _ _ _ _ #[true, true, true, true, true, true, true, true, false, false, false, false, true, true, true, true, false, false, false] _;refine zk 8 rfl (cE rfl rfl g57 e59) ?_;show AI _ _ _ _ _ _ #[true, true, true, true, true, true, true, true, true, false, false, false, true, true, true, true, false, false, false] _;refine zk 9 rfl (cE rfl rfl g60 e62) ?_;show AI _ _ _ _ _ _ #[true, true, true, true, true, true, true, true, true, true, false, false, true, true, true, true, false, false, false] _;refine zk 10 rfl (cE rfl rfl g63 e65) ?_;show AI _ _ _ _ _ _ #[true, true, true, true, true, true, true, true, true, true, true, false, true, true, true, true, false, false, false] _;refine bf (i := 11) (by kernel_rfl) rfl rfl <| bS rfl (bi (bytes := 1) 1 aa ac rfl (by kernel_rfl) rfl rfl rfl rfl g67 e69) ?_;rintro _ _ ⟨t75, rfl, rfl⟩;show AI _ _ _ _ _ _ #[true, true, true, true, true, true, true, true, true, true, true, true, true, true, true, true, false, false, false] _;refine zk 16 rfl (am (av := slE _ _ _) rfl) ?_;show AI _ _ _ _ _ _ #[true, true, true, true, true, true, true, true, true, true, true, true, true, true, true, true, true, false, false] _
    refine zk 17 rfl (asg rfl) ?_;show AI _ _ _ _ _ _ #[true, true, true, true, true, true, true, true, true, true, true, true, true, true, true, true, true, true, false] _;refine zk 18 rfl (asg rfl) ?_;show AI _ _ _ _ _ _ #[true, true, true, true, true, true, true, true, true, true, true, true, true, true, true, true, true, true, true] _;refine bN rfl <| aP ?_;obtain ⟨rfl, rfl, rfl⟩ := gz H;exact And.intro rfl (Exists.intro _ (Exists.intro _ ⟨bp rfl (.tok _ _ _) (.refl _) (.refl _), aO [] rfl, rfl, rfl⟩))
   ·refine be rfl (ao (i := 0) ac rfl rfl rfl rfl) ?_;show AI _ _ _ _ _ _ #[true, true, true, false, true, true, true, true, false, false, false, false, true, true, true, true, false, false, false] _;refine zk 8 rfl (cE rfl rfl g57 e59) ?_;show AI _ _ _ _ _ _ #[true, true, true, false, true, true, true, true, true, false, false, false, true, true, true, true, false, false, false] _;refine zk 9 rfl (cE rfl rfl g60 e62) ?_;show AI _ _ _ _ _ _ #[true, true, true, false, true, true, true, true, true, true, false, false, true, true, true, true, false, false, false] _;refine zk 10 rfl (cE rfl rfl g63 e65) ?_;show AI _ _ _ _ _ _ #[true, true, true, false, true, true, true, true, true, true, true, false, true, true, true, true, false, false, false] _;refine bf (i := 3) (by kernel_rfl) rfl rfl <| be rfl (ao (i := 0) aa rfl rfl rfl rfl) ?_;show AI _ _ _ _ _ _ #[true, true, true, true, true, true, true, true, true, true, true, false, true, true, true, true, false, false, false] _;refine bf (i := 11) (by kernel_rfl) rfl rfl <| bS rfl (bi (bytes := 1) 1 aa ac rfl (by kernel_rfl) rfl rfl rfl rfl g67 e69) ?_;rintro _ _ ⟨t76, rfl, rfl⟩;show AI _ _ _ _ _ _ #[true, true, true, true, true, true, true, true, true, true, true, true, true, true, true, true, false, false, false] _;refine zk 16 rfl (am (av := slE _ _ _) rfl) ?_;show AI _ _ _ _ _ _ #[true, true, true, true, true, true, true, true, true, true, true, true, true, true, true, true, true, false, false] _
    refine zk 17 rfl (asg rfl) ?_;show AI _ _ _ _ _ _ #[true, true, true, true, true, true, true, true, true, true, true, true, true, true, true, true, true, true, false] _;refine zk 18 rfl (asg rfl) ?_;show AI _ _ _ _ _ _ #[true, true, true, true, true, true, true, true, true, true, true, true, true, true, true, true, true, true, true] _;refine bN rfl <| aP ?_;obtain ⟨rfl, rfl, rfl⟩ := gz H;exact And.intro rfl (Exists.intro _ (Exists.intro _ ⟨bp rfl (.tok _ _ _) (.refl _) (.refl _), aO [] rfl, rfl, rfl⟩))
set_option maxRecDepth 100000 in
set_option maxHeartbeats 1000000 in
theorem ui (F : Nat) (a1 : List UInt8) (q2 : Option Nat) (r3 : List UInt8) (r4 : List UInt8) (r5 : Bool) (H : mH F a1 = some (r3, r4, r5)) : ACalls Tryz.prog 35 [slE Enc.byte a1 q2] [] (Ret (.tup [S r3, slE Enc.byte r4 none, B r5]) []) := by
 unfold mH at H
 refine aw Tryz.func35 rfl rfl ?_;show AW _ _ 43 _ _ _;refine af <| ab ?_;show AR _ _ _ _ _ [0, 1, 2] _;refine za rfl <| za rfl <| za rfl <| ai <| af ?_;obtain ⟨x6, x7, x8, e9, H⟩ := kj H;refine ab ?_;show AR _ _ _ _ _ [0, 1, 2, 3, 4, 5, 6, 7, 8] _;refine zS rfl (ag (av := slE _ _ _) rfl) <| ap rfl rfl (aW rfl vi rfl (uk F a1 q2 x6 x7 x8 e9) ?_);refine zS rfl (ag (av := .tup _) rfl) <| zS rfl (aI (av := slE _ _ _) rfl rfl) <| zS rfl (aI (av := slE _ _ _) rfl rfl) <| zS rfl (aI (av := .v _) rfl rfl) <| zS rfl (am (av := slE _ _ _) rfl) <| zS rfl (am (av := slE _ _ _) rfl) <| za rfl <| ai <| af <| af <| ab ?_;show AR _ _ _ _ _ [0, 1, 2, 3, 4, 5, 6, 7, 8, 9, 10, 11] _;refine zm rfl <| zS rfl (dv rfl rfl) <| zm rfl <| aQ (l := [7, 8, 9, 10, 11]) 21 (B ((!decide (x8 = 0)) || (!decide ((x6.length : Int) = 2)))) (fun K => ?_) ?_
 ·rcases ah (!decide (x8 = 0)) with h10 | h10
  ·refine zF h10 rfl <| zF h10 rfl <| zF h10 rfl <| zS rfl (ax (av := .v _) rfl h10 rfl) ?_;exact K _ 3 _ (an (dC h10)) rfl rfl
  ·refine zU h10 rfl (ag (av := slE _ _ _) rfl) <| zU h10 rfl (aH bu rfl) <| zU h10 rfl (dv rfl rfl) <| zS rfl (ay (av := .v _) rfl h10 rfl) ?_;exact K _ 3 _ (an (dD h10)) rfl rfl
 refine zm rfl <| aQ (l := []) 26 (B (((!decide (x8 = 0)) || (!decide ((x6.length : Int) = 2))) || (decide ((x7.length : Int) < 2)))) (fun K => ?_) ?_
 ·rcases ah ((!decide (x8 = 0)) || (!decide ((x6.length : Int) = 2))) with h11 | h11
  ·refine zF h11 rfl <| zF h11 rfl <| zF h11 rfl <| zS rfl (ax (av := .v _) rfl h11 rfl) ?_;exact K _ 3 _ (an (dC h11)) rfl rfl
  ·refine zU h11 rfl (ag (av := slE _ _ _) rfl) <| zU h11 rfl (aH aa rfl) <| zU h11 rfl (bB rfl rfl) <| zS rfl (ay (av := .v _) rfl h11 rfl) ?_;exact K _ 3 _ (an (dD h11)) rfl rfl
 refine ai <| aD rfl (fun c12 => ?_) (fun c12 => ?_)
 ·replace H := aZ c12 H;refine af <| ab ?_;show AR _ _ _ _ _ [0, 1, 2] _;refine za rfl <| za rfl <| za rfl <| ai <| aP ?_;obtain ⟨rfl, rfl, rfl⟩ := gz H;exact And.intro rfl (Exists.intro _ (Exists.intro _ ⟨bp rfl (.refl _) (.nil _) (.refl _), aO [] rfl, rfl, rfl⟩))
 ·replace H := ba c12 H;refine aF <| af ?_;obtain ⟨g13, H⟩ := az H;obtain ⟨g14, H⟩ := az H;obtain ⟨x15, e16, H⟩ := bb H;obtain ⟨x17, x18, e19, H⟩ := eK H;refine ab ?_;show AR _ _ _ _ _ [0, 1, 2, 3, 4, 5, 6, 7, 8, 9, 10] _;refine zS rfl (ag (av := slE _ _ _) rfl) <| zS rfl (ag (av := slE _ _ _) rfl) <| zS rfl (aH aa rfl) <| zS rfl (jz rfl rfl g13) <| zS rfl (lu (E := Enc.byte) aa (by kernel_rfl) rfl rfl g14 e16) <| ap rfl rfl (aW rfl vh rfl (sE F x15 none x17 x18 e19) ?_);refine zS rfl (ag (av := .tup _) rfl) <| zS rfl (aI (av := slE _ _ _) rfl rfl) <| zS rfl (aI (av := .v _) rfl rfl) <| zS rfl (am (av := slE _ _ _) rfl) <| za rfl <| ai <| af ?_;obtain ⟨g20, H⟩ := az H;obtain ⟨x21, e22, H⟩ := bb H;refine ab ?_;show AR _ _ _ _ _ [0, 1, 2, 3, 4, 5, 6, 7, 8, 9] _;refine zS rfl (ag (av := slE _ _ _) rfl) <| zS rfl (aY (E := (cA Enc.str Enc.str)) bu (by kernel_rfl) rfl rfl g20 e22) <| zS rfl (co (n := 1) (by kernel_rfl) rfl (aj rfl)) <| zS rfl (aL ac rfl rfl) <| zS rfl (ag (av := slE _ _ _) rfl) <| zm rfl <| zS rfl (dm rfl rfl) <| za rfl <| zS rfl (am (av := slE _ _ _) rfl) <| za rfl <| ai <| aP ?_;obtain ⟨rfl, rfl, rfl⟩ := gz H;exact And.intro rfl (Exists.intro _ (Exists.intro _ ⟨bp rfl (.refl _) (.refl _) (.refl _), aO [] rfl, rfl, rfl⟩))
set_option maxRecDepth 100000 in
set_option maxHeartbeats 1000000 in
theorem nv (F : Nat) (a1 : List UInt8) (q2 : Option Nat) (a3 : List UInt8) (r4 : List (List UInt8)) (r5 : List (List UInt8)) (r6 : Int) (H : jI F a1 a3 = some (r4, r5, r6)) : ACalls Tryz.prog 14 [slE Enc.byte a1 q2, S a3] [] (Ret (.tup [slE Enc.str r4 none, slE (Enc.sl Enc.byte) r5 none, i64 r6]) []) := by
 unfold jI at H
 refine aw Tryz.func14 rfl rfl ?_;show AW _ _ 83 _ _ _;refine af <| ab ?_;show AR _ _ _ _ _ [0, 1, 2] _;refine za rfl <| za rfl <| za rfl <| ai <| af <| ab ?_;show AR _ _ _ _ _ [0] _;refine za rfl <| ai ?_
 refine bL 7 1 9 rfl fun t7 => ?_
 show AW _ _ _ _ _ ⟨(7, slE Enc.str [] (some t7)) :: _, _, _⟩;refine af <| ab ?_;show AR _ _ _ _ _ [0] _;refine za rfl <| ai ?_
 refine bL 8 1 26 rfl fun t8 => ?_
 show AW _ _ _ _ _ ⟨(8, slE (Enc.sl Enc.byte) [] (some t8)) :: _, _, _⟩;refine bx (X := (List (List UInt8)) × Nat × (List (List UInt8)) × Nat) (fun (y63, t64, y65, t66) => ⟨[(0, slE Enc.byte a1 q2), (1, S a3), (7, slE Enc.str y63 (some t64)), (8, slE (Enc.sl Enc.byte) y65 (some t66))], [], [.tok t64 9, .tok t66 26]⟩) (fun (y63, t64, y65, t66) => dX F a1 a3 y63 y65 = some (r4, r5, r6)) ?_ ?_
 ·refine af <| ab ?_;show AR _ _ _ _ _ [0, 1] _;refine zS rfl (ag (av := slE _ _ _) rfl) <| zS rfl (am (av := slE _ _ _) rfl) <| ai <| aJ <| bE (X := Nat × (List (List UInt8)) × Nat × (List (List UInt8)) × Nat × (List UInt8)) (fun (n15, y9, t10, y11, t12, y13) => ⟨[(0, slE Enc.byte a1 q2), (1, S a3), (7, slE Enc.str y9 (some t10)), (8, slE (Enc.sl Enc.byte) y11 (some t12)), (9, slE Enc.byte y13 none)], [], [.tok t10 9, .tok t12 26]⟩) (fun (n15, y9, t10, y11, t12, y13) => gX F a1 a3 n15 (y9, y11, y13) = some (r4, r5, r6)) (fun (n15, y9, t10, y11, t12, y13) => n15) (F, [], t7, [], t8, a1) H (aU [1, 0] (.cons (.refl _) (.cons (.refl _) (.cons (.refl _) (.cons (.refl _) (.cons (.tok _ _ _) (.nil _)))))) rfl) ?_;rintro ⟨n15, y9, t10, y11, t12, y13⟩ H;obtain ⟨n15, rfl, H⟩ := bX H;replace H : gY F a1 a3 (gX F a1 a3 n15) y9 y11 y13 = some (r4, r5, r6) := H
  unfold gY at H
  refine af <| af <| ab ?_;show AR _ _ _ _ _ [0, 1, 2] _;refine zS rfl (ag (av := slE _ _ _) rfl) <| zS rfl (aH aC rfl) <| zS rfl (dd rfl rfl) <| ai <| aD rfl (fun c16 => ?_) (fun c16 => ?_)
  ·replace H := aZ c16 H;refine aF <| aJ <| af ?_;obtain ⟨g17, H⟩ := az H;obtain ⟨x18, e19, H⟩ := bb H;obtain ⟨g20, H⟩ := az H;obtain ⟨x21, e22, H⟩ := bb H;obtain ⟨g23, H⟩ := az H;obtain ⟨g25, H⟩ := az H;obtain ⟨x26, e27, H⟩ := bb H;refine ab ?_;show AR _ _ _ _ _ [0, 1, 2, 3, 4, 5, 6, 7, 8, 9, 10] _;refine zS rfl (ag (av := slE _ _ _) rfl) <| zm rfl <| zS rfl (cE rfl rfl g17 e19) <| zS rfl (cE rfl rfl g20 e22) <| zX rfl (cQ (bytes := 1) ac aa au rfl g23) ?_;rintro _ _ ⟨t24, rfl, rfl⟩;refine ap rfl rfl (aW rfl vC rfl (show ACalls _ _ _ [] (Ret (.tup [slE Enc.byte x26.1 none, B x26.2]) []) from by subst e27; exact nl y13 x21 none (some t24) (of_decide_eq_true g25)) ?_);refine zS rfl (ag (av := .tup _) rfl) <| zS rfl (aI (av := slE _ _ _) rfl rfl) <| zS rfl (aI (av := .v _) rfl rfl) <| zS rfl (am (av := slE _ _ _) rfl) <| za rfl <| ai <| af <| af <| ab ?_;show AR _ _ _ _ _ [0, 1] _;refine zm rfl <| zS rfl (cx rfl) <| ai <| aD rfl (fun c28 => ?_) (fun c28 => ?_)
   ·replace H := aZ c28 H;refine bz ?_;exact Exists.intro (y9, t10, y11, t12) ⟨H, aU [1, 1] (.cons (.refl _) (.cons (.refl _) (.cons (.refl _) (.cons (.refl _) (.nil _))))) rfl⟩
   ·replace H := ba c28 H;refine aF <| af ?_;obtain ⟨g29, H⟩ := az H;obtain ⟨x30, e31, H⟩ := bb H;obtain ⟨g32, H⟩ := az H;obtain ⟨g34, H⟩ := az H;obtain ⟨g35, H⟩ := az H;obtain ⟨g36, H⟩ := az H;obtain ⟨x37, e38, H⟩ := bb H;refine ab ?_;show AR _ _ _ _ _ [0, 1, 2, 3, 4, 5] _;refine zS rfl (ag (av := slE _ _ _) rfl) <| zm rfl <| zS rfl (cE rfl rfl g29 e31) <| zX rfl (cQ (bytes := 1) ac aa au rfl g32) ?_;rintro _ _ ⟨t33, rfl, rfl⟩;refine ap rfl rfl (aW rfl vA rfl (show ACalls _ _ _ [] (Ret (i64 x37) []) from by subst e38; exact my x26.1 x30 none (some t33) (kU g34) (of_decide_eq_true g35) (kU g36)) ?_);refine za rfl <| ai <| af <| af <| ab ?_;show AR _ _ _ _ _ [0, 1] _;refine zm rfl <| zS rfl (bB rfl rfl) <| ai <| aD rfl (fun c39 => ?_) (fun c39 => ?_)
    ·replace H := aZ c39 H;refine af <| ab ?_;show AR _ _ _ _ _ [0, 1, 2] _;refine za rfl <| za rfl <| za rfl <| ai <| aP ?_;obtain ⟨rfl, rfl, rfl⟩ := gz H;exact And.intro rfl (Exists.intro _ (Exists.intro _ ⟨bp rfl (.nil _) (.nil _) (.refl _), aO [] rfl, rfl, rfl⟩))
    ·replace H := ba c39 H;refine aF <| af ?_;obtain ⟨g40, H⟩ := az H;obtain ⟨x41, e42, H⟩ := bb H;obtain ⟨x43, x44, x45, e46, H⟩ := kj H;refine ab ?_;show AR _ _ _ _ _ [0, 1, 2, 3, 4, 5, 6, 7, 8, 9, 10] _;refine zS rfl (ag (av := slE _ _ _) rfl) <| zm rfl <| zS rfl (lu (E := Enc.byte) aa (by kernel_rfl) rfl rfl g40 e42) <| ap rfl rfl (aW rfl vz rfl (ui F x41 none x43 x44 x45 e46) ?_);refine zS rfl (ag (av := .tup _) rfl) <| zS rfl (aI (av := .v _) rfl rfl) <| zS rfl (aI (av := slE _ _ _) rfl rfl) <| zS rfl (aI (av := .v _) rfl rfl) <| za rfl <| zS rfl (am (av := slE _ _ _) rfl) <| za rfl <| ai <| af <| af <| ab ?_;show AR _ _ _ _ _ [0, 1] _;refine zm rfl <| zS rfl (cx rfl) <| ai <| aD rfl (fun c47 => ?_) (fun c47 => ?_)
     ·replace H := aZ c47 H;refine af <| ab ?_;show AR _ _ _ _ _ [0, 1, 2] _;refine za rfl <| za rfl <| za rfl <| ai <| aP ?_;obtain ⟨rfl, rfl, rfl⟩ := gz H;exact And.intro rfl (Exists.intro _ (Exists.intro _ ⟨bp rfl (.nil _) (.nil _) (.refl _), aO [] rfl, rfl, rfl⟩))
     ·replace H := ba c47 H;refine aF ?_;obtain ⟨g48, H⟩ := az H;obtain ⟨x49, e50, H⟩ := bb H;obtain ⟨g52, H⟩ := az H;obtain ⟨x53, e54, H⟩ := bb H;obtain ⟨g56, H⟩ := az H;obtain ⟨x57, e58, H⟩ := bb H;refine bW (by kernel_rfl) ?_;show AI _ _ _ _ _ 14 (Array.replicate 14 false) _;refine zk 0 rfl (ag (av := slE _ _ _) rfl) ?_;show AI _ _ _ _ _ _ #[true, false, false, false, false, false, false, false, false, false, false, false, false, false] _;refine zk 1 rfl (mv rfl) ?_;show AI _ _ _ _ _ _ #[true, true, false, false, false, false, false, false, false, false, false, false, false, false] _;refine zk 4 rfl (ag (av := slE _ _ _) rfl) ?_;show AI _ _ _ _ _ _ #[true, true, false, false, true, false, false, false, false, false, false, false, false, false] _;refine zk 5 rfl (ag (av := slE _ _ _) rfl) ?_;show AI _ _ _ _ _ _ #[true, true, false, false, true, true, false, false, false, false, false, false, false, false] _;refine zk 8 rfl (ag (av := slE _ _ _) rfl) ?_;show AI _ _ _ _ _ _ #[true, true, false, false, true, true, false, false, true, false, false, false, false, false] _;refine zk 9 rfl (mv rfl) ?_;show AI _ _ _ _ _ _ #[true, true, false, false, true, true, false, false, true, true, false, false, false, false] _;refine zk 10 rfl (gx (E := Enc.byte) aa (by kernel_rfl) rfl rfl g48 e50) ?_;show AI _ _ _ _ _ _ #[true, true, false, false, true, true, false, false, true, true, true, false, false, false] _;refine dw (i := 2) (j := 6) (by kernel_rfl) rfl rfl rfl rfl ?_ ?_
      ·refine be rfl (bh (E := Enc.str) (bytes := 16) (xs := [.tmp 51]) (l := ([x43] : List (List UInt8))) aA (by kernel_rfl) rfl rfl (by decide) rfl rfl) ?_;show AI _ _ _ _ _ _ #[true, true, true, false, true, true, false, false, true, true, true, false, false, false] _;refine dw (i := 3) (j := 6) (by kernel_rfl) rfl rfl rfl rfl ?_ ?_
       ·refine bS rfl (bA (E := Enc.str) (bytes := 16) 2 aA aA rfl (by kernel_rfl) rfl rfl rfl rfl g52 e54) ?_;rintro _ _ ⟨t51, rfl, rfl⟩;show AI _ _ _ _ _ _ #[true, true, true, true, true, true, false, false, true, true, true, false, false, false] _;refine bf (i := 6) (by kernel_rfl) rfl rfl <| be rfl (bh (E := (Enc.sl Enc.byte)) (bytes := 24) (xs := [.tmp 55]) (l := ([x44] : List (List UInt8))) aC (by kernel_rfl) rfl rfl (by decide) rfl rfl) ?_;show AI _ _ _ _ _ _ #[true, true, true, true, true, true, true, false, true, true, true, false, false, false] _;refine bf (i := 7) (by kernel_rfl) rfl rfl <| bS rfl (bA (E := (Enc.sl Enc.byte)) (bytes := 24) 3 aC aC rfl (by kernel_rfl) rfl rfl rfl rfl g56 e58) ?_;rintro _ _ ⟨t55, rfl, rfl⟩;show AI _ _ _ _ _ _ #[true, true, true, true, true, true, true, true, true, true, true, false, false, false] _;refine zk 11 rfl (am (av := slE _ _ _) rfl) ?_;show AI _ _ _ _ _ _ #[true, true, true, true, true, true, true, true, true, true, true, true, false, false] _;refine zk 12 rfl (am (av := slE _ _ _) rfl) ?_;show AI _ _ _ _ _ _ #[true, true, true, true, true, true, true, true, true, true, true, true, true, false] _;refine zk 13 rfl (am (av := slE _ _ _) rfl) ?_;show AI _ _ _ _ _ _ #[true, true, true, true, true, true, true, true, true, true, true, true, true, true] _;refine bN rfl ?_
        exact Exists.intro (n15, x53, t51, x57, t55, x49) ⟨H, Nat.lt_succ_self _, aU [2, 2] (.cons (.refl _) (.cons (.refl _) (.cons (.refl _) (.cons (.refl _) (.cons (.refl _) (.nil _)))))) rfl⟩
       ·refine be rfl (bh (E := (Enc.sl Enc.byte)) (bytes := 24) (xs := [.tmp 55]) (l := ([x44] : List (List UInt8))) aC (by kernel_rfl) rfl rfl (by decide) rfl rfl) ?_;show AI _ _ _ _ _ _ #[true, true, true, false, true, true, true, false, true, true, true, false, false, false] _;refine bf (i := 3) (by kernel_rfl) rfl rfl <| bS rfl (bA (E := Enc.str) (bytes := 16) 2 aA aA rfl (by kernel_rfl) rfl rfl rfl rfl g52 e54) ?_;rintro _ _ ⟨t59, rfl, rfl⟩;show AI _ _ _ _ _ _ #[true, true, true, true, true, true, true, false, true, true, true, false, false, false] _;refine bf (i := 7) (by kernel_rfl) rfl rfl <| bS rfl (bA (E := (Enc.sl Enc.byte)) (bytes := 24) 3 aC aC rfl (by kernel_rfl) rfl rfl rfl rfl g56 e58) ?_;rintro _ _ ⟨t60, rfl, rfl⟩;show AI _ _ _ _ _ _ #[true, true, true, true, true, true, true, true, true, true, true, false, false, false] _;refine zk 11 rfl (am (av := slE _ _ _) rfl) ?_;show AI _ _ _ _ _ _ #[true, true, true, true, true, true, true, true, true, true, true, true, false, false] _;refine zk 12 rfl (am (av := slE _ _ _) rfl) ?_;show AI _ _ _ _ _ _ #[true, true, true, true, true, true, true, true, true, true, true, true, true, false] _;refine zk 13 rfl (am (av := slE _ _ _) rfl) ?_;show AI _ _ _ _ _ _ #[true, true, true, true, true, true, true, true, true, true, true, true, true, true] _;refine bN rfl ?_
        exact Exists.intro (n15, x53, t59, x57, t60, x49) ⟨H, Nat.lt_succ_self _, aU [2, 2] (.cons (.refl _) (.cons (.refl _) (.cons (.refl _) (.cons (.refl _) (.cons (.refl _) (.nil _)))))) rfl⟩
      ·refine be rfl (bh (E := (Enc.sl Enc.byte)) (bytes := 24) (xs := [.tmp 55]) (l := ([x44] : List (List UInt8))) aC (by kernel_rfl) rfl rfl (by decide) rfl rfl) ?_;show AI _ _ _ _ _ _ #[true, true, false, false, true, true, true, false, true, true, true, false, false, false] _;refine bf (i := 2) (by kernel_rfl) rfl rfl <| be rfl (bh (E := Enc.str) (bytes := 16) (xs := [.tmp 51]) (l := ([x43] : List (List UInt8))) aA (by kernel_rfl) rfl rfl (by decide) rfl rfl) ?_;show AI _ _ _ _ _ _ #[true, true, true, false, true, true, true, false, true, true, true, false, false, false] _;refine bf (i := 3) (by kernel_rfl) rfl rfl <| bS rfl (bA (E := Enc.str) (bytes := 16) 2 aA aA rfl (by kernel_rfl) rfl rfl rfl rfl g52 e54) ?_;rintro _ _ ⟨t61, rfl, rfl⟩;show AI _ _ _ _ _ _ #[true, true, true, true, true, true, true, false, true, true, true, false, false, false] _;refine bf (i := 7) (by kernel_rfl) rfl rfl <| bS rfl (bA (E := (Enc.sl Enc.byte)) (bytes := 24) 3 aC aC rfl (by kernel_rfl) rfl rfl rfl rfl g56 e58) ?_;rintro _ _ ⟨t62, rfl, rfl⟩;show AI _ _ _ _ _ _ #[true, true, true, true, true, true, true, true, true, true, true, false, false, false] _;refine zk 11 rfl (am (av := slE _ _ _) rfl) ?_;show AI _ _ _ _ _ _ #[true, true, true, true, true, true, true, true, true, true, true, true, false, false] _;refine zk 12 rfl (am (av := slE _ _ _) rfl) ?_
       show AI _ _ _ _ _ _ #[true, true, true, true, true, true, true, true, true, true, true, true, true, false] _;refine zk 13 rfl (am (av := slE _ _ _) rfl) ?_;show AI _ _ _ _ _ _ #[true, true, true, true, true, true, true, true, true, true, true, true, true, true] _;refine bN rfl ?_;exact Exists.intro (n15, x53, t61, x57, t62, x49) ⟨H, Nat.lt_succ_self _, aU [2, 2] (.cons (.refl _) (.cons (.refl _) (.cons (.refl _) (.cons (.refl _) (.cons (.refl _) (.nil _)))))) rfl⟩
  ·replace H := ba c16 H;refine bz ?_;exact Exists.intro (y9, t10, y11, t12) ⟨H, aU [0, 0] (.cons (.refl _) (.cons (.refl _) (.cons (.refl _) (.cons (.refl _) (.nil _))))) rfl⟩
 rintro ⟨y63, t64, y65, t66⟩ H;replace H : dX F a1 a3 y63 y65 = some (r4, r5, r6) := H
 unfold dX at H
 refine af <| af ?_;obtain ⟨x68, x69, x70, e71, H⟩ := kj H;refine ab ?_;show AR _ _ _ _ _ [0, 1, 2, 3, 4, 5, 6, 7, 8, 9] _;refine zS rfl (ag (av := slE _ _ _) rfl) <| zS rfl (ag (av := slE _ _ _) rfl) <| ap rfl rfl (aW rfl vW rfl (oq F y63 (some t64) y65 (some t66) x68 x69 x70 e71) ?_);refine zS rfl (ag (av := .tup _) rfl) <| zS rfl (aI (av := slE _ _ _) rfl rfl) <| zS rfl (aI (av := .v _) rfl rfl) <| zS rfl (aI (av := .v _) rfl rfl) <| zS rfl (am (av := slE _ _ _) rfl) <| za rfl <| za rfl <| ai <| af ?_;obtain ⟨x74, e75, H⟩ := bb H;refine ab ?_;show AR _ _ _ _ _ [0, 1, 2, 3, 4, 5, 6, 7, 8, 9, 10, 11, 12] _;refine zm rfl <| zS rfl (dv rfl rfl) <| zm rfl <| aQ (l := [7, 8, 9, 10, 11, 12]) 74 (B ((!decide (x70 = 0)) || (!decide (x69 = a3)))) (fun K => ?_) ?_
 ·rcases ah (!decide (x70 = 0)) with h72 | h72
  ·refine zF h72 rfl <| zF h72 rfl <| zF h72 rfl <| zS rfl (ax (av := .v _) rfl h72 rfl) ?_;exact K _ 3 _ (an (dC h72)) rfl rfl
  ·refine zM h72 rfl <| zM h72 rfl <| zU h72 rfl (eb rfl rfl) <| zS rfl (ay (av := .v _) rfl h72 rfl) ?_;exact K _ 3 _ (an (dD h72)) rfl rfl
 refine zm rfl <| aQ (l := []) 80 (B (((!decide (x70 = 0)) || (!decide (x69 = a3))) || (!x74))) (fun K => ?_) ?_
 ·rcases ah ((!decide (x70 = 0)) || (!decide (x69 = a3))) with h73 | h73
  ·refine zF h73 rfl <| zF h73 rfl <| zF h73 rfl <| zF h73 rfl <| zS rfl (ax (av := .v _) rfl h73 rfl) ?_;exact K _ 4 _ (an (dC h73)) rfl rfl
  ·refine zU h73 rfl (ag (av := slE _ _ _) rfl) <| zU h73 rfl (ag (av := slE _ _ _) rfl) <| zT h73 rfl (aW rfl vx rfl (show ACalls _ _ _ [] (Ret (B x74) []) from by subst e75; exact mz x68 a1 none q2) ?_);refine zU h73 rfl (cx rfl) <| zS rfl (ay (av := .v _) rfl h73 rfl) ?_;exact K _ 4 _ (an (dD h73)) rfl rfl
 refine ai <| aD rfl (fun c76 => ?_) (fun c76 => ?_)
 ·replace H := aZ c76 H;refine af <| ab ?_;show AR _ _ _ _ _ [0, 1, 2] _;refine za rfl <| za rfl <| za rfl <| ai <| aP ?_;obtain ⟨rfl, rfl, rfl⟩ := gz H;exact And.intro rfl (Exists.intro _ (Exists.intro _ ⟨bp rfl (.nil _) (.nil _) (.refl _), aO [] rfl, rfl, rfl⟩))
 ·replace H := ba c76 H;refine aF <| af <| ab ?_;show AR _ _ _ _ _ [0, 1, 2, 3, 4] _;refine zS rfl (ag (av := slE _ _ _) rfl) <| zS rfl (ag (av := slE _ _ _) rfl) <| zS rfl (am (av := slE _ _ _) rfl) <| zS rfl (am (av := slE _ _ _) rfl) <| za rfl <| ai <| aP ?_;obtain ⟨rfl, rfl, rfl⟩ := gz H;exact And.intro rfl (Exists.intro _ (Exists.intro _ ⟨bp rfl (.tok _ _ _) (.tok _ _ _) (.refl _), aO [] rfl, rfl, rfl⟩))
end Go.Proofs.YtdaafnaokdigbaaGreatDoor
namespace Go.Pv
def ft : List UInt8 := [45, 45, 61, 95, 48, 13, 10, 67, 111, 110, 116, 101, 110, 116, 45, 84, 121, 112, 101, 58, 32, 116, 101, 120, 116, 47, 112, 108, 97, 105, 110, 13, 10, 67, 111, 110, 116, 101, 110, 116, 45, 84, 114, 97, 110, 115, 102, 101, 114, 45, 69, 110, 99, 111, 100, 105, 110, 103, 58, 32, 113, 117, 111, 116, 101, 100, 45, 112, 114, 105, 110, 116, 97, 98, 108, 101, 13, 10, 13, 10, 97, 13, 10, 45, 45, 61, 95, 48, 45, 45, 13, 10]
def kf (F : Nat) : Option Bool :=
nV (kE F ([([116, 101, 120, 116, 47, 112, 108, 97, 105, 110] : List UInt8)] : List (List UInt8)) ([([97] : List UInt8)] : List (List UInt8))) fun x3 x4 x5 =>
nV (jI F x3 ([61, 95, 48] : List UInt8)) fun x7 x8 x9 =>
cz ((((((decide (x5 = 0)) && (decide (x9 = 0))) && (decide (x4 = ([61, 95, 48] : List UInt8)))) && (decide (x3 = ft))) && (decide ((x7.length : Int) = 1))) && (decide ((x8.length : Int) = 1))) (bQ 0 x8.length) <|
lt (at_ x8 0) fun x18 =>
bndc (((((((decide (x5 = 0)) && (decide (x9 = 0))) && (decide (x4 = ([61, 95, 48] : List UInt8)))) && (decide (x3 = ft))) && (decide ((x7.length : Int) = 1))) && (decide ((x8.length : Int) = 1))) && (decide (x18 = ([97] : List UInt8)))) (gZ F []) fun x21 =>
some ((((((((decide (x5 = 0)) && (decide (x9 = 0))) && (decide (x4 = ([61, 95, 48] : List UInt8)))) && (decide (x3 = ft))) && (decide ((x7.length : Int) = 1))) && (decide ((x8.length : Int) = 1))) && (decide (x18 = ([97] : List UInt8)))) && (decide (x21 = ([61, 95, 48] : List UInt8))))
def hM : Option Bool :=
some true
def ib (a3 : List (List UInt8)) (a7 : List (List UInt8)) (rec26 : Int → Option Bool) (y25 : Int) : Option Bool :=
bif decide (y25 < (a3.length : Int)) then
  grd (bQ y25 a3.length) <|
  lt (at_ a3 y25) fun x30 =>
  grd (bQ y25 a7.length) <|
  lt (at_ a7 y25) fun x33 =>
  bif !decide (x30 = x33) then
    some false
  else
    grd (okI (y25 + 1)) <|
    rec26 (y25 + 1)
else
  hM
def hZ (a3 : List (List UInt8)) (a7 : List (List UInt8)) (n : Nat) : Int → Option Bool :=
  loop (fun rec x => ib a3 a7 rec x) n
def hH (F : Nat) (a3 : List (List UInt8)) (a7 : List (List UInt8)) : Option Bool :=
hZ a3 a7 F 0
def ia (F : Nat) (a1 : List (List UInt8)) (a3 : List (List UInt8)) (a5 : List (List UInt8)) (a7 : List (List UInt8)) (rec13 : Int → Option Bool) (y12 : Int) : Option Bool :=
bif decide (y12 < (a1.length : Int)) then
  grd (bQ y12 a1.length) <|
  lt (at_ a1 y12) fun x17 =>
  grd (bQ y12 a5.length) <|
  lt (at_ a5 y12) fun x20 =>
  bif !decide (x17 = x20) then
    some false
  else
    grd (okI (y12 + 1)) <|
    rec13 (y12 + 1)
else
  hH F a3 a7
def hU (F : Nat) (a1 : List (List UInt8)) (a3 : List (List UInt8)) (a5 : List (List UInt8)) (a7 : List (List UInt8)) (n : Nat) : Int → Option Bool :=
  loop (fun rec x => ia F a1 a3 a5 a7 rec x) n
def kO (F : Nat) (a1 : List (List UInt8)) (a3 : List (List UInt8)) (a5 : List (List UInt8)) (a7 : List (List UInt8)) : Option Bool :=
bif (!decide ((a1.length : Int) = (a5.length : Int))) || (!decide ((a3.length : Int) = (a7.length : Int))) then
  some false
else
  hU F a1 a3 a5 a7 F 0
end Go.Pv
