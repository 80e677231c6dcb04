/-
  Texts in one (only what PartSplits needs): PartLW, HeadRP, HeadRW, PartRP, PartRW, LPartSplitsP, LPartSplitsW, HdSp, HdA.
-/
import Derived.Test.YtdaafnaokdigbaaGreatDoorZPartSplits3
import Derived.Test.YtdaafnaokdigbaaGreatDoorShelf
import Derived.Test.YtdaafnaokdigbaaGreatDoorChecked
import Derived.Lib.SplitLaws
import Derived.Lib.IndexMore
set_option linter.unusedVariables false
set_option linter.unusedSimpArgs false
namespace Go.Proofs.YtdaafnaokdigbaaGreatDoor
open Go.RowKit Go.Av Go.Pv
theorem vV : ∀ (args : Array Value) (w : World), (callFunc 10 args).run Tryz.prog w = .ok (.enter 10 args) w := fun _ _ => by kernel_rfl
theorem vS : ∀ (args : Array Value) (w : World), (callFunc 12 args).run Tryz.prog w = .ok (.enter 12 args) w := fun _ _ => by kernel_rfl
theorem vQ : ∀ (args : Array Value) (w : World), (callFunc 14 args).run Tryz.prog w = .ok (.enter 14 args) w := fun _ _ => by kernel_rfl
set_option maxRecDepth 100000 in
set_option maxHeartbeats 1000000 in
theorem qt (F : Nat) (r1 : Bool) (H : kf F = some r1) : ACalls Tryz.prog 8 [] [] (Ret (B r1) []) := by
 unfold kf at H
 refine aw Tryz.func8 rfl rfl ?_;show AW _ _ 58 _ _ _;refine af <| ab ?_;show AR _ _ _ _ _ [0] _;refine za rfl <| ai <| af ?_;obtain ⟨x3, x4, x5, e6, H⟩ := kj H;refine ab ?_;show AR _ _ _ _ _ [0, 1, 2, 3, 4, 5, 6, 7, 8, 9, 10, 11] _;refine zR rfl (bh (E := Enc.str) (bytes := 16) (xs := [.const _]) (l := ([([116, 101, 120, 116, 47, 112, 108, 97, 105, 110] : List UInt8)] : List (List UInt8))) aA (by kernel_rfl) rfl rfl (by decide) rfl rfl) <| zX rfl (kM (E := Enc.byte) (bytes := 1) (xs := [.const _]) (l := ([97] : List UInt8)) aa (by kernel_rfl) rfl rfl (by decide) rfl rfl) ?_;rintro _ _ ⟨t2, rfl, rfl⟩;refine zR rfl (hC 0 aa au rfl (by simp) rfl) <| zR rfl (xN 10 (.tok _ _ _) <| bh (E := (Enc.sl Enc.byte)) (bytes := 24) (xs := [.tmp 10]) (l := ([([97] : List UInt8)] : List (List UInt8))) aC (by kernel_rfl) rfl rfl (by decide) rfl rfl) <| ap rfl rfl (aW rfl vV rfl (oq F ([([116, 101, 120, 116, 47, 112, 108, 97, 105, 110] : List UInt8)] : List (List UInt8)) none ([([97] : List UInt8)] : List (List UInt8)) none x3 x4 x5 e6) ?_);refine zS rfl (ag (av := .tup _) rfl) <| zS rfl (aI (av := slE _ _ _) rfl rfl) <| zS rfl (aI (av := .v _) rfl rfl) <| zS rfl (aI (av := .v _) rfl rfl) <| zS rfl (am (av := slE _ _ _) rfl) <| za rfl <| za rfl <| ai <| af ?_;obtain ⟨x7, x8, x9, e10, H⟩ := kj H;refine ab ?_
 show AR _ _ _ _ _ [0, 1, 2, 3, 4, 5, 6, 7, 8] _;refine zS rfl (ag (av := slE _ _ _) rfl) <| ap rfl rfl (aW rfl vQ rfl (nv F x3 none ([61, 95, 48] : List UInt8) x7 x8 x9 e10) ?_);refine zS rfl (ag (av := .tup _) rfl) <| zS rfl (aI (av := slE _ _ _) rfl rfl) <| zS rfl (aI (av := slE _ _ _) rfl rfl) <| zS rfl (aI (av := .v _) rfl rfl) <| zS rfl (am (av := slE _ _ _) rfl) <| zS rfl (am (av := slE _ _ _) rfl) <| za rfl <| ai <| af ?_;obtain ⟨g17, H⟩ := cb H;obtain ⟨x18, e19, H⟩ := bb H;obtain ⟨x21, e22, H⟩ := qf H;refine ab ?_;show AR _ _ _ _ _ [0, 1, 2, 3, 4, 5, 6, 7, 8, 9, 10, 11, 12, 13, 14, 15, 16, 17, 18, 19, 20, 21, 22, 23, 24, 25, 26, 27, 28, 29, 30, 31, 32, 33, 34, 35, 36] _;refine zm rfl <| zS rfl (dm rfl rfl) <| zm rfl <| aQ (l := [6, 7, 8, 9, 10, 11, 12, 13, 14, 15, 16, 17, 18, 19, 20, 21, 22, 23, 24, 25, 26, 27, 28, 29, 30, 31, 32, 33, 34, 35, 36]) 27 (B ((decide (x5 = 0)) && (decide (x9 = 0)))) (fun K => ?_) ?_
 ·rcases ah (decide (x5 = 0)) with h11 | h11
  ·refine zM h11 rfl <| zU h11 rfl (dm rfl rfl) <| zS rfl (ax (av := .v _) rfl h11 rfl) ?_;exact K _ 2 _ (an (cc h11)) rfl rfl
  ·refine zF h11 rfl <| zF h11 rfl <| zS rfl (ay (av := .v _) rfl h11 rfl) ?_;exact K _ 2 _ (an (cd h11)) rfl rfl
 refine zm rfl <| aQ (l := [10, 11, 12, 13, 14, 15, 16, 17, 18, 19, 20, 21, 22, 23, 24, 25, 26, 27, 28, 29, 30, 31, 32, 33, 34, 35, 36]) 31 (B (((decide (x5 = 0)) && (decide (x9 = 0))) && (decide (x4 = ([61, 95, 48] : List UInt8))))) (fun K => ?_) ?_
 ·rcases ah ((decide (x5 = 0)) && (decide (x9 = 0))) with h12 | h12
  ·refine zM h12 rfl <| zU h12 rfl (lr rfl rfl) <| zS rfl (ax (av := .v _) rfl h12 rfl) ?_;exact K _ 2 _ (an (cc h12)) rfl rfl
  ·refine zF h12 rfl <| zF h12 rfl <| zS rfl (ay (av := .v _) rfl h12 rfl) ?_;exact K _ 2 _ (an (cd h12)) rfl rfl
 refine zm rfl <| aQ (l := [15, 16, 17, 18, 19, 20, 21, 22, 23, 24, 25, 26, 27, 28, 29, 30, 31, 32, 33, 34, 35, 36]) 36 (B ((((decide (x5 = 0)) && (decide (x9 = 0))) && (decide (x4 = ([61, 95, 48] : List UInt8)))) && (decide (x3 = ft)))) (fun K => ?_) ?_
 ·rcases ah (((decide (x5 = 0)) && (decide (x9 = 0))) && (decide (x4 = ([61, 95, 48] : List UInt8)))) with h13 | h13
  ·refine zU h13 rfl (ag (av := slE _ _ _) rfl) <| zU h13 rfl (bn aa au ac rfl) <| zU h13 rfl (lr rfl rfl) <| zS rfl (ax (av := .v _) rfl h13 rfl) ?_;exact K _ 3 _ (an (cc h13)) rfl rfl
  ·refine zF h13 rfl <| zF h13 rfl <| zF h13 rfl <| zS rfl (ay (av := .v _) rfl h13 rfl) ?_;exact K _ 3 _ (an (cd h13)) rfl rfl
 refine zm rfl <| aQ (l := [20, 21, 22, 23, 24, 25, 26, 27, 28, 29, 30, 31, 32, 33, 34, 35, 36]) 41 (B (((((decide (x5 = 0)) && (decide (x9 = 0))) && (decide (x4 = ([61, 95, 48] : List UInt8)))) && (decide (x3 = ft))) && (decide ((x7.length : Int) = 1)))) (fun K => ?_) ?_
 ·rcases ah ((((decide (x5 = 0)) && (decide (x9 = 0))) && (decide (x4 = ([61, 95, 48] : List UInt8)))) && (decide (x3 = ft))) with h14 | h14
  ·refine zU h14 rfl (ag (av := slE _ _ _) rfl) <| zU h14 rfl (aH aA rfl) <| zU h14 rfl (dm rfl rfl) <| zS rfl (ax (av := .v _) rfl h14 rfl) ?_;exact K _ 3 _ (an (cc h14)) rfl rfl
  ·refine zF h14 rfl <| zF h14 rfl <| zF h14 rfl <| zS rfl (ay (av := .v _) rfl h14 rfl) ?_;exact K _ 3 _ (an (cd h14)) rfl rfl
 refine zm rfl <| aQ (l := [25, 26, 27, 28, 29, 30, 31, 32, 33, 34, 35, 36]) 46 (B ((((((decide (x5 = 0)) && (decide (x9 = 0))) && (decide (x4 = ([61, 95, 48] : List UInt8)))) && (decide (x3 = ft))) && (decide ((x7.length : Int) = 1))) && (decide ((x8.length : Int) = 1)))) (fun K => ?_) ?_
 ·rcases ah (((((decide (x5 = 0)) && (decide (x9 = 0))) && (decide (x4 = ([61, 95, 48] : List UInt8)))) && (decide (x3 = ft))) && (decide ((x7.length : Int) = 1))) with h15 | h15
  ·refine zU h15 rfl (ag (av := slE _ _ _) rfl) <| zU h15 rfl (aH aC rfl) <| zU h15 rfl (dm rfl rfl) <| zS rfl (ax (av := .v _) rfl h15 rfl) ?_;exact K _ 3 _ (an (cc h15)) rfl rfl
  ·refine zF h15 rfl <| zF h15 rfl <| zF h15 rfl <| zS rfl (ay (av := .v _) rfl h15 rfl) ?_;exact K _ 3 _ (an (cd h15)) rfl rfl
 refine zm rfl <| aQ (l := [32, 33, 34, 35, 36]) 53 (B (((((((decide (x5 = 0)) && (decide (x9 = 0))) && (decide (x4 = ([61, 95, 48] : List UInt8)))) && (decide (x3 = ft))) && (decide ((x7.length : Int) = 1))) && (decide ((x8.length : Int) = 1))) && (decide (x18 = ([97] : List UInt8))))) (fun K => ?_) ?_
 ·rcases ah ((((((decide (x5 = 0)) && (decide (x9 = 0))) && (decide (x4 = ([61, 95, 48] : List UInt8)))) && (decide (x3 = ft))) && (decide ((x7.length : Int) = 1))) && (decide ((x8.length : Int) = 1))) with h16 | h16
  ·refine zU h16 rfl (ag (av := slE _ _ _) rfl) <| zU h16 rfl (aY (E := (Enc.sl Enc.byte)) aC (by kernel_rfl) rfl rfl (g17 h16) e19) <| zU h16 rfl (aL aa rfl rfl) <| zU h16 rfl (bn aa au ac rfl) <| zU h16 rfl (lr rfl rfl) <| zS rfl (ax (av := .v _) rfl h16 rfl) ?_;exact K _ 5 _ (an (cc h16)) rfl rfl
  ·refine zF h16 rfl <| zF h16 rfl <| zF h16 rfl <| zF h16 rfl <| zF h16 rfl <| zS rfl (ay (av := .v _) rfl h16 rfl) ?_;exact K _ 5 _ (an (cd h16)) rfl rfl
 refine zm rfl <| aQ (l := [36]) 57 (B ((((((((decide (x5 = 0)) && (decide (x9 = 0))) && (decide (x4 = ([61, 95, 48] : List UInt8)))) && (decide (x3 = ft))) && (decide ((x7.length : Int) = 1))) && (decide ((x8.length : Int) = 1))) && (decide (x18 = ([97] : List UInt8)))) && (decide (x21 = ([61, 95, 48] : List UInt8))))) (fun K => ?_) ?_
 ·rcases ah (((((((decide (x5 = 0)) && (decide (x9 = 0))) && (decide (x4 = ([61, 95, 48] : List UInt8)))) && (decide (x3 = ft))) && (decide ((x7.length : Int) = 1))) && (decide ((x8.length : Int) = 1))) && (decide (x18 = ([97] : List UInt8)))) with h20 | h20
  ·refine zT h20 rfl (aW rfl vS rfl (rR (.cons (.nil _) (.nil)) (mb F [] none x21 (e22 h20))) ?_);refine zU h20 rfl (lr rfl rfl) <| zS rfl (ax (av := .v _) rfl h20 rfl) ?_;exact K _ 2 _ (an (cc h20)) rfl rfl
  ·refine zF h20 rfl <| zF h20 rfl <| zS rfl (ay (av := .v _) rfl h20 rfl) ?_;exact K _ 2 _ (an (cd h20)) rfl rfl
 refine za rfl <| ai <| aP ?_;obtain rfl := ak H;exact And.intro rfl (Exists.intro _ (Exists.intro _ ⟨aV rfl (.refl _), aO [] rfl, rfl, rfl⟩))
set_option maxRecDepth 100000 in
set_option maxHeartbeats 1000000 in
theorem rr (F : Nat) (a1 : List (List UInt8)) (q2 : Option Nat) (a3 : List (List UInt8)) (q4 : Option Nat) (a5 : List (List UInt8)) (q6 : Option Nat) (a7 : List (List UInt8)) (q8 : Option Nat) (r9 : Bool) (H : kO F a1 a3 a5 a7 = some r9) : ACalls Tryz.prog 16 [slE Enc.str a1 q2, slE (Enc.sl Enc.byte) a3 q4, slE Enc.str a5 q6, slE (Enc.sl Enc.byte) a7 q8] [] (Ret (B r9) []) := by
 unfold kO at H
 refine aw Tryz.func16 rfl rfl ?_;show AW _ _ 55 _ _ _;refine af <| ab ?_;show AR _ _ _ _ _ [0] _;refine za rfl <| ai <| af <| af <| ab ?_;show AR _ _ _ _ _ [0, 1, 2, 3, 4, 5, 6, 7, 8, 9, 10, 11] _;refine zS rfl (ag (av := slE _ _ _) rfl) <| zS rfl (aH aA rfl) <| zS rfl (ag (av := slE _ _ _) rfl) <| zS rfl (aH aA rfl) <| zS rfl (dv rfl rfl) <| zm rfl <| aQ (l := []) 22 (B ((!decide ((a1.length : Int) = (a5.length : Int))) || (!decide ((a3.length : Int) = (a7.length : Int))))) (fun K => ?_) ?_
 ·rcases ah (!decide ((a1.length : Int) = (a5.length : Int))) with h10 | h10
  ·refine zF h10 rfl <| zF h10 rfl <| zF h10 rfl <| zF h10 rfl <| zF h10 rfl <| zS rfl (ax (av := .v _) rfl h10 rfl) ?_;exact K _ 5 _ (an (dC h10)) rfl rfl
  ·refine zU h10 rfl (ag (av := slE _ _ _) rfl) <| zU h10 rfl (aH aC rfl) <| zU h10 rfl (ag (av := slE _ _ _) rfl) <| zU h10 rfl (aH aC rfl) <| zU h10 rfl (dv rfl rfl) <| zS rfl (ay (av := .v _) rfl h10 rfl) ?_;exact K _ 5 _ (an (dD h10)) rfl rfl
 refine ai <| aD rfl (fun c11 => ?_) (fun c11 => ?_)
 ·replace H := aZ c11 H;refine af <| ab ?_;show AR _ _ _ _ _ [0] _;refine za rfl <| ai <| aP ?_;obtain rfl := ak H;exact And.intro rfl (Exists.intro _ (Exists.intro _ ⟨aV rfl (.refl _), aO [] rfl, rfl, rfl⟩))
 ·replace H := ba c11 H;refine aF <| bx (X := Unit) (fun _ => ⟨[(1, slE (Enc.sl Enc.byte) a3 q4), (3, slE (Enc.sl Enc.byte) a7 q8)], [], []⟩) (fun _ => hH F a3 a7 = some r9) ?_ ?_
  ·refine af <| ab ?_;show AR _ _ _ _ _ [0] _;refine za rfl <| ai <| aJ <| bE (X := Nat × Int) (fun (n14, y12) => ⟨[(0, slE Enc.str a1 q2), (1, slE (Enc.sl Enc.byte) a3 q4), (2, slE Enc.str a5 q6), (3, slE (Enc.sl Enc.byte) a7 q8), (9, i64 y12)], [], []⟩) (fun (n14, y12) => hU F a1 a3 a5 a7 n14 y12 = some r9) (fun (n14, y12) => n14) (F, 0) H (aU [] (.cons (.refl _) (.cons (.refl _) (.cons (.refl _) (.cons (.refl _) (.cons (.refl _) (.nil _)))))) rfl) ?_;rintro ⟨n14, y12⟩ H;obtain ⟨n14, rfl, H⟩ := bX H;replace H : ia F a1 a3 a5 a7 (hU F a1 a3 a5 a7 n14) y12 = some r9 := H
   unfold ia at H
   refine af <| af <| ab ?_;show AR _ _ _ _ _ [0, 1, 2, 3] _;refine zm rfl <| zS rfl (ag (av := slE _ _ _) rfl) <| zS rfl (aH aA rfl) <| zS rfl (bB rfl rfl) <| ai <| aD rfl (fun c15 => ?_) (fun c15 => ?_)
   ·replace H := aZ c15 H;refine aF <| af <| aJ <| af ?_;obtain ⟨g16, H⟩ := az H;obtain ⟨x17, e18, H⟩ := bb H;obtain ⟨g19, H⟩ := az H;obtain ⟨x20, e21, H⟩ := bb H;refine bW (by kernel_rfl) ?_;show AI _ _ _ _ _ 9 (Array.replicate 9 false) _;refine zk 0 rfl (ag (av := slE _ _ _) rfl) ?_;show AI _ _ _ _ _ _ #[true, false, false, false, false, false, false, false, false] _;refine zk 1 rfl (mv rfl) ?_;show AI _ _ _ _ _ _ #[true, true, false, false, false, false, false, false, false] _;refine zk 2 rfl (aY (E := Enc.str) aA (by kernel_rfl) rfl rfl g16 e18) ?_;show AI _ _ _ _ _ _ #[true, true, true, false, false, false, false, false, false] _;refine zk 3 rfl (aL ac rfl rfl) ?_;show AI _ _ _ _ _ _ #[true, true, true, true, false, false, false, false, false] _;refine zk 4 rfl (ag (av := slE _ _ _) rfl) ?_;show AI _ _ _ _ _ _ #[true, true, true, true, true, false, false, false, false] _;refine zk 5 rfl (mv rfl) ?_;show AI _ _ _ _ _ _ #[true, true, true, true, true, true, false, false, false] _;refine zk 6 rfl (aY (E := Enc.str) aA (by kernel_rfl) rfl rfl g19 e21) ?_;show AI _ _ _ _ _ _ #[true, true, true, true, true, true, true, false, false] _;refine zk 7 rfl (aL ac rfl rfl) ?_;show AI _ _ _ _ _ _ #[true, true, true, true, true, true, true, true, false] _;refine zk 8 rfl (eb rfl rfl) ?_;show AI _ _ _ _ _ _ #[true, true, true, true, true, true, true, true, true] _;refine bN rfl <| aD rfl (fun c22 => ?_) (fun c22 => ?_)
    ·replace H := aZ c22 H;refine af <| ab ?_;show AR _ _ _ _ _ [0] _;refine za rfl <| ai <| aP ?_;obtain rfl := ak H;exact And.intro rfl (Exists.intro _ (Exists.intro _ ⟨aV rfl (.refl _), aO [] rfl, rfl, rfl⟩))
    ·replace H := ba c22 H;refine aF ?_;obtain ⟨g23, H⟩ := az H;refine ab ?_;show AR _ _ _ _ _ [0, 1, 2] _;refine zm rfl <| zS rfl (bk rfl rfl g23) <| za rfl <| ai ?_;exact Exists.intro (n14, y12 + 1) ⟨H, Nat.lt_succ_self _, aU [] (.cons (.refl _) (.cons (.refl _) (.cons (.refl _) (.cons (.refl _) (.cons (.refl _) (.nil _)))))) rfl⟩
   ·replace H := ba c15 H;refine bz ?_;exact Exists.intro () ⟨H, aU [] (.cons (.refl _) (.cons (.refl _) (.nil _))) rfl⟩
  rintro _ H;replace H : hH F a3 a7 = some r9 := H
  unfold hH at H
  refine bx (X := Unit) (fun _ => ⟨[], [], []⟩) (fun _ => hM = some r9) ?_ ?_
  ·refine af <| ab ?_;show AR _ _ _ _ _ [0] _;refine za rfl <| ai <| aJ <| bE (X := Nat × Int) (fun (n27, y25) => ⟨[(1, slE (Enc.sl Enc.byte) a3 q4), (3, slE (Enc.sl Enc.byte) a7 q8), (10, i64 y25)], [], []⟩) (fun (n27, y25) => hZ a3 a7 n27 y25 = some r9) (fun (n27, y25) => n27) (F, 0) H (aU [] (.cons (.refl _) (.cons (.refl _) (.cons (.refl _) (.nil _)))) rfl) ?_;rintro ⟨n27, y25⟩ H;obtain ⟨n27, rfl, H⟩ := bX H;replace H : ib a3 a7 (hZ a3 a7 n27) y25 = some r9 := H
   unfold ib at H
   refine af <| af <| ab ?_;show AR _ _ _ _ _ [0, 1, 2, 3] _;refine zm rfl <| zS rfl (ag (av := slE _ _ _) rfl) <| zS rfl (aH aC rfl) <| zS rfl (bB rfl rfl) <| ai <| aD rfl (fun c28 => ?_) (fun c28 => ?_)
   ·replace H := aZ c28 H;refine aF <| af <| aJ <| af ?_;obtain ⟨g29, H⟩ := az H;obtain ⟨x30, e31, H⟩ := bb H;obtain ⟨g32, H⟩ := az H;obtain ⟨x33, e34, H⟩ := bb H;refine bW (by kernel_rfl) ?_;show AI _ _ _ _ _ 11 (Array.replicate 11 false) _;refine zk 0 rfl (ag (av := slE _ _ _) rfl) ?_;show AI _ _ _ _ _ _ #[true, false, false, false, false, false, false, false, false, false, false] _;refine zk 1 rfl (mv rfl) ?_;show AI _ _ _ _ _ _ #[true, true, false, false, false, false, false, false, false, false, false] _;refine zk 2 rfl (aY (E := (Enc.sl Enc.byte)) aC (by kernel_rfl) rfl rfl g29 e31) ?_;show AI _ _ _ _ _ _ #[true, true, true, false, false, false, false, false, false, false, false] _;refine zk 3 rfl (aL aa rfl rfl) ?_;show AI _ _ _ _ _ _ #[true, true, true, true, false, false, false, false, false, false, false] _;refine zk 4 rfl (bn aa au ac rfl) ?_;show AI _ _ _ _ _ _ #[true, true, true, true, true, false, false, false, false, false, false] _;refine zk 5 rfl (ag (av := slE _ _ _) rfl) ?_;show AI _ _ _ _ _ _ #[true, true, true, true, true, true, false, false, false, false, false] _;refine zk 6 rfl (mv rfl) ?_;show AI _ _ _ _ _ _ #[true, true, true, true, true, true, true, false, false, false, false] _;refine zk 7 rfl (aY (E := (Enc.sl Enc.byte)) aC (by kernel_rfl) rfl rfl g32 e34) ?_;show AI _ _ _ _ _ _ #[true, true, true, true, true, true, true, true, false, false, false] _
    refine zk 8 rfl (aL aa rfl rfl) ?_;show AI _ _ _ _ _ _ #[true, true, true, true, true, true, true, true, true, false, false] _;refine zk 9 rfl (bn aa au ac rfl) ?_;show AI _ _ _ _ _ _ #[true, true, true, true, true, true, true, true, true, true, false] _;refine zk 10 rfl (eb rfl rfl) ?_;show AI _ _ _ _ _ _ #[true, true, true, true, true, true, true, true, true, true, true] _;refine bN rfl <| aD rfl (fun c35 => ?_) (fun c35 => ?_)
    ·replace H := aZ c35 H;refine af <| ab ?_;show AR _ _ _ _ _ [0] _;refine za rfl <| ai <| aP ?_;obtain rfl := ak H;exact And.intro rfl (Exists.intro _ (Exists.intro _ ⟨aV rfl (.refl _), aO [] rfl, rfl, rfl⟩))
    ·replace H := ba c35 H;refine aF ?_;obtain ⟨g36, H⟩ := az H;refine ab ?_;show AR _ _ _ _ _ [0, 1, 2] _;refine zm rfl <| zS rfl (bk rfl rfl g36) <| za rfl <| ai ?_;exact Exists.intro (n27, y25 + 1) ⟨H, Nat.lt_succ_self _, aU [] (.cons (.refl _) (.cons (.refl _) (.cons (.refl _) (.nil _)))) rfl⟩
   ·replace H := ba c28 H;refine bz ?_;exact Exists.intro () ⟨H, aU [] (.nil _) rfl⟩
  rintro _ H;replace H : hM = some r9 := H
  unfold hM at H
  refine af <| ab ?_;show AR _ _ _ _ _ [0] _;refine za rfl <| ai <| aP ?_;obtain rfl := ak H;exact And.intro rfl (Exists.intro _ (Exists.intro _ ⟨aV rfl (.refl _), aO [] rfl, rfl, rfl⟩))
end Go.Proofs.YtdaafnaokdigbaaGreatDoor
namespace Go.Pv
def headr_k1 : List UInt8 := [65, 66, 67, 68, 69, 70, 71, 72, 73, 74, 75, 76, 77, 78, 79, 80, 81, 82, 83, 84, 85, 86, 87, 88, 89, 90, 97, 98, 99, 100, 101, 102, 103, 104, 105, 106, 107, 108, 109, 110, 111, 112, 113, 114, 115, 116, 117, 118, 119, 120, 121, 122, 48, 49, 50, 51, 52, 53, 54, 55, 56, 57, 43, 47]
def fL (y30 : List (List UInt8)) : Option ((List (List UInt8))) :=
some y30
def eu (y8 : Int) (rec9 : ((List (List UInt8)) × Int × Int) → Option ((List (List UInt8)))) (y25 : List (List UInt8)) (y27 : Int) : Option ((List (List UInt8))) :=
grd (okI (y8 + 1)) <|
rec9 (y25, y27, y8 + 1)
def dH (a1 : List UInt8) (a2 : UInt8) (rec9 : ((List (List UInt8)) × Int × Int) → Option ((List (List UInt8)))) (y5 : List (List UInt8)) (y7 : Int) (y8 : Int) : Option ((List (List UInt8))) :=
bif decide (y8 ≤ (a1.length : Int)) then
  cz (!(decide (y8 = (a1.length : Int)))) (bQ y8 a1.length) <|
  lt (at_ a1 y8) fun x14 =>
  bif (decide (y8 = (a1.length : Int))) || (decide (x14 = a2)) then
    grd (kl y7 y8 a1.length) <|
    lt (sub a1 y7 y8) fun x18 =>
    grd (bw (y5.length + ([x18] : List (List UInt8)).length)) <|
    lt (y5 ++ ([x18] : List (List UInt8))) fun x22 =>
    grd (okI (y8 + 1)) <|
    eu y8 rec9 x22 (y8 + 1)
  else
    eu y8 rec9 y5 y7
else
  fL y5
def cU (a1 : List UInt8) (a2 : UInt8) (n : Nat) : ((List (List UInt8)) × Int × Int) → Option ((List (List UInt8))) :=
  loop (fun rec x => dH a1 a2 rec x.1 x.2.1 x.2.2) n
def kb (F : Nat) (a1 : List UInt8) (a2 : UInt8) : Option ((List (List UInt8))) :=
cU a1 a2 F ([], 0, 0)
def eR : Option Int :=
some 0
def eT (a1 : UInt8) (rec4 : Int → Option Int) (y3 : Int) : Option Int :=
bif decide (y3 < 64) then
  grd (bQ y3 headr_k1.length) <|
  lt (at_ headr_k1 y3) fun x8 =>
  bif decide (x8 = a1) then
    some y3
  else
    grd (okI (y3 + 1)) <|
    rec4 (y3 + 1)
else
  eR
def eS (a1 : UInt8) (n : Nat) : Int → Option Int :=
  loop (fun rec x => eT a1 rec x) n
def kq (F : Nat) (a1 : UInt8) : Option Int :=
eS a1 F 0
def jc (y77 : List UInt8) : Option ((List UInt8)) :=
some y77
def gj (y7 : Int) (rec8 : ((List UInt8) × Int) → Option ((List UInt8))) (y73 : List UInt8) : Option ((List UInt8)) :=
grd (okI (y7 + 3)) <|
rec8 (y73, y7 + 3)
def gi (a1 : List UInt8) (y7 : Int) (y26 : Int) (rec8 : ((List UInt8) × Int) → Option ((List UInt8))) (y56 : List UInt8) : Option ((List UInt8)) :=
grd (okI (y7 + 2)) <|
bif decide (y7 + 2 < (a1.length : Int)) then
  grd (fv y26 64) <|
  grd (bQ (y26 % 64) headr_k1.length) <|
  lt (at_ headr_k1 (y26 % 64)) fun x63 =>
  grd (bw (y56.length + ([x63] : List UInt8).length)) <|
  lt (y56 ++ ([x63] : List UInt8)) fun x67 =>
  gj y7 rec8 x67
else
  grd (bw (y56.length + ([61] : List UInt8).length)) <|
  lt (y56 ++ ([61] : List UInt8)) fun x71 =>
  gj y7 rec8 x71
def gh (a1 : List UInt8) (y5 : List UInt8) (y7 : Int) (rec8 : ((List UInt8) × Int) → Option ((List UInt8))) (y26 : Int) : Option ((List UInt8)) :=
grd (fv y26 262144) <|
grd (bQ (y26 / 262144) headr_k1.length) <|
lt (at_ headr_k1 (y26 / 262144)) fun x30 =>
grd (fv y26 4096) <|
grd (fv (y26 / 4096) 64) <|
grd (bQ ((y26 / 4096) % 64) headr_k1.length) <|
lt (at_ headr_k1 ((y26 / 4096) % 64)) fun x35 =>
grd (bw (y5.length + ([x30, x35] : List UInt8).length)) <|
lt (y5 ++ ([x30, x35] : List UInt8)) fun x39 =>
grd (okI (y7 + 1)) <|
bif decide (y7 + 1 < (a1.length : Int)) then
  grd (fv y26 64) <|
  grd (fv (y26 / 64) 64) <|
  grd (bQ ((y26 / 64) % 64) headr_k1.length) <|
  lt (at_ headr_k1 ((y26 / 64) % 64)) fun x46 =>
  grd (bw (x39.length + ([x46] : List UInt8).length)) <|
  lt (x39 ++ ([x46] : List UInt8)) fun x50 =>
  gi a1 y7 y26 rec8 x50
else
  grd (bw (x39.length + ([61] : List UInt8).length)) <|
  lt (x39 ++ ([61] : List UInt8)) fun x54 =>
  gi a1 y7 y26 rec8 x54
def gg (y12 : Int) (rec13 : (Int × Int) → Option ((List UInt8))) (y23 : Int) : Option ((List UInt8)) :=
grd (okI (y12 + 1)) <|
rec13 (y23, y12 + 1)
def eL (a1 : List UInt8) (y5 : List UInt8) (y7 : Int) (rec8 : ((List UInt8) × Int) → Option ((List UInt8))) (rec13 : (Int × Int) → Option ((List UInt8))) (y11 : Int) (y12 : Int) : Option ((List UInt8)) :=
grd (okI (y7 + 3)) <|
bif decide (y12 < y7 + 3) then
  grd (okI (256 * y11)) <|
  bif decide (y12 < (a1.length : Int)) then
    grd (bQ y12 a1.length) <|
    lt (at_ a1 y12) fun x20 =>
    grd (okI ((256 * y11) + (x20.toNat : Int))) <|
    gg y12 rec13 ((256 * y11) + (x20.toNat : Int))
  else
    gg y12 rec13 (256 * y11)
else
  gh a1 y5 y7 rec8 y11
def cM (a1 : List UInt8) (y5 : List UInt8) (y7 : Int) (rec8 : ((List UInt8) × Int) → Option ((List UInt8))) (n : Nat) : (Int × Int) → Option ((List UInt8)) :=
  loop (fun rec x => eL a1 y5 y7 rec8 rec x.1 x.2) n
def jd (F : Nat) (a1 : List UInt8) (rec8 : ((List UInt8) × Int) → Option ((List UInt8))) (y5 : List UInt8) (y7 : Int) : Option ((List UInt8)) :=
bif decide (y7 < (a1.length : Int)) then
  cM a1 y5 y7 rec8 F (0, y7)
else
  jc y5
def cf (F : Nat) (a1 : List UInt8) (n : Nat) : ((List UInt8) × Int) → Option ((List UInt8)) :=
  loop (fun rec x => jd F a1 rec x.1 x.2) n
def lD (F : Nat) (a1 : List UInt8) : Option ((List UInt8)) :=
cf F a1 F ([], 0)
def er (F : Nat) (a1 : List UInt8) (y66 : List UInt8) : Option ((List UInt8) × Int) :=
bnd (lD F y66) fun x69 =>
bif !decide (x69 = a1) then
  some ([], 2)
else
  some (y66, 0)
def eo (y46 : Int) (rec47 : ((List UInt8) × Int) → Option ((List UInt8) × Int)) (y62 : List UInt8) : Option ((List UInt8) × Int) :=
grd (okI (y46 + 1)) <|
rec47 (y62, y46 + 1)
def dG (F : Nat) (a1 : List UInt8) (rec47 : ((List UInt8) × Int) → Option ((List UInt8) × Int)) (y44 : List UInt8) (y46 : Int) : Option ((List UInt8) × Int) :=
bif decide (y46 ≤ 2) then
  cz (decide (y46 ≤ (a1.length : Int))) (okI ((a1.length : Int) - y46)) <|
  cz (decide (y46 ≤ (a1.length : Int))) (bQ ((a1.length : Int) - y46) a1.length) <|
  lt (at_ a1 ((a1.length : Int) - y46)) fun x53 =>
  bif (decide (y46 ≤ (a1.length : Int))) && (decide (x53 = 61)) then
    grd (okI ((y44.length : Int) - 1)) <|
    grd (gA ((y44.length : Int) - 1) y44.length) <|
    lt (to_ y44 ((y44.length : Int) - 1)) fun x58 =>
    grd (bw x58.length) <|
    eo y46 rec47 x58
  else
    eo y46 rec47 y44
else
  er F a1 y44
def cH (F : Nat) (a1 : List UInt8) (n : Nat) : ((List UInt8) × Int) → Option ((List UInt8) × Int) :=
  loop (fun rec x => dG F a1 rec x.1 x.2) n
def em (F : Nat) (a1 : List UInt8) (y41 : List UInt8) : Option ((List UInt8) × Int) :=
cH F a1 F (y41, 1)
def fJ (y9 : Int) (rec10 : ((List UInt8) × Int) → Option ((List UInt8) × Int)) (y37 : List UInt8) : Option ((List UInt8) × Int) :=
grd (okI (y9 + 4)) <|
rec10 (y37, y9 + 4)
def fI (y7 : List UInt8) (y9 : Int) (rec10 : ((List UInt8) × Int) → Option ((List UInt8) × Int)) (y27 : Int) : Option ((List UInt8) × Int) :=
grd (fv y27 65536) <|
grd (fv y27 256) <|
grd (fv (y27 / 256) 256) <|
grd (fv y27 256) <|
grd (bw (y7.length + ([Go.Av.toB (y27 / 65536), Go.Av.toB ((y27 / 256) % 256), Go.Av.toB (y27 % 256)] : List UInt8).length)) <|
lt (y7 ++ ([Go.Av.toB (y27 / 65536), Go.Av.toB ((y27 / 256) % 256), Go.Av.toB (y27 % 256)] : List UInt8)) fun x35 =>
fJ y9 rec10 x35
def dF (F : Nat) (a1 : List UInt8) (y7 : List UInt8) (y9 : Int) (rec10 : ((List UInt8) × Int) → Option ((List UInt8) × Int)) (rec15 : (Int × Int) → Option ((List UInt8) × Int)) (y13 : Int) (y14 : Int) : Option ((List UInt8) × Int) :=
grd (okI (y9 + 4)) <|
bif decide (y14 < y9 + 4) then
  grd (okI (64 * y13)) <|
  grd (bQ y14 a1.length) <|
  lt (at_ a1 y14) fun x21 =>
  bnd (kq F x21) fun x23 =>
  grd (okI ((64 * y13) + x23)) <|
  grd (okI (y14 + 1)) <|
  rec15 ((64 * y13) + x23, y14 + 1)
else
  fI y7 y9 rec10 y13
def cG (F : Nat) (a1 : List UInt8) (y7 : List UInt8) (y9 : Int) (rec10 : ((List UInt8) × Int) → Option ((List UInt8) × Int)) (n : Nat) : (Int × Int) → Option ((List UInt8) × Int) :=
  loop (fun rec x => dF F a1 y7 y9 rec10 rec x.1 x.2) n
def fK (F : Nat) (a1 : List UInt8) (rec10 : ((List UInt8) × Int) → Option ((List UInt8) × Int)) (y7 : List UInt8) (y9 : Int) : Option ((List UInt8) × Int) :=
bif decide (y9 < (a1.length : Int)) then
  cG F a1 y7 y9 rec10 F (0, y9)
else
  em F a1 y7
def cj (F : Nat) (a1 : List UInt8) (n : Nat) : ((List UInt8) × Int) → Option ((List UInt8) × Int) :=
  loop (fun rec x => fK F a1 rec x.1 x.2) n
def iI (F : Nat) (a1 : List UInt8) : Option ((List UInt8) × Int) :=
grd (fv (a1.length : Int) 4) <|
bif !decide ((a1.length : Int) % 4 = 0) then
  some ([], 2)
else
  cj F a1 F ([], 0)
def gQ (a1 : List UInt8) : Option Bool :=
some ((decide (1 ≤ (a1.length : Int))) && (decide ((a1.length : Int) ≤ 40)))
def gS (a1 : List UInt8) (rec4 : Int → Option Bool) (y3 : Int) : Option Bool :=
bif decide (y3 < (a1.length : Int)) then
  grd (bQ y3 a1.length) <|
  lt (at_ a1 y3) fun x8 =>
  bif !(((((decide (97 ≤ (x8.toNat : Int))) && (decide ((x8.toNat : Int) ≤ 122))) || ((decide (65 ≤ (x8.toNat : Int))) && (decide ((x8.toNat : Int) ≤ 90)))) || ((decide (48 ≤ (x8.toNat : Int))) && (decide ((x8.toNat : Int) ≤ 57)))) || (decide (x8 = 45))) then
    some false
  else
    grd (okI (y3 + 1)) <|
    rec4 (y3 + 1)
else
  gQ a1
def gR (a1 : List UInt8) (n : Nat) : Int → Option Bool :=
  loop (fun rec x => gS a1 rec x) n
def kL (F : Nat) (a1 : List UInt8) : Option Bool :=
gR a1 F 0
def dE (a1 : List UInt8) : Option Bool :=
cz (decide (0 < (a1.length : Int))) (bQ 0 a1.length) <|
lt (at_ a1 0) fun x38 =>
cz ((decide (0 < (a1.length : Int))) && (!decide (x38 = 32))) (okI ((a1.length : Int) - 1)) <|
cz ((decide (0 < (a1.length : Int))) && (!decide (x38 = 32))) (bQ ((a1.length : Int) - 1) a1.length) <|
lt (at_ a1 ((a1.length : Int) - 1)) fun x43 =>
some (((decide (0 < (a1.length : Int))) && (!decide (x38 = 32))) && (!decide (x43 = 32)))
def fH (a1 : List UInt8) (rec4 : Int → Option Bool) (y3 : Int) : Option Bool :=
bif decide (y3 < (a1.length : Int)) then
  grd (bQ y3 a1.length) <|
  lt (at_ a1 y3) fun x8 =>
  cz (!(decide ((x8.toNat : Int) < 32))) (bQ y3 a1.length) <|
  lt (at_ a1 y3) fun x12 =>
  bif (decide ((x8.toNat : Int) < 32)) || (decide (126 < (x12.toNat : Int))) then
    some false
  else
    cz (decide (0 < y3)) (bQ y3 a1.length) <|
    lt (at_ a1 y3) fun x17 =>
    cz ((decide (0 < y3)) && (decide (x17 = 32))) (okI (y3 - 1)) <|
    cz ((decide (0 < y3)) && (decide (x17 = 32))) (bQ (y3 - 1) a1.length) <|
    lt (at_ a1 (y3 - 1)) fun x22 =>
    cz ((decide (0 < y3)) && (!((decide (x17 = 32)) && (decide (x22 = 32))))) (bQ y3 a1.length) <|
    lt (at_ a1 y3) fun x26 =>
    cz (((decide (0 < y3)) && (!((decide (x17 = 32)) && (decide (x22 = 32))))) && (decide (x26 = 63))) (okI (y3 - 1)) <|
    cz (((decide (0 < y3)) && (!((decide (x17 = 32)) && (decide (x22 = 32))))) && (decide (x26 = 63))) (bQ (y3 - 1) a1.length) <|
    lt (at_ a1 (y3 - 1)) fun x31 =>
    bif (decide (0 < y3)) && (((decide (x17 = 32)) && (decide (x22 = 32))) || ((decide (x26 = 63)) && (decide (x31 = 61)))) then
      some false
    else
      grd (okI (y3 + 1)) <|
      rec4 (y3 + 1)
else
  dE a1
def fG (a1 : List UInt8) (n : Nat) : Int → Option Bool :=
  loop (fun rec x => fH a1 rec x) n
def jZ (F : Nat) (a1 : List UInt8) : Option Bool :=
fG a1 F 0
def jN : Option Int :=
some 45
def gL (a1 : List UInt8) (rec5 : Int → Option Int) (y4 : Int) : Option Int :=
bif decide (42 ≤ y4) then
  grd (bQ y4 a1.length) <|
  lt (at_ a1 y4) fun x9 =>
  cz (!(decide ((x9.toNat : Int) < 128))) (bQ y4 a1.length) <|
  lt (at_ a1 y4) fun x13 =>
  bif (decide ((x9.toNat : Int) < 128)) || (decide (191 < (x13.toNat : Int))) then
    some y4
  else
    grd (okI (y4 - 1)) <|
    rec5 (y4 - 1)
else
  jN
def gK (a1 : List UInt8) (n : Nat) : Int → Option Int :=
  loop (fun rec x => gL a1 rec x) n
def kJ (F : Nat) (a1 : List UInt8) : Option Int :=
bif decide ((a1.length : Int) ≤ 45) then
  some (a1.length : Int)
else
  gK a1 F 45
def iQ (y37 : List (List UInt8)) : Option ((List (List UInt8))) :=
some y37
def fF (F : Nat) (rec12 : ((List UInt8) × (List (List UInt8))) → Option ((List (List UInt8)))) (y9 : List UInt8) (y10 : List (List UInt8)) : Option ((List (List UInt8))) :=
bif decide (0 < (y9.length : Int)) then
  bnd (kJ F y9) fun x15 =>
  grd (gA x15 y9.length) <|
  lt (to_ y9 x15) fun x18 =>
  grd (bw x18.length) <|
  bnd (lD F x18) fun x22 =>
  grd (bw (([61, 63, 117, 116, 102, 45, 56, 63, 66, 63] : List UInt8).length + x22.length)) <|
  lt (([61, 63, 117, 116, 102, 45, 56, 63, 66, 63] : List UInt8) ++ x22) fun x25 =>
  grd (bw (x25.length + ([63, 61] : List UInt8).length)) <|
  lt (x25 ++ ([63, 61] : List UInt8)) fun x28 =>
  grd (bw (y10.length + ([x28] : List (List UInt8)).length)) <|
  lt (y10 ++ ([x28] : List (List UInt8))) fun x32 =>
  grd (gA x15 y9.length) <|
  lt (jA y9 x15) fun x35 =>
  rec12 (x35, x32)
else
  iQ y10
def fE (F : Nat) (n : Nat) : ((List UInt8) × (List (List UInt8))) → Option ((List (List UInt8))) :=
  loop (fun rec x => fF F rec x.1 x.2) n
def jY (F : Nat) (a1 : List UInt8) : Option ((List (List UInt8))) :=
bnd (jZ F a1) fun x3 =>
bif x3 then
  bnd (kb F a1 32) fun x6 =>
  some x6
else
  fE F F (a1, [])
def gV (y53 : List UInt8) : Option ((List UInt8) × Int) :=
grd (bw (y53.length + ([13, 10] : List UInt8).length)) <|
lt (y53 ++ ([13, 10] : List UInt8)) fun x58 =>
some (x58, 0)
def fk (x14 : List (List UInt8)) (y19 : Int) (rec20 : ((List UInt8) × Int × Int) → Option ((List UInt8) × Int)) (y33 : List UInt8) (y35 : Int) : Option ((List UInt8) × Int) :=
grd (bQ y19 x14.length) <|
lt (at_ x14 y19) fun x38 =>
grd (bw (([32] : List UInt8).length + x38.length)) <|
lt (([32] : List UInt8) ++ x38) fun x41 =>
grd (bw (y33.length + x41.length)) <|
lt (y33 ++ x41) fun x45 =>
grd (okI (y35 + 1)) <|
grd (bQ y19 x14.length) <|
lt (at_ x14 y19) fun x49 =>
grd (okI ((y35 + 1) + (x49.length : Int))) <|
grd (okI (y19 + 1)) <|
rec20 (x45, (y35 + 1) + (x49.length : Int), y19 + 1)
def gW (x14 : List (List UInt8)) (rec20 : ((List UInt8) × Int × Int) → Option ((List UInt8) × Int)) (y16 : List UInt8) (y18 : Int) (y19 : Int) : Option ((List UInt8) × Int) :=
bif decide (y19 < (x14.length : Int)) then
  grd (okI (y18 + 1)) <|
  grd (bQ y19 x14.length) <|
  lt (at_ x14 y19) fun x25 =>
  grd (okI ((y18 + 1) + (x25.length : Int))) <|
  bif decide (76 < (y18 + 1) + (x25.length : Int)) then
    grd (bw (y16.length + ([13, 10] : List UInt8).length)) <|
    lt (y16 ++ ([13, 10] : List UInt8)) fun x31 =>
    fk x14 y19 rec20 x31 0
  else
    fk x14 y19 rec20 y16 y18
else
  gV y16
def dW (x14 : List (List UInt8)) (n : Nat) : ((List UInt8) × Int × Int) → Option ((List UInt8) × Int) :=
  loop (fun rec x => gW x14 rec x.1 x.2.1 x.2.2) n
def jH (F : Nat) (a1 : List UInt8) (a2 : List UInt8) : Option ((List UInt8) × Int) :=
bnd (kL F a1) fun x5 =>
bif (!x5) || (decide (4000 < (a2.length : Int))) then
  some ([], 1)
else
  grd (bw (a1.length + ([58] : List UInt8).length)) <|
  lt (a1 ++ ([58] : List UInt8)) fun x10 =>
  grd (bw x10.length) <|
  bnd (jY F a2) fun x14 =>
  dW x14 F (x10, (x10.length : Int), 0)
def jX (F : Nat) (a1 : List UInt8) : Option ((List UInt8) × Bool) :=
cz (!(decide ((a1.length : Int) < 12))) (gA 10 a1.length) <|
lt (to_ a1 10) fun x6 =>
cz (!((decide ((a1.length : Int) < 12)) || (!decide (x6 = ([61, 63, 117, 116, 102, 45, 56, 63, 66, 63] : List UInt8))))) (okI ((a1.length : Int) - 2)) <|
cz (!((decide ((a1.length : Int) < 12)) || (!decide (x6 = ([61, 63, 117, 116, 102, 45, 56, 63, 66, 63] : List UInt8))))) (gA ((a1.length : Int) - 2) a1.length) <|
lt (jA a1 ((a1.length : Int) - 2)) fun x11 =>
bif ((decide ((a1.length : Int) < 12)) || (!decide (x6 = ([61, 63, 117, 116, 102, 45, 56, 63, 66, 63] : List UInt8)))) || (!decide (x11 = ([63, 61] : List UInt8))) then
  some (([] : List UInt8), false)
else
  grd (okI ((a1.length : Int) - 2)) <|
  grd (kl 10 ((a1.length : Int) - 2) a1.length) <|
  lt (sub a1 10 ((a1.length : Int) - 2)) fun x16 =>
  kV (iI F x16) fun x18 x19 =>
  some (x18, decide (x19 = 0))
def fC (y34 : List UInt8) (y35 : List UInt8) (y36 : Bool) : Option ((List UInt8)) :=
bif y36 then
  some y35
else
  some y34
def el (a1 : List (List UInt8)) (y6 : Bool) (y7 : Int) (x15 : Bool) (x19 : List UInt8) (rec8 : ((List UInt8) × (List UInt8) × Bool × Int) → Option ((List UInt8))) (y25 : List UInt8) : Option ((List UInt8)) :=
grd (bQ y7 a1.length) <|
lt (at_ a1 y7) fun x28 =>
grd (bw (y25.length + x28.length)) <|
lt (y25 ++ x28) fun x31 =>
grd (okI (y7 + 1)) <|
rec8 (x31, x19, y6 && x15, y7 + 1)
def fD (F : Nat) (a1 : List (List UInt8)) (rec8 : ((List UInt8) × (List UInt8) × Bool × Int) → Option ((List UInt8))) (y4 : List UInt8) (y5 : List UInt8) (y6 : Bool) (y7 : Int) : Option ((List UInt8)) :=
bif decide (y7 < (a1.length : Int)) then
  grd (bQ y7 a1.length) <|
  lt (at_ a1 y7) fun x12 =>
  kV (jX F x12) fun x14 x15 =>
  grd (bw (y5.length + x14.length)) <|
  lt (y5 ++ x14) fun x19 =>
  bif decide (0 < y7) then
    grd (bw (y4.length + ([32] : List UInt8).length)) <|
    lt (y4 ++ ([32] : List UInt8)) fun x23 =>
    el a1 y6 y7 x15 x19 rec8 x23
  else
    el a1 y6 y7 x15 x19 rec8 y4
else
  fC y4 y5 y6
def dk (F : Nat) (a1 : List (List UInt8)) (n : Nat) : ((List UInt8) × (List UInt8) × Bool × Int) → Option ((List UInt8)) :=
  loop (fun rec x => fD F a1 rec x.1 x.2.1 x.2.2.1 x.2.2.2) n
def jW (F : Nat) (a1 : List (List UInt8)) : Option ((List UInt8)) :=
dk F a1 F (([] : List UInt8), ([] : List UInt8), true, 0)
def gM (F : Nat) (a1 : List UInt8) (y71 : List UInt8) (y72 : List UInt8) : Option ((List UInt8) × (List UInt8) × Int) :=
kV (jH F y71 y72) fun x74 x75 =>
bif (!decide (x75 = 0)) || (!decide (x74 = a1)) then
  some (([] : List UInt8), ([] : List UInt8), 2)
else
  some (y71, y72, 0)
def fj (F : Nat) (a1 : List UInt8) (y16 : Int) (y60 : List (List UInt8)) : Option ((List UInt8) × (List UInt8) × Int) :=
grd (gA y16 a1.length) <|
lt (to_ a1 y16) fun x64 =>
bnd (jW F y60) fun x66 =>
gM F a1 x64 x66
def fi (y24 : Int) (rec25 : ((List (List UInt8)) × (List UInt8) × Int) → Option ((List UInt8) × (List UInt8) × Int)) (y55 : List (List UInt8)) (y57 : List UInt8) : Option ((List UInt8) × (List UInt8) × Int) :=
grd (okI (y24 + 1)) <|
rec25 (y55, y57, y24 + 1)
def fh (y24 : Int) (rec25 : ((List (List UInt8)) × (List UInt8) × Int) → Option ((List UInt8) × (List UInt8) × Int)) (y45 : List (List UInt8)) : Option ((List UInt8) × (List UInt8) × Int) :=
fi y24 rec25 y45 ([] : List UInt8)
def gP (F : Nat) (a1 : List UInt8) (y16 : Int) (rec25 : ((List (List UInt8)) × (List UInt8) × Int) → Option ((List UInt8) × (List UInt8) × Int)) (y21 : List (List UInt8)) (y23 : List UInt8) (y24 : Int) : Option ((List UInt8) × (List UInt8) × Int) :=
bif decide (y24 < (a1.length : Int)) then
  grd (bQ y24 a1.length) <|
  lt (at_ a1 y24) fun x29 =>
  cz (!(decide (x29 = 32))) (bQ y24 a1.length) <|
  lt (at_ a1 y24) fun x33 =>
  cz (!((decide (x29 = 32)) || (decide (x33 = 13)))) (bQ y24 a1.length) <|
  lt (at_ a1 y24) fun x37 =>
  bif ((decide (x29 = 32)) || (decide (x33 = 13))) || (decide (x37 = 10)) then
    bif !decide (y23 = ([] : List UInt8)) then
      grd (bw (y21.length + ([y23] : List (List UInt8)).length)) <|
      lt (y21 ++ ([y23] : List (List UInt8))) fun x43 =>
      fh y24 rec25 x43
    else
      fh y24 rec25 y21
  else
    grd (okI (y24 + 1)) <|
    grd (kl y24 (y24 + 1) a1.length) <|
    lt (sub a1 y24 (y24 + 1)) fun x50 =>
    grd (bw (y23.length + x50.length)) <|
    lt (y23 ++ x50) fun x53 =>
    fi y24 rec25 y21 x53
else
  fj F a1 y16 y21
def dh (F : Nat) (a1 : List UInt8) (y16 : Int) (n : Nat) : ((List (List UInt8)) × (List UInt8) × Int) → Option ((List UInt8) × (List UInt8) × Int) :=
  loop (fun rec x => gP F a1 y16 rec x.1 x.2.1 x.2.2) n
def dz (F : Nat) (a1 : List UInt8) (y16 : Int) : Option ((List UInt8) × (List UInt8) × Int) :=
bif decide ((a1.length : Int) ≤ y16) then
  some (([] : List UInt8), ([] : List UInt8), 2)
else
  grd (okI (y16 + 1)) <|
  dh F a1 y16 F ([], ([] : List UInt8), y16 + 1)
def gO (F : Nat) (a1 : List UInt8) (rec8 : Int → Option ((List UInt8) × (List UInt8) × Int)) (y7 : Int) : Option ((List UInt8) × (List UInt8) × Int) :=
cz (decide (y7 < (a1.length : Int))) (bQ y7 a1.length) <|
lt (at_ a1 y7) fun x12 =>
bif (decide (y7 < (a1.length : Int))) && (!decide (x12 = 58)) then
  grd (okI (y7 + 1)) <|
  rec8 (y7 + 1)
else
  dz F a1 y7
def gN (F : Nat) (a1 : List UInt8) (n : Nat) : Int → Option ((List UInt8) × (List UInt8) × Int) :=
  loop (fun rec x => gO F a1 rec x) n
def kK (F : Nat) (a1 : List UInt8) : Option ((List UInt8) × (List UInt8) × Int) :=
gN F a1 F 0
def iZ (y25 : List UInt8) : Option ((List UInt8) × Int) :=
grd (bw (y25.length + ([13, 10] : List UInt8).length)) <|
lt (y25 ++ ([13, 10] : List UInt8)) fun x30 =>
some (x30, 0)
def jb (F : Nat) (a1 : List ((List UInt8) × List UInt8)) (rec10 : ((List UInt8) × Int) → Option ((List UInt8) × Int)) (y7 : List UInt8) (y9 : Int) : Option ((List UInt8) × Int) :=
bif decide (y9 < (a1.length : Int)) then
  grd (bQ y9 a1.length) <|
  lt (at_ a1 y9) fun x14 =>
  kV (jH F x14.1 x14.2) fun x16 x17 =>
  bif !decide (x17 = 0) then
    some ([], x17)
  else
    grd (bw (y7.length + x16.length)) <|
    lt (y7 ++ x16) fun x22 =>
    grd (okI (y9 + 1)) <|
    rec10 (x22, y9 + 1)
else
  iZ y7
def ja (F : Nat) (a1 : List ((List UInt8) × List UInt8)) (n : Nat) : ((List UInt8) × Int) → Option ((List UInt8) × Int) :=
  loop (fun rec x => jb F a1 rec x.1 x.2) n
def kC (F : Nat) (a1 : List ((List UInt8) × List UInt8)) : Option ((List UInt8) × Int) :=
bif decide (50 < (a1.length : Int)) then
  some ([], 4)
else
  ja F a1 F ([], 0)
def iV : Option Int :=
some (-1)
def iW (a1 : List UInt8) (rec5 : Int → Option Int) (y4 : Int) : Option Int :=
bif decide (y4 ≤ (a1.length : Int)) then
  grd (okI (y4 - 2)) <|
  grd (bQ (y4 - 2) a1.length) <|
  lt (at_ a1 (y4 - 2)) fun x10 =>
  cz (decide (x10 = 13)) (okI (y4 - 1)) <|
  cz (decide (x10 = 13)) (bQ (y4 - 1) a1.length) <|
  lt (at_ a1 (y4 - 1)) fun x15 =>
  cz (((decide (x10 = 13)) && (decide (x15 = 10))) && (!(decide (y4 = (a1.length : Int))))) (bQ y4 a1.length) <|
  lt (at_ a1 y4) fun x20 =>
  bif ((decide (x10 = 13)) && (decide (x15 = 10))) && ((decide (y4 = (a1.length : Int))) || (!decide (x20 = 32))) then
    some y4
  else
    grd (okI (y4 + 1)) <|
    rec5 (y4 + 1)
else
  iV
def ge (a1 : List UInt8) (n : Nat) : Int → Option Int :=
  loop (fun rec x => iW a1 rec x) n
def mL (F : Nat) (a1 : List UInt8) : Option Int :=
ge a1 F 2
def ko : Option ((List ((List UInt8) × List UInt8)) × (List UInt8) × Int) :=
some ([], [], 2)
def iY (F : Nat) (rec10 : ((List UInt8) × (List ((List UInt8) × List UInt8))) → Option ((List ((List UInt8) × List UInt8)) × (List UInt8) × Int)) (y7 : List UInt8) (y8 : List ((List UInt8) × List UInt8)) : Option ((List ((List UInt8) × List UInt8)) × (List UInt8) × Int) :=
bif decide ((y8.length : Int) ≤ 50) then
  cz (decide (2 ≤ (y7.length : Int))) (bQ 0 y7.length) <|
  lt (at_ y7 0) fun x15 =>
  cz ((decide (2 ≤ (y7.length : Int))) && (decide (x15 = 13))) (bQ 1 y7.length) <|
  lt (at_ y7 1) fun x19 =>
  bif ((decide (2 ≤ (y7.length : Int))) && (decide (x15 = 13))) && (decide (x19 = 10)) then
    grd (gA 2 y7.length) <|
    lt (jA y7 2) fun x23 =>
    grd (bw x23.length) <|
    some (y8, x23, 0)
  else
    bnd (mL F y7) fun x27 =>
    bif (decide (x27 < 0)) || (decide ((y8.length : Int) = 50)) then
      some ([], [], 2)
    else
      grd (gA x27 y7.length) <|
      lt (to_ y7 x27) fun x32 =>
      nV (kK F x32) fun x34 x35 x36 =>
      bif !decide (x36 = 0) then
        some ([], [], 2)
      else
        grd (bw (y8.length + ([(x34, x35)] : List ((List UInt8) × List UInt8)).length)) <|
        lt (y8 ++ ([(x34, x35)] : List ((List UInt8) × List UInt8))) fun x42 =>
        grd (gA x27 y7.length) <|
        lt (jA y7 x27) fun x45 =>
        rec10 (x45, x42)
else
  ko
def iX (F : Nat) (n : Nat) : ((List UInt8) × (List ((List UInt8) × List UInt8))) → Option ((List ((List UInt8) × List UInt8)) × (List UInt8) × Int) :=
  loop (fun rec x => iY F rec x.1 x.2) n
def lC (F : Nat) (a1 : List UInt8) : Option ((List ((List UInt8) × List UInt8)) × (List UInt8) × Int) :=
iX F F (a1, [])
end Go.Pv
namespace Go.Proofs.YtdaafnaokdigbaaGreatDoor
open Go.RowKit Go.Av Go.Pv
theorem pI : ∀ (args : Array Value) (w : World), (callFunc 71 args).run Tryz.prog w = .ok (.enter 71 args) w := fun _ _ => by kernel_rfl
theorem uY : ∀ (args : Array Value) (w : World), (callFunc 80 args).run Tryz.prog w = .ok (.enter 80 args) w := fun _ _ => by kernel_rfl
theorem uX : ∀ (args : Array Value) (w : World), (callFunc 81 args).run Tryz.prog w = .ok (.enter 81 args) w := fun _ _ => by kernel_rfl
theorem uU : ∀ (args : Array Value) (w : World), (callFunc 92 args).run Tryz.prog w = .ok (.enter 92 args) w := fun _ _ => by kernel_rfl
theorem uT : ∀ (args : Array Value) (w : World), (callFunc 93 args).run Tryz.prog w = .ok (.enter 93 args) w := fun _ _ => by kernel_rfl
theorem oD : ∀ (args : Array Value) (w : World), (callFunc 102 args).run Tryz.prog w = .ok (.enter 102 args) w := fun _ _ => by kernel_rfl
theorem tv : ∀ (args : Array Value) (w : World), (callFunc 115 args).run Tryz.prog w = .ok (.enter 115 args) w := fun _ _ => by kernel_rfl
theorem tu : ∀ (args : Array Value) (w : World), (callFunc 116 args).run Tryz.prog w = .ok (.enter 116 args) w := fun _ _ => by kernel_rfl
theorem ts : ∀ (args : Array Value) (w : World), (callFunc 117 args).run Tryz.prog w = .ok (.enter 117 args) w := fun _ _ => by kernel_rfl
theorem oB : ∀ (args : Array Value) (w : World), (callFunc 118 args).run Tryz.prog w = .ok (.enter 118 args) w := fun _ _ => by kernel_rfl
theorem tm : ∀ (args : Array Value) (w : World), (callFunc 129 args).run Tryz.prog w = .ok (.enter 129 args) w := fun _ _ => by kernel_rfl
theorem tf : ∀ (args : Array Value) (w : World), (callFunc 144 args).run Tryz.prog w = .ok (.enter 144 args) w := fun _ _ => by kernel_rfl
theorem te : ∀ (args : Array Value) (w : World), (callFunc 151 args).run Tryz.prog w = .ok (.enter 151 args) w := fun _ _ => by kernel_rfl
set_option maxRecDepth 100000 in
set_option maxHeartbeats 1000000 in
theorem qp (F : Nat) (a1 : List UInt8) (a2 : UInt8) (r3 : List (List UInt8)) (H : kb F a1 a2 = some r3) : ACalls Tryz.prog 116 [S a1, u8 a2] [] (Ret (slE Enc.str r3 none) []) := by
 unfold kb at H
 refine aw Tryz.func116 rfl rfl ?_;show AW _ _ 35 _ _ _;refine af <| ab ?_;show AR _ _ _ _ _ [0] _;refine za rfl <| ai <| af <| ab ?_;show AR _ _ _ _ _ [0] _;refine za rfl <| ai ?_
 refine bL 5 1 9 rfl fun t4 => ?_
 show AW _ _ _ _ _ ⟨(5, slE Enc.str [] (some t4)) :: _, _, _⟩;refine af <| ab ?_;show AR _ _ _ _ _ [0] _;refine za rfl <| ai <| bx (X := (List (List UInt8)) × Nat) (fun (y30, t31) => ⟨[(5, slE Enc.str y30 (some t31))], [], [.tok t31 9]⟩) (fun (y30, t31) => fL y30 = some r3) ?_ ?_
 ·refine af <| ab ?_;show AR _ _ _ _ _ [0] _;refine za rfl <| ai <| aJ <| bE (X := Nat × (List (List UInt8)) × Nat × Int × Int) (fun (n10, y5, t6, y7, y8) => ⟨[(0, S a1), (1, u8 a2), (5, slE Enc.str y5 (some t6)), (6, i64 y7), (7, i64 y8)], [], [.tok t6 9]⟩) (fun (n10, y5, t6, y7, y8) => cU a1 a2 n10 (y5, y7, y8) = some r3) (fun (n10, y5, t6, y7, y8) => n10) (F, [], t4, 0, 0) H (aU [0] (.cons (.refl _) (.cons (.refl _) (.cons (.refl _) (.cons (.refl _) (.cons (.refl _) (.nil _)))))) rfl) ?_;rintro ⟨n10, y5, t6, y7, y8⟩ H;obtain ⟨n10, rfl, H⟩ := bX H;replace H : dH a1 a2 (cU a1 a2 n10) y5 y7 y8 = some r3 := H
  unfold dH at H
  refine af <| af <| ab ?_;show AR _ _ _ _ _ [0, 1, 2, 3] _;refine zm rfl <| zm rfl <| zS rfl (aX ac rfl) <| zS rfl (dd rfl rfl) <| ai <| aD rfl (fun c11 => ?_) (fun c11 => ?_)
  ·replace H := aZ c11 H;refine aF <| bx (X := (List (List UInt8)) × Nat × Int) (fun (y25, t26, y27) => ⟨[(0, S a1), (1, u8 a2), (5, slE Enc.str y25 (some t26)), (6, i64 y27), (7, i64 y8)], [], [.tok t26 9]⟩) (fun (y25, t26, y27) => eu y8 (cU a1 a2 n10) y25 y27 = some r3) ?_ ?_
   ·refine aJ <| af ?_;obtain ⟨g13, H⟩ := cb H;obtain ⟨x14, e15, H⟩ := bb H;refine ab ?_;show AR _ _ _ _ _ [0, 1, 2, 3, 4, 5, 6, 7, 8, 9, 10] _;refine zm rfl <| zm rfl <| zS rfl (aX ac rfl) <| zS rfl (dm rfl rfl) <| zm rfl <| aQ (l := []) 24 (B ((decide (y8 = (a1.length : Int))) || (decide (x14 = a2)))) (fun K => ?_) ?_
    ·rcases ah (decide (y8 = (a1.length : Int))) with h12 | h12
     ·refine zF h12 rfl <| zF h12 rfl <| zF h12 rfl <| zF h12 rfl <| zF h12 rfl <| zS rfl (ax (av := .v _) rfl h12 rfl) ?_;exact K _ 5 _ (an (dC h12)) rfl rfl
     ·refine zM h12 rfl <| zM h12 rfl <| zU h12 rfl (bo ac rfl rfl (g13 (nf h12)) e15) <| zM h12 rfl <| zU h12 rfl (dt (a := x14) (b := a2) rfl rfl) <| zS rfl (ay (av := .v _) rfl h12 rfl) ?_;exact K _ 5 _ (an (dD h12)) rfl rfl
    refine ai <| aD rfl (fun c16 => ?_) (fun c16 => ?_)
    ·replace H := aZ c16 H;refine af ?_;obtain ⟨g17, H⟩ := az H;obtain ⟨x18, e19, H⟩ := bb H;obtain ⟨g21, H⟩ := az H;obtain ⟨x22, e23, H⟩ := bb H;refine ab ?_;show AR _ _ _ _ _ [0, 1, 2, 3, 4, 5, 6, 7] _;refine zS rfl (ag (av := slE _ _ _) rfl) <| zm rfl <| zm rfl <| zm rfl <| zS rfl (dU ac rfl rfl rfl g17 e19) <| zR rfl (bh (E := Enc.str) (bytes := 16) (xs := [.tmp 29]) (l := ([x18] : List (List UInt8))) aA (by kernel_rfl) rfl rfl (by decide) rfl rfl) <| zX rfl (bA (E := Enc.str) (bytes := 16) 0 aA aA rfl (by kernel_rfl) rfl rfl rfl rfl g21 e23) ?_;rintro _ _ ⟨t20, rfl, rfl⟩;refine zS rfl (am (av := slE _ _ _) rfl) <| ai ?_;obtain ⟨g24, H⟩ := az H;refine ab ?_;show AR _ _ _ _ _ [0, 1, 2] _;refine zm rfl <| zS rfl (bk rfl rfl g24) <| za rfl <| ai ?_;exact Exists.intro (x22, t20, y8 + 1) ⟨H, aU [0] (.cons (.refl _) (.cons (.refl _) (.cons (.refl _) (.cons (.refl _) (.cons (.refl _) (.nil _)))))) rfl⟩
    ·replace H := ba c16 H;refine aF ?_;exact Exists.intro (y5, t6, y7) ⟨H, aU [0] (.cons (.refl _) (.cons (.refl _) (.cons (.refl _) (.cons (.refl _) (.cons (.refl _) (.nil _)))))) rfl⟩
   rintro ⟨y25, t26, y27⟩ H;replace H : eu y8 (cU a1 a2 n10) y25 y27 = some r3 := H
   unfold eu at H
   obtain ⟨g29, H⟩ := az H;refine ab ?_;show AR _ _ _ _ _ [0, 1, 2] _;refine zm rfl <| zS rfl (bk rfl rfl g29) <| za rfl <| ai ?_;exact Exists.intro (n10, y25, t26, y27, y8 + 1) ⟨H, Nat.lt_succ_self _, aU [0] (.cons (.refl _) (.cons (.refl _) (.cons (.refl _) (.cons (.refl _) (.cons (.refl _) (.nil _)))))) rfl⟩
  ·replace H := ba c11 H;refine bz ?_;exact Exists.intro (y5, t6) ⟨H, aU [0] (.cons (.refl _) (.nil _)) rfl⟩
 rintro ⟨y30, t31⟩ H;replace H : fL y30 = some r3 := H
 unfold fL at H
 refine af <| ab ?_;show AR _ _ _ _ _ [0, 1] _;refine zS rfl (ag (av := slE _ _ _) rfl) <| zS rfl (am (av := slE _ _ _) rfl) <| ai <| aP ?_;obtain rfl := ak H;exact And.intro rfl (Exists.intro _ (Exists.intro _ ⟨aV rfl (.tok _ _ _), aO [] rfl, rfl, rfl⟩))
set_option maxRecDepth 100000 in
set_option maxHeartbeats 1000000 in
theorem pe (F : Nat) (a1 : UInt8) (r2 : Int) (H : kq F a1 = some r2) : ACalls Tryz.prog 151 [u8 a1] [] (Ret (i64 r2) []) := by
 unfold kq at H
 refine aw Tryz.func151 rfl rfl ?_;show AW _ _ 13 _ _ _;refine af <| ab ?_;show AR _ _ _ _ _ [0] _;refine za rfl <| ai <| bx (X := Unit) (fun _ => ⟨[], [], []⟩) (fun _ => eR = some r2) ?_ ?_
 ·refine af <| ab ?_;show AR _ _ _ _ _ [0] _;refine za rfl <| ai <| aJ <| bE (X := Nat × Int) (fun (n5, y3) => ⟨[(0, u8 a1), (3, i64 y3)], [], []⟩) (fun (n5, y3) => eS a1 n5 y3 = some r2) (fun (n5, y3) => n5) (F, 0) H (aU [] (.cons (.refl _) (.cons (.refl _) (.nil _))) rfl) ?_;rintro ⟨n5, y3⟩ H;obtain ⟨n5, rfl, H⟩ := bX H;replace H : eT a1 (eS a1 n5) y3 = some r2 := H
  unfold eT at H
  refine af <| af <| ab ?_;show AR _ _ _ _ _ [0, 1] _;refine zm rfl <| zS rfl (bB rfl rfl) <| ai <| aD rfl (fun c6 => ?_) (fun c6 => ?_)
  ·replace H := aZ c6 H;refine aF <| af <| aJ <| af ?_;obtain ⟨g7, H⟩ := az H;obtain ⟨x8, e9, H⟩ := bb H;refine ab ?_;show AR _ _ _ _ _ [0, 1, 2, 3] _;refine zm rfl <| zS rfl (bo ac rfl rfl g7 e9) <| zm rfl <| zS rfl (dt (a := x8) (b := a1) rfl rfl) <| ai <| aD rfl (fun c10 => ?_) (fun c10 => ?_)
   ·replace H := aZ c10 H;refine af <| ab ?_;show AR _ _ _ _ _ [0, 1] _;refine zm rfl <| za rfl <| ai <| aP ?_;obtain rfl := ak H;exact And.intro rfl (Exists.intro _ (Exists.intro _ ⟨aV rfl (.refl _), aO [] rfl, rfl, rfl⟩))
   ·replace H := ba c10 H;refine aF ?_;obtain ⟨g11, H⟩ := az H;refine ab ?_;show AR _ _ _ _ _ [0, 1, 2] _;refine zm rfl <| zS rfl (bk rfl rfl g11) <| za rfl <| ai ?_;exact Exists.intro (n5, y3 + 1) ⟨H, Nat.lt_succ_self _, aU [] (.cons (.refl _) (.cons (.refl _) (.nil _))) rfl⟩
  ·replace H := ba c6 H;refine bz ?_;exact Exists.intro () ⟨H, aU [] (.nil _) rfl⟩
 rintro _ H;replace H : eR = some r2 := H
 unfold eR at H
 refine af <| ab ?_;show AR _ _ _ _ _ [0] _;refine za rfl <| ai <| aP ?_;obtain rfl := ak H;exact And.intro rfl (Exists.intro _ (Exists.intro _ ⟨aV rfl (.refl _), aO [] rfl, rfl, rfl⟩))
set_option maxRecDepth 100000 in
set_option maxHeartbeats 1000000 in
theorem oo (F : Nat) (a1 : List UInt8) (q2 : Option Nat) (r3 : List UInt8) (H : lD F a1 = some r3) : ACalls Tryz.prog 118 [slE Enc.byte a1 q2] [] (Ret (S r3) []) := by
 unfold lD at H
 refine aw Tryz.func118 rfl rfl ?_;show AW _ _ 74 _ _ _;refine af <| ab ?_;show AR _ _ _ _ _ [0] _;refine za rfl <| ai <| af <| ab ?_;show AR _ _ _ _ _ [0] _;refine za rfl <| ai ?_
 refine bL 3 1 5 rfl fun t4 => ?_
 show AW _ _ _ _ _ ⟨(3, slE Enc.byte [] (some t4)) :: _, _, _⟩;refine bx (X := (List UInt8) × Nat) (fun (y77, t78) => ⟨[(3, slE Enc.byte y77 (some t78))], [], [.tok t78 5]⟩) (fun (y77, t78) => jc y77 = some r3) ?_ ?_
 ·refine af <| ab ?_;show AR _ _ _ _ _ [0] _;refine za rfl <| ai <| aJ <| bE (X := Nat × (List UInt8) × Nat × Int) (fun (n9, y5, t6, y7) => ⟨[(0, slE Enc.byte a1 q2), (3, slE Enc.byte y5 (some t6)), (4, i64 y7)], [], [.tok t6 5]⟩) (fun (n9, y5, t6, y7) => cf F a1 n9 (y5, y7) = some r3) (fun (n9, y5, t6, y7) => n9) (F, [], t4, 0) H (aU [0] (.cons (.refl _) (.cons (.refl _) (.cons (.refl _) (.nil _)))) rfl) ?_;rintro ⟨n9, y5, t6, y7⟩ H;obtain ⟨n9, rfl, H⟩ := bX H;replace H : jd F a1 (cf F a1 n9) y5 y7 = some r3 := H
  unfold jd at H
  refine af <| af <| ab ?_;show AR _ _ _ _ _ [0, 1, 2, 3] _;refine zm rfl <| zS rfl (ag (av := slE _ _ _) rfl) <| zS rfl (aH aa rfl) <| zS rfl (bB rfl rfl) <| ai <| aD rfl (fun c10 => ?_) (fun c10 => ?_)
  ·replace H := aZ c10 H;refine aF <| bx (X := (List UInt8) × Nat) (fun (y73, t74) => ⟨[(0, slE Enc.byte a1 q2), (3, slE Enc.byte y73 (some t74)), (4, i64 y7)], [], [.tok t74 5]⟩) (fun (y73, t74) => gj y7 (cf F a1 n9) y73 = some r3) ?_ ?_
   ·refine aJ <| af <| ab ?_;show AR _ _ _ _ _ [0] _;refine za rfl <| ai <| bx (X := Int) (fun y26 => ⟨[(0, slE Enc.byte a1 q2), (3, slE Enc.byte y5 (some t6)), (4, i64 y7), (5, i64 y26)], [], [.tok t6 5]⟩) (fun y26 => gh a1 y5 y7 (cf F a1 n9) y26 = some r3) ?_ ?_
    ·refine af <| ab ?_;show AR _ _ _ _ _ [0, 1] _;refine zm rfl <| za rfl <| ai <| aJ <| bE (X := Nat × Int × Int) (fun (n14, y11, y12) => ⟨[(0, slE Enc.byte a1 q2), (3, slE Enc.byte y5 (some t6)), (4, i64 y7), (5, i64 y11), (6, i64 y12)], [], [.tok t6 5]⟩) (fun (n14, y11, y12) => cM a1 y5 y7 (cf F a1 n9) n14 (y11, y12) = some r3) (fun (n14, y11, y12) => n14) (F, 0, y7) H (aU [0] (.cons (.refl _) (.cons (.refl _) (.cons (.refl _) (.cons (.refl _) (.cons (.refl _) (.nil _)))))) rfl) ?_;rintro ⟨n14, y11, y12⟩ H;obtain ⟨n14, rfl, H⟩ := bX H;replace H : eL a1 y5 y7 (cf F a1 n9) (cM a1 y5 y7 (cf F a1 n9) n14) y11 y12 = some r3 := H
     unfold eL at H
     refine af <| af ?_;obtain ⟨g15, H⟩ := az H;refine ab ?_;show AR _ _ _ _ _ [0, 1, 2, 3] _;refine zm rfl <| zm rfl <| zS rfl (bk rfl rfl g15) <| zS rfl (bB rfl rfl) <| ai <| aD rfl (fun c16 => ?_) (fun c16 => ?_)
     ·replace H := aZ c16 H;refine aF <| bx (X := Int) (fun y23 => ⟨[(0, slE Enc.byte a1 q2), (3, slE Enc.byte y5 (some t6)), (4, i64 y7), (5, i64 y23), (6, i64 y12)], [], [.tok t6 5]⟩) (fun y23 => gg y12 (cM a1 y5 y7 (cf F a1 n9) n14) y23 = some r3) ?_ ?_
      ·refine aJ <| af ?_;obtain ⟨g17, H⟩ := az H;refine ab ?_;show AR _ _ _ _ _ [0, 1, 2] _;refine zm rfl <| zS rfl (qg rfl rfl g17) <| za rfl <| ai <| af <| ab ?_;show AR _ _ _ _ _ [0, 1, 2, 3] _;refine zm rfl <| zS rfl (ag (av := slE _ _ _) rfl) <| zS rfl (aH aa rfl) <| zS rfl (bB rfl rfl) <| ai <| aD rfl (fun c18 => ?_) (fun c18 => ?_)
       ·replace H := aZ c18 H;obtain ⟨g19, H⟩ := az H;obtain ⟨x20, e21, H⟩ := bb H;obtain ⟨g22, H⟩ := az H;refine ab ?_;show AR _ _ _ _ _ [0, 1, 2, 3, 4, 5, 6, 7] _;refine zm rfl <| zS rfl (ag (av := slE _ _ _) rfl) <| zm rfl <| zS rfl (aY (E := Enc.byte) aa (by kernel_rfl) rfl rfl g19 e21) <| zS rfl (aL au rfl rfl) <| zS rfl (ke (c := x20) (by kernel_rfl) bm rfl) <| zS rfl (bk rfl rfl g22) <| za rfl <| ai ?_;exact Exists.intro ((256 * y11) + (x20.toNat : Int)) ⟨H, aU [0] (.cons (.refl _) (.cons (.refl _) (.cons (.refl _) (.cons (.refl _) (.cons (.refl _) (.nil _)))))) rfl⟩
       ·replace H := ba c18 H;refine aF ?_;exact Exists.intro (256 * y11) ⟨H, aU [0] (.cons (.refl _) (.cons (.refl _) (.cons (.refl _) (.cons (.refl _) (.cons (.refl _) (.nil _)))))) rfl⟩
      rintro y23 H;replace H : gg y12 (cM a1 y5 y7 (cf F a1 n9) n14) y23 = some r3 := H
      unfold gg at H
      obtain ⟨g25, H⟩ := az H;refine ab ?_;show AR _ _ _ _ _ [0, 1, 2] _;refine zm rfl <| zS rfl (bk rfl rfl g25) <| za rfl <| ai ?_;exact Exists.intro (n14, y23, y12 + 1) ⟨H, Nat.lt_succ_self _, aU [0] (.cons (.refl _) (.cons (.refl _) (.cons (.refl _) (.cons (.refl _) (.cons (.refl _) (.nil _)))))) rfl⟩
     ·replace H := ba c16 H;refine bz ?_;exact Exists.intro y11 ⟨H, aU [0] (.cons (.refl _) (.cons (.refl _) (.cons (.refl _) (.cons (.refl _) (.nil _))))) rfl⟩
    rintro y26 H;replace H : gh a1 y5 y7 (cf F a1 n9) y26 = some r3 := H
    unfold gh at H
    refine af ?_;obtain ⟨g28, H⟩ := az H;obtain ⟨g29, H⟩ := az H;obtain ⟨x30, e31, H⟩ := bb H;obtain ⟨g32, H⟩ := az H;obtain ⟨g33, H⟩ := az H;obtain ⟨g34, H⟩ := az H;obtain ⟨x35, e36, H⟩ := bb H;obtain ⟨g38, H⟩ := az H;obtain ⟨x39, e40, H⟩ := bb H;refine bW (by kernel_rfl) ?_;show AI _ _ _ _ _ 11 (Array.replicate 11 false) _;refine zk 0 rfl (ag (av := slE _ _ _) rfl) ?_;show AI _ _ _ _ _ _ #[true, false, false, false, false, false, false, false, false, false, false] _;refine zk 1 rfl (mv rfl) ?_;show AI _ _ _ _ _ _ #[true, true, false, false, false, false, false, false, false, false, false] _;refine zk 2 rfl (nY rfl rfl g28) ?_;show AI _ _ _ _ _ _ #[true, true, true, false, false, false, false, false, false, false, false] _;refine zk 3 rfl (bo ac rfl rfl g29 e31) ?_;show AI _ _ _ _ _ _ #[true, true, true, true, false, false, false, false, false, false, false] _;refine zk 4 rfl (mv rfl) ?_;show AI _ _ _ _ _ _ #[true, true, true, true, true, false, false, false, false, false, false] _;refine zk 5 rfl (nY rfl rfl g32) ?_;show AI _ _ _ _ _ _ #[true, true, true, true, true, true, false, false, false, false, false] _;refine zk 6 rfl (mr rfl rfl g33) ?_;show AI _ _ _ _ _ _ #[true, true, true, true, true, true, true, false, false, false, false] _;refine zk 7 rfl (bo ac rfl rfl g34 e36) ?_;show AI _ _ _ _ _ _ #[true, true, true, true, true, true, true, true, false, false, false] _
    refine bf (i := 8) (by kernel_rfl) rfl rfl <| be rfl (bh (E := Enc.byte) (bytes := 1) (xs := [.tmp 36, .tmp 40]) (l := ([x30, x35] : List UInt8)) aa (by kernel_rfl) rfl rfl (by decide) rfl rfl) ?_;show AI _ _ _ _ _ _ #[true, true, true, true, true, true, true, true, true, false, false] _;refine bf (i := 9) (by kernel_rfl) rfl rfl <| bS rfl (bA (E := Enc.byte) (bytes := 1) 0 aa aa rfl (by kernel_rfl) rfl rfl rfl rfl g38 e40) ?_;rintro _ _ ⟨t37, rfl, rfl⟩;show AI _ _ _ _ _ _ #[true, true, true, true, true, true, true, true, true, true, false] _;refine zk 10 rfl (am (av := slE _ _ _) rfl) ?_;show AI _ _ _ _ _ _ #[true, true, true, true, true, true, true, true, true, true, true] _;refine bN rfl <| bx (X := (List UInt8) × Nat) (fun (y56, t57) => ⟨[(0, slE Enc.byte a1 q2), (3, slE Enc.byte y56 (some t57)), (4, i64 y7), (5, i64 y26)], [], [.tok t57 5]⟩) (fun (y56, t57) => gi a1 y7 y26 (cf F a1 n9) y56 = some r3) ?_ ?_
    ·refine af ?_;obtain ⟨g41, H⟩ := az H;refine ab ?_;show AR _ _ _ _ _ [0, 1, 2, 3, 4] _;refine zm rfl <| zS rfl (bk rfl rfl g41) <| zS rfl (ag (av := slE _ _ _) rfl) <| zS rfl (aH aa rfl) <| zS rfl (bB rfl rfl) <| ai <| aD rfl (fun c42 => ?_) (fun c42 => ?_)
     ·replace H := aZ c42 H;obtain ⟨g43, H⟩ := az H;obtain ⟨g44, H⟩ := az H;obtain ⟨g45, H⟩ := az H;obtain ⟨x46, e47, H⟩ := bb H;obtain ⟨g49, H⟩ := az H;obtain ⟨x50, e51, H⟩ := bb H;refine ab ?_;show AR _ _ _ _ _ [0, 1, 2, 3, 4, 5, 6, 7] _;refine zS rfl (ag (av := slE _ _ _) rfl) <| zm rfl <| zS rfl (nY rfl rfl g43) <| zS rfl (mr rfl rfl g44) <| zS rfl (bo ac rfl rfl g45 e47) <| zR rfl (bh (E := Enc.byte) (bytes := 1) (xs := [.tmp 52]) (l := ([x46] : List UInt8)) aa (by kernel_rfl) rfl rfl (by decide) rfl rfl) <| zX rfl (bA (E := Enc.byte) (bytes := 1) 0 aa aa rfl (by kernel_rfl) rfl rfl rfl rfl g49 e51) ?_;rintro _ _ ⟨t48, rfl, rfl⟩;refine zS rfl (am (av := slE _ _ _) rfl) <| ai ?_;exact Exists.intro (x50, t48) ⟨H, aU [0] (.cons (.refl _) (.cons (.refl _) (.cons (.refl _) (.cons (.refl _) (.nil _))))) rfl⟩
     ·replace H := ba c42 H;obtain ⟨g53, H⟩ := az H;obtain ⟨x54, e55, H⟩ := bb H;refine ab ?_;show AR _ _ _ _ _ [0, 1, 2, 3] _;refine zS rfl (ag (av := slE _ _ _) rfl) <| zR rfl (bh (E := Enc.byte) (bytes := 1) (xs := [.const _]) (l := ([61] : List UInt8)) aa (by kernel_rfl) rfl rfl (by decide) rfl rfl) <| zX rfl (bA (E := Enc.byte) (bytes := 1) 0 aa aa rfl (by kernel_rfl) rfl rfl rfl rfl g53 e55) ?_;rintro _ _ ⟨t52, rfl, rfl⟩;refine zS rfl (am (av := slE _ _ _) rfl) <| ai ?_;exact Exists.intro (x54, t52) ⟨H, aU [0] (.cons (.refl _) (.cons (.refl _) (.cons (.refl _) (.cons (.refl _) (.nil _))))) rfl⟩
    rintro ⟨y56, t57⟩ H;replace H : gi a1 y7 y26 (cf F a1 n9) y56 = some r3 := H
    unfold gi at H
    refine af ?_;obtain ⟨g59, H⟩ := az H;refine ab ?_;show AR _ _ _ _ _ [0, 1, 2, 3, 4] _;refine zm rfl <| zS rfl (bk rfl rfl g59) <| zS rfl (ag (av := slE _ _ _) rfl) <| zS rfl (aH aa rfl) <| zS rfl (bB rfl rfl) <| ai <| aD rfl (fun c60 => ?_) (fun c60 => ?_)
    ·replace H := aZ c60 H;obtain ⟨g61, H⟩ := az H;obtain ⟨g62, H⟩ := az H;obtain ⟨x63, e64, H⟩ := bb H;obtain ⟨g66, H⟩ := az H;obtain ⟨x67, e68, H⟩ := bb H;refine ab ?_;show AR _ _ _ _ _ [0, 1, 2, 3, 4, 5, 6] _;refine zS rfl (ag (av := slE _ _ _) rfl) <| zm rfl <| zS rfl (mr rfl rfl g61) <| zS rfl (bo ac rfl rfl g62 e64) <| zR rfl (bh (E := Enc.byte) (bytes := 1) (xs := [.tmp 66]) (l := ([x63] : List UInt8)) aa (by kernel_rfl) rfl rfl (by decide) rfl rfl) <| zX rfl (bA (E := Enc.byte) (bytes := 1) 0 aa aa rfl (by kernel_rfl) rfl rfl rfl rfl g66 e68) ?_;rintro _ _ ⟨t65, rfl, rfl⟩;refine zS rfl (am (av := slE _ _ _) rfl) <| ai ?_;exact Exists.intro (x67, t65) ⟨H, aU [0] (.cons (.refl _) (.cons (.refl _) (.cons (.refl _) (.nil _)))) rfl⟩
    ·replace H := ba c60 H;obtain ⟨g70, H⟩ := az H;obtain ⟨x71, e72, H⟩ := bb H;refine ab ?_;show AR _ _ _ _ _ [0, 1, 2, 3] _;refine zS rfl (ag (av := slE _ _ _) rfl) <| zR rfl (bh (E := Enc.byte) (bytes := 1) (xs := [.const _]) (l := ([61] : List UInt8)) aa (by kernel_rfl) rfl rfl (by decide) rfl rfl) <| zX rfl (bA (E := Enc.byte) (bytes := 1) 0 aa aa rfl (by kernel_rfl) rfl rfl rfl rfl g70 e72) ?_;rintro _ _ ⟨t69, rfl, rfl⟩;refine zS rfl (am (av := slE _ _ _) rfl) <| ai ?_;exact Exists.intro (x71, t69) ⟨H, aU [0] (.cons (.refl _) (.cons (.refl _) (.cons (.refl _) (.nil _)))) rfl⟩
   rintro ⟨y73, t74⟩ H;replace H : gj y7 (cf F a1 n9) y73 = some r3 := H
   unfold gj at H
   obtain ⟨g76, H⟩ := az H;refine ab ?_;show AR _ _ _ _ _ [0, 1, 2] _;refine zm rfl <| zS rfl (bk rfl rfl g76) <| za rfl <| ai ?_;exact Exists.intro (n9, y73, t74, y7 + 3) ⟨H, Nat.lt_succ_self _, aU [0] (.cons (.refl _) (.cons (.refl _) (.cons (.refl _) (.nil _)))) rfl⟩
  ·replace H := ba c10 H;refine bz ?_;exact Exists.intro (y5, t6) ⟨H, aU [0] (.cons (.refl _) (.nil _)) rfl⟩
 rintro ⟨y77, t78⟩ H;replace H : jc y77 = some r3 := H
 unfold jc at H
 refine af <| ab ?_;show AR _ _ _ _ _ [0, 1, 2] _;refine zS rfl (ag (av := slE _ _ _) rfl) <| zS rfl (bn aa au ac rfl) <| za rfl <| ai <| aP ?_;obtain rfl := ak H;exact And.intro rfl (Exists.intro _ (Exists.intro _ ⟨aV rfl (.refl _), aO [] rfl, rfl, rfl⟩))
set_option maxRecDepth 100000 in
set_option maxHeartbeats 1000000 in
theorem qn (F : Nat) (a1 : List UInt8) (r2 : List UInt8) (r3 : Int) (H : iI F a1 = some (r2, r3)) : ACalls Tryz.prog 144 [S a1] [] (Ret (.tup [slE Enc.byte r2 none, i64 r3]) []) := by
 unfold iI at H
 refine aw Tryz.func144 rfl rfl ?_;show AW _ _ 74 _ _ _;refine af <| ab ?_;show AR _ _ _ _ _ [0, 1] _;refine za rfl <| za rfl <| ai <| af <| af ?_;obtain ⟨g4, H⟩ := az H;refine ab ?_;show AR _ _ _ _ _ [0, 1, 2, 3] _;refine zm rfl <| zS rfl (aX ac rfl) <| zS rfl (mr rfl rfl g4) <| zS rfl (dv rfl rfl) <| ai <| aD rfl (fun c5 => ?_) (fun c5 => ?_)
 ·replace H := aZ c5 H;refine af <| ab ?_;show AR _ _ _ _ _ [0, 1] _;refine za rfl <| za rfl <| ai <| aP ?_;obtain ⟨rfl, rfl⟩ := fX H;exact And.intro rfl (Exists.intro _ (Exists.intro _ ⟨bH rfl (.nil _) (.refl _), aO [] rfl, rfl, rfl⟩))
 ·replace H := ba c5 H;refine aF <| af <| ab ?_;show AR _ _ _ _ _ [0] _;refine za rfl <| ai ?_
  refine bL 4 1 5 rfl fun t6 => ?_
  show AW _ _ _ _ _ ⟨(4, slE Enc.byte [] (some t6)) :: _, _, _⟩;refine bx (X := (List UInt8) × Nat) (fun (y41, t42) => ⟨[(0, S a1), (4, slE Enc.byte y41 (some t42))], [], [.tok t42 5]⟩) (fun (y41, t42) => em F a1 y41 = some (r2, r3)) ?_ ?_
  ·refine af <| ab ?_;show AR _ _ _ _ _ [0] _;refine za rfl <| ai <| aJ <| bE (X := Nat × (List UInt8) × Nat × Int) (fun (n11, y7, t8, y9) => ⟨[(0, S a1), (4, slE Enc.byte y7 (some t8)), (5, i64 y9)], [], [.tok t8 5]⟩) (fun (n11, y7, t8, y9) => cj F a1 n11 (y7, y9) = some (r2, r3)) (fun (n11, y7, t8, y9) => n11) (F, [], t6, 0) H (aU [0] (.cons (.refl _) (.cons (.refl _) (.cons (.refl _) (.nil _)))) rfl) ?_;rintro ⟨n11, y7, t8, y9⟩ H;obtain ⟨n11, rfl, H⟩ := bX H;replace H : fK F a1 (cj F a1 n11) y7 y9 = some (r2, r3) := H
   unfold fK at H
   refine af <| af <| ab ?_;show AR _ _ _ _ _ [0, 1, 2, 3] _;refine zm rfl <| zm rfl <| zS rfl (aX ac rfl) <| zS rfl (bB rfl rfl) <| ai <| aD rfl (fun c12 => ?_) (fun c12 => ?_)
   ·replace H := aZ c12 H;refine aF <| bx (X := (List UInt8) × Nat) (fun (y37, t38) => ⟨[(0, S a1), (4, slE Enc.byte y37 (some t38)), (5, i64 y9)], [], [.tok t38 5]⟩) (fun (y37, t38) => fJ y9 (cj F a1 n11) y37 = some (r2, r3)) ?_ ?_
    ·refine aJ <| af <| ab ?_;show AR _ _ _ _ _ [0] _;refine za rfl <| ai <| bx (X := Int) (fun y27 => ⟨[(0, S a1), (4, slE Enc.byte y7 (some t8)), (5, i64 y9), (6, i64 y27)], [], [.tok t8 5]⟩) (fun y27 => fI y7 y9 (cj F a1 n11) y27 = some (r2, r3)) ?_ ?_
     ·refine af <| ab ?_;show AR _ _ _ _ _ [0, 1] _;refine zm rfl <| za rfl <| ai <| aJ <| bE (X := Nat × Int × Int) (fun (n16, y13, y14) => ⟨[(0, S a1), (4, slE Enc.byte y7 (some t8)), (5, i64 y9), (6, i64 y13), (7, i64 y14)], [], [.tok t8 5]⟩) (fun (n16, y13, y14) => cG F a1 y7 y9 (cj F a1 n11) n16 (y13, y14) = some (r2, r3)) (fun (n16, y13, y14) => n16) (F, 0, y9) H (aU [0] (.cons (.refl _) (.cons (.refl _) (.cons (.refl _) (.cons (.refl _) (.cons (.refl _) (.nil _)))))) rfl) ?_;rintro ⟨n16, y13, y14⟩ H;obtain ⟨n16, rfl, H⟩ := bX H;replace H : dF F a1 y7 y9 (cj F a1 n11) (cG F a1 y7 y9 (cj F a1 n11) n16) y13 y14 = some (r2, r3) := H
      unfold dF at H
      refine af <| af ?_;obtain ⟨g17, H⟩ := az H;refine ab ?_;show AR _ _ _ _ _ [0, 1, 2, 3] _;refine zm rfl <| zm rfl <| zS rfl (bk rfl rfl g17) <| zS rfl (bB rfl rfl) <| ai <| aD rfl (fun c18 => ?_) (fun c18 => ?_)
      ·replace H := aZ c18 H;refine aF <| af <| aJ ?_;obtain ⟨g19, H⟩ := az H;obtain ⟨g20, H⟩ := az H;obtain ⟨x21, e22, H⟩ := bb H;obtain ⟨x23, e24, H⟩ := cT H;obtain ⟨g25, H⟩ := az H;refine ab ?_;show AR _ _ _ _ _ [0, 1, 2, 3, 4, 5, 6, 7] _;refine zm rfl <| zS rfl (qg rfl rfl g19) <| zm rfl <| zm rfl <| zS rfl (bo ac rfl rfl g20 e22) <| ap rfl rfl (aW rfl te rfl (pe F x21 x23 e24) ?_);refine zS rfl (bk rfl rfl g25) <| za rfl <| ai ?_;obtain ⟨g26, H⟩ := az H;refine ab ?_;show AR _ _ _ _ _ [0, 1, 2] _;refine zm rfl <| zS rfl (bk rfl rfl g26) <| za rfl <| ai ?_;exact Exists.intro (n16, (64 * y13) + x23, y14 + 1) ⟨H, Nat.lt_succ_self _, aU [0] (.cons (.refl _) (.cons (.refl _) (.cons (.refl _) (.cons (.refl _) (.cons (.refl _) (.nil _)))))) rfl⟩
      ·replace H := ba c18 H;refine bz ?_;exact Exists.intro y13 ⟨H, aU [0] (.cons (.refl _) (.cons (.refl _) (.cons (.refl _) (.cons (.refl _) (.nil _))))) rfl⟩
     rintro y27 H;replace H : fI y7 y9 (cj F a1 n11) y27 = some (r2, r3) := H
     unfold fI at H
     obtain ⟨g29, H⟩ := az H;obtain ⟨g30, H⟩ := az H;obtain ⟨g31, H⟩ := az H;obtain ⟨g32, H⟩ := az H;obtain ⟨g34, H⟩ := az H;obtain ⟨x35, e36, H⟩ := bb H;refine ab ?_;show AR _ _ _ _ _ [0, 1, 2, 3, 4, 5, 6, 7, 8, 9, 10, 11, 12, 13] _;refine zS rfl (ag (av := slE _ _ _) rfl) <| zm rfl <| zS rfl (nY rfl rfl g29) <| zS rfl (gc (by kernel_rfl) au rfl) <| zm rfl <| zS rfl (nY rfl rfl g30) <| zS rfl (mr rfl rfl g31) <| zS rfl (gc (by kernel_rfl) au rfl) <| zm rfl <| zS rfl (mr rfl rfl g32) <| zS rfl (gc (by kernel_rfl) au rfl) <| zR rfl (bh (E := Enc.byte) (bytes := 1) (xs := [.tmp 36, .tmp 40, .tmp 43]) (l := ([Go.Av.toB (y27 / 65536), Go.Av.toB ((y27 / 256) % 256), Go.Av.toB (y27 % 256)] : List UInt8)) aa (by kernel_rfl) rfl rfl (by decide) rfl rfl) <| zX rfl (bA (E := Enc.byte) (bytes := 1) 0 aa aa rfl (by kernel_rfl) rfl rfl rfl rfl g34 e36) ?_;rintro _ _ ⟨t33, rfl, rfl⟩;refine zS rfl (am (av := slE _ _ _) rfl) <| ai ?_;exact Exists.intro (x35, t33) ⟨H, aU [0] (.cons (.refl _) (.cons (.refl _) (.cons (.refl _) (.nil _)))) rfl⟩
    rintro ⟨y37, t38⟩ H;replace H : fJ y9 (cj F a1 n11) y37 = some (r2, r3) := H
    unfold fJ at H
    obtain ⟨g40, H⟩ := az H;refine ab ?_;show AR _ _ _ _ _ [0, 1, 2] _;refine zm rfl <| zS rfl (bk rfl rfl g40) <| za rfl <| ai ?_;exact Exists.intro (n11, y37, t38, y9 + 4) ⟨H, Nat.lt_succ_self _, aU [0] (.cons (.refl _) (.cons (.refl _) (.cons (.refl _) (.nil _)))) rfl⟩
   ·replace H := ba c12 H;refine bz ?_;exact Exists.intro (y7, t8) ⟨H, aU [0] (.cons (.refl _) (.cons (.refl _) (.nil _))) rfl⟩
  rintro ⟨y41, t42⟩ H;replace H : em F a1 y41 = some (r2, r3) := H
  unfold em at H
  refine bx (X := (List UInt8) × Nat) (fun (y66, t67) => ⟨[(0, S a1), (4, slE Enc.byte y66 (some t67))], [], [.tok t67 5]⟩) (fun (y66, t67) => er F a1 y66 = some (r2, r3)) ?_ ?_
  ·refine af <| ab ?_;show AR _ _ _ _ _ [0] _;refine za rfl <| ai <| aJ <| bE (X := Nat × (List UInt8) × Nat × Int) (fun (n48, y44, t45, y46) => ⟨[(0, S a1), (4, slE Enc.byte y44 (some t45)), (8, i64 y46)], [], [.tok t45 5]⟩) (fun (n48, y44, t45, y46) => cH F a1 n48 (y44, y46) = some (r2, r3)) (fun (n48, y44, t45, y46) => n48) (F, y41, t42, 1) H (aU [0] (.cons (.refl _) (.cons (.refl _) (.cons (.refl _) (.nil _)))) rfl) ?_;rintro ⟨n48, y44, t45, y46⟩ H;obtain ⟨n48, rfl, H⟩ := bX H;replace H : dG F a1 (cH F a1 n48) y44 y46 = some (r2, r3) := H
   unfold dG at H
   refine af <| af <| ab ?_;show AR _ _ _ _ _ [0, 1] _;refine zm rfl <| zS rfl (dd rfl rfl) <| ai <| aD rfl (fun c49 => ?_) (fun c49 => ?_)
   ·replace H := aZ c49 H;refine aF <| bx (X := (List UInt8) × Nat) (fun (y62, t63) => ⟨[(0, S a1), (4, slE Enc.byte y62 (some t63)), (8, i64 y46)], [], [.tok t63 5]⟩) (fun (y62, t63) => eo y46 (cH F a1 n48) y62 = some (r2, r3)) ?_ ?_
    ·refine aJ <| af ?_;obtain ⟨g51, H⟩ := cb H;obtain ⟨g52, H⟩ := cb H;obtain ⟨x53, e54, H⟩ := bb H;refine ab ?_;show AR _ _ _ _ _ [0, 1, 2, 3, 4, 5, 6, 7, 8, 9, 10, 11, 12] _;refine zm rfl <| zS rfl (aX ac rfl) <| zm rfl <| zS rfl (dl rfl rfl) <| zm rfl <| aQ (l := []) 62 (B ((decide (y46 ≤ (a1.length : Int))) && (decide (x53 = 61)))) (fun K => ?_) ?_
     ·rcases ah (decide (y46 ≤ (a1.length : Int))) with h50 | h50
      ·refine zM h50 rfl <| zM h50 rfl <| zU h50 rfl (aX ac rfl) <| zM h50 rfl <| zU h50 rfl (jz rfl rfl (g51 h50)) <| zU h50 rfl (bo ac rfl rfl (g52 h50) e54) <| zU h50 rfl (dt (a := x53) (b := 61) rfl rfl) <| zS rfl (ax (av := .v _) rfl h50 rfl) ?_;exact K _ 7 _ (an (cc h50)) rfl rfl
      ·refine zF h50 rfl <| zF h50 rfl <| zF h50 rfl <| zF h50 rfl <| zF h50 rfl <| zF h50 rfl <| zF h50 rfl <| zS rfl (ay (av := .v _) rfl h50 rfl) ?_;exact K _ 7 _ (an (cd h50)) rfl rfl
     refine ai <| aD rfl (fun c55 => ?_) (fun c55 => ?_)
     ·replace H := aZ c55 H;obtain ⟨g56, H⟩ := az H;obtain ⟨g57, H⟩ := az H;obtain ⟨x58, e59, H⟩ := bb H;obtain ⟨g61, H⟩ := az H;refine ab ?_;show AR _ _ _ _ _ [0, 1, 2, 3, 4, 5, 6] _;refine zS rfl (ag (av := slE _ _ _) rfl) <| zS rfl (ag (av := slE _ _ _) rfl) <| zS rfl (aH aa rfl) <| zS rfl (jz rfl rfl g56) <| zS rfl (lu (E := Enc.byte) aa (by kernel_rfl) rfl rfl g57 e59) <| zX rfl (ny (E := Enc.byte) (bytes := 1) aa aa rfl (by kernel_rfl) rfl rfl rfl g61) ?_;rintro _ _ ⟨t60, rfl, rfl⟩;refine zS rfl (am (av := slE _ _ _) rfl) <| ai ?_;exact Exists.intro (x58, t60) ⟨H, aU [0] (.cons (.refl _) (.cons (.refl _) (.cons (.refl _) (.nil _)))) rfl⟩
     ·replace H := ba c55 H;refine aF ?_;exact Exists.intro (y44, t45) ⟨H, aU [0] (.cons (.refl _) (.cons (.refl _) (.cons (.refl _) (.nil _)))) rfl⟩
    rintro ⟨y62, t63⟩ H;replace H : eo y46 (cH F a1 n48) y62 = some (r2, r3) := H
    unfold eo at H
    obtain ⟨g65, H⟩ := az H;refine ab ?_;show AR _ _ _ _ _ [0, 1, 2] _;refine zm rfl <| zS rfl (bk rfl rfl g65) <| za rfl <| ai ?_;exact Exists.intro (n48, y62, t63, y46 + 1) ⟨H, Nat.lt_succ_self _, aU [0] (.cons (.refl _) (.cons (.refl _) (.cons (.refl _) (.nil _)))) rfl⟩
   ·replace H := ba c49 H;refine bz ?_;exact Exists.intro (y44, t45) ⟨H, aU [0] (.cons (.refl _) (.cons (.refl _) (.nil _))) rfl⟩
  rintro ⟨y66, t67⟩ H;replace H : er F a1 y66 = some (r2, r3) := H
  unfold er at H
  refine af <| af ?_;obtain ⟨x69, e70, H⟩ := cT H;refine ab ?_;show AR _ _ _ _ _ [0, 1, 2, 3] _;refine zS rfl (ag (av := slE _ _ _) rfl) <| ap rfl rfl (aW rfl oB rfl (oo F y66 (some t67) x69 e70) ?_);refine zm rfl <| zS rfl (eb rfl rfl) <| ai <| aD rfl (fun c71 => ?_) (fun c71 => ?_)
  ·replace H := aZ c71 H;refine af <| ab ?_;show AR _ _ _ _ _ [0, 1] _;refine za rfl <| za rfl <| ai <| aP ?_;obtain ⟨rfl, rfl⟩ := fX H;exact And.intro rfl (Exists.intro _ (Exists.intro _ ⟨bH rfl (.nil _) (.refl _), aO [] rfl, rfl, rfl⟩))
  ·replace H := ba c71 H;refine aF <| af <| ab ?_;show AR _ _ _ _ _ [0, 1, 2] _;refine zS rfl (ag (av := slE _ _ _) rfl) <| zS rfl (am (av := slE _ _ _) rfl) <| za rfl <| ai <| aP ?_;obtain ⟨rfl, rfl⟩ := fX H;exact And.intro rfl (Exists.intro _ (Exists.intro _ ⟨bH rfl (.tok _ _ _) (.refl _), aO [] rfl, rfl, rfl⟩))
set_option maxRecDepth 100000 in
set_option maxHeartbeats 1000000 in
theorem rq (F : Nat) (a1 : List UInt8) (r2 : Bool) (H : kL F a1 = some r2) : ACalls Tryz.prog 92 [S a1] [] (Ret (B r2) []) := by
 unfold kL at H
 refine aw Tryz.func92 rfl rfl ?_;show AW _ _ 49 _ _ _;refine af <| ab ?_;show AR _ _ _ _ _ [0] _;refine za rfl <| ai <| bx (X := Unit) (fun _ => ⟨[(0, S a1)], [], []⟩) (fun _ => gQ a1 = some r2) ?_ ?_
 ·refine af <| ab ?_;show AR _ _ _ _ _ [0] _;refine za rfl <| ai <| aJ <| bE (X := Nat × Int) (fun (n5, y3) => ⟨[(0, S a1), (3, i64 y3)], [], []⟩) (fun (n5, y3) => gR a1 n5 y3 = some r2) (fun (n5, y3) => n5) (F, 0) H (aU [] (.cons (.refl _) (.cons (.refl _) (.nil _))) rfl) ?_;rintro ⟨n5, y3⟩ H;obtain ⟨n5, rfl, H⟩ := bX H;replace H : gS a1 (gR a1 n5) y3 = some r2 := H
  unfold gS at H
  refine af <| af <| ab ?_;show AR _ _ _ _ _ [0, 1, 2, 3] _;refine zm rfl <| zm rfl <| zS rfl (aX ac rfl) <| zS rfl (bB rfl rfl) <| ai <| aD rfl (fun c6 => ?_) (fun c6 => ?_)
  ·replace H := aZ c6 H;refine aF <| af <| aJ <| af ?_;obtain ⟨g7, H⟩ := az H;obtain ⟨x8, e9, H⟩ := bb H;refine ab ?_;show AR _ _ _ _ _ [0, 1, 2, 3] _;refine zm rfl <| zm rfl <| zS rfl (bo ac rfl rfl g7 e9) <| za rfl <| ai <| af <| ab ?_;show AR _ _ _ _ _ [0, 1, 2, 3, 4, 5, 6, 7, 8, 9, 10, 11, 12, 13, 14, 15, 16, 17, 18, 19, 20, 21, 22, 23, 24, 25, 26] _;refine zm rfl <| zS rfl (dl rfl rfl) <| zm rfl <| aQ (l := [6, 7, 8, 9, 10, 11, 12, 13, 14, 15, 16, 17, 18, 19, 20, 21, 22, 23, 24, 25, 26]) 19 (B ((decide (97 ≤ (x8.toNat : Int))) && (decide ((x8.toNat : Int) ≤ 122)))) (fun K => ?_) ?_
   ·rcases ah (decide (97 ≤ (x8.toNat : Int))) with h10 | h10
    ·refine zM h10 rfl <| zU h10 rfl (dd rfl rfl) <| zS rfl (ax (av := .v _) rfl h10 rfl) ?_;exact K _ 2 _ (an (cc h10)) rfl rfl
    ·refine zF h10 rfl <| zF h10 rfl <| zS rfl (ay (av := .v _) rfl h10 rfl) ?_;exact K _ 2 _ (an (cd h10)) rfl rfl
   refine zm rfl <| aQ (l := [14, 15, 16, 17, 18, 19, 20, 21, 22, 23, 24, 25, 26]) 27 (B (((decide (97 ≤ (x8.toNat : Int))) && (decide ((x8.toNat : Int) ≤ 122))) || ((decide (65 ≤ (x8.toNat : Int))) && (decide ((x8.toNat : Int) ≤ 90))))) (fun K => ?_) ?_
   ·rcases ah ((decide (97 ≤ (x8.toNat : Int))) && (decide ((x8.toNat : Int) ≤ 122))) with h11 | h11
    ·refine zF h11 rfl <| zF h11 rfl <| zF h11 rfl <| gU rfl rfl rfl rfl rfl <| gU rfl rfl rfl rfl rfl <| zF h11 rfl <| zS rfl (ax (av := .v _) rfl h11 rfl) ?_;exact K _ 6 _ (an (dC h11)) rfl rfl
    ·refine zM h11 rfl <| zU h11 rfl (dl rfl rfl) <| zM h11 rfl <| aQ (l := [13, 14, 15, 16, 17, 18, 19, 20, 21, 22, 23, 24, 25, 26]) 26 (B ((decide (65 ≤ (x8.toNat : Int))) && (decide ((x8.toNat : Int) ≤ 90)))) (fun K => ?_) ?_
     ·rcases ah (decide (65 ≤ (x8.toNat : Int))) with h12 | h12
      ·refine zM h12 rfl <| zU h12 rfl (dd rfl rfl) <| zU h11 rfl (ax (av := .v _) rfl h12 rfl) ?_;exact K _ 2 _ (an (cc h12)) rfl rfl
      ·refine zF h12 rfl <| zF h12 rfl <| zU h11 rfl (ay (av := .v _) rfl h12 rfl) ?_;exact K _ 2 _ (an (cd h12)) rfl rfl
     refine zS rfl (ay (av := .v _) rfl h11 rfl) ?_;exact K _ 4 _ (an (dD h11)) rfl rfl
   refine zm rfl <| aQ (l := [22, 23, 24, 25, 26]) 35 (B ((((decide (97 ≤ (x8.toNat : Int))) && (decide ((x8.toNat : Int) ≤ 122))) || ((decide (65 ≤ (x8.toNat : Int))) && (decide ((x8.toNat : Int) ≤ 90)))) || ((decide (48 ≤ (x8.toNat : Int))) && (decide ((x8.toNat : Int) ≤ 57))))) (fun K => ?_) ?_
   ·rcases ah (((decide (97 ≤ (x8.toNat : Int))) && (decide ((x8.toNat : Int) ≤ 122))) || ((decide (65 ≤ (x8.toNat : Int))) && (decide ((x8.toNat : Int) ≤ 90)))) with h13 | h13
    ·refine zF h13 rfl <| zF h13 rfl <| zF h13 rfl <| gU rfl rfl rfl rfl rfl <| gU rfl rfl rfl rfl rfl <| zF h13 rfl <| zS rfl (ax (av := .v _) rfl h13 rfl) ?_;exact K _ 6 _ (an (dC h13)) rfl rfl
    ·refine zM h13 rfl <| zU h13 rfl (dl rfl rfl) <| zM h13 rfl <| aQ (l := [21, 22, 23, 24, 25, 26]) 34 (B ((decide (48 ≤ (x8.toNat : Int))) && (decide ((x8.toNat : Int) ≤ 57)))) (fun K => ?_) ?_
     ·rcases ah (decide (48 ≤ (x8.toNat : Int))) with h14 | h14
      ·refine zM h14 rfl <| zU h14 rfl (dd rfl rfl) <| zU h13 rfl (ax (av := .v _) rfl h14 rfl) ?_;exact K _ 2 _ (an (cc h14)) rfl rfl
      ·refine zF h14 rfl <| zF h14 rfl <| zU h13 rfl (ay (av := .v _) rfl h14 rfl) ?_;exact K _ 2 _ (an (cd h14)) rfl rfl
     refine zS rfl (ay (av := .v _) rfl h13 rfl) ?_;exact K _ 4 _ (an (dD h13)) rfl rfl
   refine zm rfl <| aQ (l := [26]) 39 (B (((((decide (97 ≤ (x8.toNat : Int))) && (decide ((x8.toNat : Int) ≤ 122))) || ((decide (65 ≤ (x8.toNat : Int))) && (decide ((x8.toNat : Int) ≤ 90)))) || ((decide (48 ≤ (x8.toNat : Int))) && (decide ((x8.toNat : Int) ≤ 57)))) || (decide (x8 = 45)))) (fun K => ?_) ?_
   ·rcases ah ((((decide (97 ≤ (x8.toNat : Int))) && (decide ((x8.toNat : Int) ≤ 122))) || ((decide (65 ≤ (x8.toNat : Int))) && (decide ((x8.toNat : Int) ≤ 90)))) || ((decide (48 ≤ (x8.toNat : Int))) && (decide ((x8.toNat : Int) ≤ 57)))) with h15 | h15
    ·refine zF h15 rfl <| zF h15 rfl <| zS rfl (ax (av := .v _) rfl h15 rfl) ?_;exact K _ 2 _ (an (dC h15)) rfl rfl
    ·refine zM h15 rfl <| zU h15 rfl (dt (a := x8) (b := 45) rfl rfl) <| zS rfl (ay (av := .v _) rfl h15 rfl) ?_;exact K _ 2 _ (an (dD h15)) rfl rfl
   refine zS rfl (cx rfl) <| ai <| aD rfl (fun c16 => ?_) (fun c16 => ?_)
   ·replace H := aZ c16 H;refine af <| ab ?_;show AR _ _ _ _ _ [0] _;refine za rfl <| ai <| aP ?_;obtain rfl := ak H;exact And.intro rfl (Exists.intro _ (Exists.intro _ ⟨aV rfl (.refl _), aO [] rfl, rfl, rfl⟩))
   ·replace H := ba c16 H;refine aF ?_;obtain ⟨g17, H⟩ := az H;refine ab ?_;show AR _ _ _ _ _ [0, 1, 2] _;refine zm rfl <| zS rfl (bk rfl rfl g17) <| za rfl <| ai ?_;exact Exists.intro (n5, y3 + 1) ⟨H, Nat.lt_succ_self _, aU [] (.cons (.refl _) (.cons (.refl _) (.nil _))) rfl⟩
  ·replace H := ba c6 H;refine bz ?_;exact Exists.intro () ⟨H, aU [] (.cons (.refl _) (.nil _)) rfl⟩
 rintro _ H;replace H : gQ a1 = some r2 := H
 unfold gQ at H
 refine af <| ab ?_;show AR _ _ _ _ _ [0, 1, 2, 3, 4, 5, 6, 7, 8] _;refine zm rfl <| zS rfl (aX ac rfl) <| zS rfl (dl rfl rfl) <| zm rfl <| aQ (l := [8]) 48 (B ((decide (1 ≤ (a1.length : Int))) && (decide ((a1.length : Int) ≤ 40)))) (fun K => ?_) ?_
 ·rcases ah (decide (1 ≤ (a1.length : Int))) with h19 | h19
  ·refine zM h19 rfl <| zU h19 rfl (aX ac rfl) <| zU h19 rfl (dd rfl rfl) <| zS rfl (ax (av := .v _) rfl h19 rfl) ?_;exact K _ 3 _ (an (cc h19)) rfl rfl
  ·refine zF h19 rfl <| zF h19 rfl <| zF h19 rfl <| zS rfl (ay (av := .v _) rfl h19 rfl) ?_;exact K _ 3 _ (an (cd h19)) rfl rfl
 refine za rfl <| ai <| aP ?_;obtain rfl := ak H;exact And.intro rfl (Exists.intro _ (Exists.intro _ ⟨aV rfl (.refl _), aO [] rfl, rfl, rfl⟩))
set_option maxRecDepth 100000 in
set_option maxHeartbeats 1000000 in
theorem qm (F : Nat) (a1 : List UInt8) (r2 : Bool) (H : jZ F a1 = some r2) : ACalls Tryz.prog 115 [S a1] [] (Ret (B r2) []) := by
 unfold jZ at H
 refine aw Tryz.func115 rfl rfl ?_;show AW _ _ 64 _ _ _;refine af <| ab ?_;show AR _ _ _ _ _ [0] _;refine za rfl <| ai <| bx (X := Unit) (fun _ => ⟨[(0, S a1)], [], []⟩) (fun _ => dE a1 = some r2) ?_ ?_
 ·refine af <| ab ?_;show AR _ _ _ _ _ [0] _;refine za rfl <| ai <| aJ <| bE (X := Nat × Int) (fun (n5, y3) => ⟨[(0, S a1), (3, i64 y3)], [], []⟩) (fun (n5, y3) => fG a1 n5 y3 = some r2) (fun (n5, y3) => n5) (F, 0) H (aU [] (.cons (.refl _) (.cons (.refl _) (.nil _))) rfl) ?_;rintro ⟨n5, y3⟩ H;obtain ⟨n5, rfl, H⟩ := bX H;replace H : fH a1 (fG a1 n5) y3 = some r2 := H
  unfold fH at H
  refine af <| af <| ab ?_;show AR _ _ _ _ _ [0, 1, 2, 3] _;refine zm rfl <| zm rfl <| zS rfl (aX ac rfl) <| zS rfl (bB rfl rfl) <| ai <| aD rfl (fun c6 => ?_) (fun c6 => ?_)
  ·replace H := aZ c6 H;refine aF <| af <| aJ <| af <| af ?_;obtain ⟨g7, H⟩ := az H;obtain ⟨x8, e9, H⟩ := bb H;obtain ⟨g11, H⟩ := cb H;obtain ⟨x12, e13, H⟩ := bb H;refine ab ?_;show AR _ _ _ _ _ [0, 1, 2, 3, 4, 5, 6, 7, 8, 9] _;refine zm rfl <| zm rfl <| zS rfl (bo ac rfl rfl g7 e9) <| zS rfl (bB rfl rfl) <| zm rfl <| aQ (l := []) 19 (B ((decide ((x8.toNat : Int) < 32)) || (decide (126 < (x12.toNat : Int))))) (fun K => ?_) ?_
   ·rcases ah (decide ((x8.toNat : Int) < 32)) with h10 | h10
    ·refine zF h10 rfl <| zF h10 rfl <| zF h10 rfl <| zF h10 rfl <| zS rfl (ax (av := .v _) rfl h10 rfl) ?_;exact K _ 4 _ (an (dC h10)) rfl rfl
    ·refine zM h10 rfl <| zM h10 rfl <| zU h10 rfl (bo ac rfl rfl (g11 (nf h10)) e13) <| zU h10 rfl (cN rfl rfl) <| zS rfl (ay (av := .v _) rfl h10 rfl) ?_;exact K _ 4 _ (an (dD h10)) rfl rfl
   refine ai <| aD rfl (fun c14 => ?_) (fun c14 => ?_)
   ·replace H := aZ c14 H;refine af <| ab ?_;show AR _ _ _ _ _ [0] _;refine za rfl <| ai <| aP ?_;obtain rfl := ak H;exact And.intro rfl (Exists.intro _ (Exists.intro _ ⟨aV rfl (.refl _), aO [] rfl, rfl, rfl⟩))
   ·replace H := ba c14 H;refine aF <| af ?_;obtain ⟨g16, H⟩ := cb H;obtain ⟨x17, e18, H⟩ := bb H;obtain ⟨g20, H⟩ := cb H;obtain ⟨g21, H⟩ := cb H;obtain ⟨x22, e23, H⟩ := bb H;obtain ⟨g25, H⟩ := cb H;obtain ⟨x26, e27, H⟩ := bb H;obtain ⟨g29, H⟩ := cb H;obtain ⟨g30, H⟩ := cb H;obtain ⟨x31, e32, H⟩ := bb H;refine ab ?_;show AR _ _ _ _ _ [0, 1, 2, 3, 4, 5, 6, 7, 8, 9, 10, 11, 12, 13, 14, 15, 16, 17, 18, 19, 20, 21, 22, 23, 24, 25, 26, 27] _;refine zm rfl <| zS rfl (cN rfl rfl) <| zm rfl <| aQ (l := []) 47 (B ((decide (0 < y3)) && (((decide (x17 = 32)) && (decide (x22 = 32))) || ((decide (x26 = 63)) && (decide (x31 = 61)))))) (fun K => ?_) ?_
    ·rcases ah (decide (0 < y3)) with h15 | h15
     ·refine zM h15 rfl <| zM h15 rfl <| zU h15 rfl (bo ac rfl rfl (g16 h15) e18) <| zU h15 rfl (dt (a := x17) (b := 32) rfl rfl) <| zM h15 rfl <| aQ (l := [14, 15, 16, 17, 18, 19, 20, 21, 22, 23, 24, 25, 26, 27]) 33 (B ((decide (x17 = 32)) && (decide (x22 = 32)))) (fun K => ?_) ?_
      ·rcases ah (decide (x17 = 32)) with h19 | h19
       ·refine zM h19 rfl <| zM h19 rfl <| zU h19 rfl (jz rfl rfl (g20 (mn h15 h19))) <| zU h19 rfl (bo ac rfl rfl (g21 (mn h15 h19)) e23) <| zU h19 rfl (dt (a := x22) (b := 32) rfl rfl) <| zU h15 rfl (ax (av := .v _) rfl h19 rfl) ?_;exact K _ 5 _ (an (cc h19)) rfl rfl
       ·refine zF h19 rfl <| zF h19 rfl <| zF h19 rfl <| zF h19 rfl <| zF h19 rfl <| zU h15 rfl (ay (av := .v _) rfl h19 rfl) ?_;exact K _ 5 _ (an (cd h19)) rfl rfl
      refine zM h15 rfl <| aQ (l := [27]) 46 (B (((decide (x17 = 32)) && (decide (x22 = 32))) || ((decide (x26 = 63)) && (decide (x31 = 61))))) (fun K => ?_) ?_
      ·rcases ah ((decide (x17 = 32)) && (decide (x22 = 32))) with h24 | h24
       ·refine zF h24 rfl <| zF h24 rfl <| zF h24 rfl <| zF h24 rfl <| zF h24 rfl <| gU rfl rfl rfl rfl rfl <| gU rfl rfl rfl rfl rfl <| gU rfl rfl rfl rfl rfl <| gU rfl rfl rfl rfl rfl <| gU rfl rfl rfl rfl rfl <| zF h24 rfl <| zU h15 rfl (ax (av := .v _) rfl h24 rfl) ?_;exact K _ 11 _ (an (dC h24)) rfl rfl
       ·refine zM h24 rfl <| zM h24 rfl <| zU h24 rfl (bo ac rfl rfl (g25 (mn h15 (nf h24))) e27) <| zU h24 rfl (dt (a := x26) (b := 63) rfl rfl) <| zM h24 rfl <| aQ (l := [26, 27]) 45 (B ((decide (x26 = 63)) && (decide (x31 = 61)))) (fun K => ?_) ?_
        ·rcases ah (decide (x26 = 63)) with h28 | h28
         ·refine zM h28 rfl <| zM h28 rfl <| zU h28 rfl (jz rfl rfl (g29 (mn (mn h15 (nf h24)) h28))) <| zU h28 rfl (bo ac rfl rfl (g30 (mn (mn h15 (nf h24)) h28)) e32) <| zU h28 rfl (dt (a := x31) (b := 61) rfl rfl) <| zU h24 rfl (ax (av := .v _) rfl h28 rfl) ?_;exact K _ 5 _ (an (cc h28)) rfl rfl
         ·refine zF h28 rfl <| zF h28 rfl <| zF h28 rfl <| zF h28 rfl <| zF h28 rfl <| zU h24 rfl (ay (av := .v _) rfl h28 rfl) ?_;exact K _ 5 _ (an (cd h28)) rfl rfl
        refine zU h15 rfl (ay (av := .v _) rfl h24 rfl) ?_;exact K _ 6 _ (an (dD h24)) rfl rfl
      refine zS rfl (ax (av := .v _) rfl h15 rfl) ?_;exact K _ 8 _ (an (cc h15)) rfl rfl
     ·refine zF h15 rfl <| zF h15 rfl <| zF h15 rfl <| zF h15 rfl <| zF h15 rfl <| gU rfl rfl rfl rfl rfl <| gU rfl rfl rfl rfl rfl <| gU rfl rfl rfl rfl rfl <| gU rfl rfl rfl rfl rfl <| gU rfl rfl rfl rfl rfl <| zF h15 rfl <| zF h15 rfl <| gU rfl rfl rfl rfl rfl <| gU rfl rfl rfl rfl rfl <| gU rfl rfl rfl rfl rfl <| gU rfl rfl rfl rfl rfl <| gU rfl rfl rfl rfl rfl <| gU rfl rfl rfl rfl rfl <| gU rfl rfl rfl rfl rfl <| gU rfl rfl rfl rfl rfl <| gU rfl rfl rfl rfl rfl <| gU rfl rfl rfl rfl rfl <| gU rfl rfl rfl rfl rfl <| zF h15 rfl <| zS rfl (ay (av := .v _) rfl h15 rfl) ?_;exact K _ 24 _ (an (cd h15)) rfl rfl
    refine ai <| aD rfl (fun c33 => ?_) (fun c33 => ?_)
    ·replace H := aZ c33 H;refine af <| ab ?_;show AR _ _ _ _ _ [0] _;refine za rfl <| ai <| aP ?_;obtain rfl := ak H;exact And.intro rfl (Exists.intro _ (Exists.intro _ ⟨aV rfl (.refl _), aO [] rfl, rfl, rfl⟩))
    ·replace H := ba c33 H;refine aF ?_;obtain ⟨g34, H⟩ := az H;refine ab ?_;show AR _ _ _ _ _ [0, 1, 2] _;refine zm rfl <| zS rfl (bk rfl rfl g34) <| za rfl <| ai ?_;exact Exists.intro (n5, y3 + 1) ⟨H, Nat.lt_succ_self _, aU [] (.cons (.refl _) (.cons (.refl _) (.nil _))) rfl⟩
  ·replace H := ba c6 H;refine bz ?_;exact Exists.intro () ⟨H, aU [] (.cons (.refl _) (.nil _)) rfl⟩
 rintro _ H;replace H : dE a1 = some r2 := H
 unfold dE at H
 refine af ?_;obtain ⟨g37, H⟩ := cb H;obtain ⟨x38, e39, H⟩ := bb H;obtain ⟨g41, H⟩ := cb H;obtain ⟨g42, H⟩ := cb H;obtain ⟨x43, e44, H⟩ := bb H;refine ab ?_;show AR _ _ _ _ _ [0, 1, 2, 3, 4, 5, 6, 7, 8, 9, 10, 11, 12, 13, 14, 15, 16] _;refine zm rfl <| zS rfl (aX ac rfl) <| zS rfl (cN rfl rfl) <| zm rfl <| aQ (l := [8, 9, 10, 11, 12, 13, 14, 15, 16]) 55 (B ((decide (0 < (a1.length : Int))) && (!decide (x38 = 32)))) (fun K => ?_) ?_
 ·rcases ah (decide (0 < (a1.length : Int))) with h36 | h36
  ·refine zM h36 rfl <| zU h36 rfl (bo ac rfl rfl (g37 h36) e39) <| zU h36 rfl (mt (a := x38) (b := 32) rfl rfl) <| zS rfl (ax (av := .v _) rfl h36 rfl) ?_;exact K _ 3 _ (an (cc h36)) rfl rfl
  ·refine zF h36 rfl <| zF h36 rfl <| zF h36 rfl <| zS rfl (ay (av := .v _) rfl h36 rfl) ?_;exact K _ 3 _ (an (cd h36)) rfl rfl
 refine zm rfl <| aQ (l := [16]) 63 (B (((decide (0 < (a1.length : Int))) && (!decide (x38 = 32))) && (!decide (x43 = 32)))) (fun K => ?_) ?_
 ·rcases ah ((decide (0 < (a1.length : Int))) && (!decide (x38 = 32))) with h40 | h40
  ·refine zM h40 rfl <| zM h40 rfl <| zU h40 rfl (aX ac rfl) <| zU h40 rfl (jz rfl rfl (g41 h40)) <| zU h40 rfl (bo ac rfl rfl (g42 h40) e44) <| zU h40 rfl (mt (a := x43) (b := 32) rfl rfl) <| zS rfl (ax (av := .v _) rfl h40 rfl) ?_;exact K _ 6 _ (an (cc h40)) rfl rfl
  ·refine zF h40 rfl <| zF h40 rfl <| zF h40 rfl <| zF h40 rfl <| zF h40 rfl <| zF h40 rfl <| zS rfl (ay (av := .v _) rfl h40 rfl) ?_;exact K _ 6 _ (an (cd h40)) rfl rfl
 refine za rfl <| ai <| aP ?_;obtain rfl := ak H;exact And.intro rfl (Exists.intro _ (Exists.intro _ ⟨aV rfl (.refl _), aO [] rfl, rfl, rfl⟩))
set_option maxRecDepth 100000 in
set_option maxHeartbeats 1000000 in
theorem rm (F : Nat) (a1 : List UInt8) (r2 : Int) (H : kJ F a1 = some r2) : ACalls Tryz.prog 117 [S a1] [] (Ret (i64 r2) []) := by
 unfold kJ at H
 refine aw Tryz.func117 rfl rfl ?_;show AW _ _ 24 _ _ _;refine af <| ab ?_;show AR _ _ _ _ _ [0] _;refine za rfl <| ai <| af <| af <| ab ?_;show AR _ _ _ _ _ [0, 1, 2] _;refine zm rfl <| zS rfl (aX ac rfl) <| zS rfl (dd rfl rfl) <| ai <| aD rfl (fun c3 => ?_) (fun c3 => ?_)
 ·replace H := aZ c3 H;refine af <| ab ?_;show AR _ _ _ _ _ [0, 1, 2] _;refine zm rfl <| zS rfl (aX ac rfl) <| za rfl <| ai <| aP ?_;obtain rfl := ak H;exact And.intro rfl (Exists.intro _ (Exists.intro _ ⟨aV rfl (.refl _), aO [] rfl, rfl, rfl⟩))
 ·replace H := ba c3 H;refine aF <| bx (X := Unit) (fun _ => ⟨[], [], []⟩) (fun _ => jN = some r2) ?_ ?_
  ·refine af <| ab ?_;show AR _ _ _ _ _ [0] _;refine za rfl <| ai <| aJ <| bE (X := Nat × Int) (fun (n6, y4) => ⟨[(0, S a1), (3, i64 y4)], [], []⟩) (fun (n6, y4) => gK a1 n6 y4 = some r2) (fun (n6, y4) => n6) (F, 45) H (aU [] (.cons (.refl _) (.cons (.refl _) (.nil _))) rfl) ?_;rintro ⟨n6, y4⟩ H;obtain ⟨n6, rfl, H⟩ := bX H;replace H : gL a1 (gK a1 n6) y4 = some r2 := H
   unfold gL at H
   refine af <| af <| ab ?_;show AR _ _ _ _ _ [0, 1] _;refine zm rfl <| zS rfl (dl rfl rfl) <| ai <| aD rfl (fun c7 => ?_) (fun c7 => ?_)
   ·replace H := aZ c7 H;refine aF <| af <| aJ <| af ?_;obtain ⟨g8, H⟩ := az H;obtain ⟨x9, e10, H⟩ := bb H;obtain ⟨g12, H⟩ := cb H;obtain ⟨x13, e14, H⟩ := bb H;refine ab ?_;show AR _ _ _ _ _ [0, 1, 2, 3, 4, 5, 6, 7, 8, 9] _;refine zm rfl <| zm rfl <| zS rfl (bo ac rfl rfl g8 e10) <| zS rfl (bB rfl rfl) <| zm rfl <| aQ (l := []) 22 (B ((decide ((x9.toNat : Int) < 128)) || (decide (191 < (x13.toNat : Int))))) (fun K => ?_) ?_
    ·rcases ah (decide ((x9.toNat : Int) < 128)) with h11 | h11
     ·refine zF h11 rfl <| zF h11 rfl <| zF h11 rfl <| zF h11 rfl <| zS rfl (ax (av := .v _) rfl h11 rfl) ?_;exact K _ 4 _ (an (dC h11)) rfl rfl
     ·refine zM h11 rfl <| zM h11 rfl <| zU h11 rfl (bo ac rfl rfl (g12 (nf h11)) e14) <| zU h11 rfl (cN rfl rfl) <| zS rfl (ay (av := .v _) rfl h11 rfl) ?_;exact K _ 4 _ (an (dD h11)) rfl rfl
    refine ai <| aD rfl (fun c15 => ?_) (fun c15 => ?_)
    ·replace H := aZ c15 H;refine af <| ab ?_;show AR _ _ _ _ _ [0, 1] _;refine zm rfl <| za rfl <| ai <| aP ?_;obtain rfl := ak H;exact And.intro rfl (Exists.intro _ (Exists.intro _ ⟨aV rfl (.refl _), aO [] rfl, rfl, rfl⟩))
    ·replace H := ba c15 H;refine aF ?_;obtain ⟨g16, H⟩ := az H;refine ab ?_;show AR _ _ _ _ _ [0, 1, 2] _;refine zm rfl <| zS rfl (jz rfl rfl g16) <| za rfl <| ai ?_;exact Exists.intro (n6, y4 - 1) ⟨H, Nat.lt_succ_self _, aU [] (.cons (.refl _) (.cons (.refl _) (.nil _))) rfl⟩
   ·replace H := ba c7 H;refine bz ?_;exact Exists.intro () ⟨H, aU [] (.nil _) rfl⟩
  rintro _ H;replace H : jN = some r2 := H
  unfold jN at H
  refine af <| ab ?_;show AR _ _ _ _ _ [0] _;refine za rfl <| ai <| aP ?_;obtain rfl := ak H;exact And.intro rfl (Exists.intro _ (Exists.intro _ ⟨aV rfl (.refl _), aO [] rfl, rfl, rfl⟩))
set_option maxRecDepth 100000 in
set_option maxHeartbeats 1000000 in
theorem ql (F : Nat) (a1 : List UInt8) (r2 : List (List UInt8)) (H : jY F a1 = some r2) : ACalls Tryz.prog 93 [S a1] [] (Ret (slE Enc.str r2 none) []) := by
 unfold jY at H
 refine aw Tryz.func93 rfl rfl ?_;show AW _ _ 30 _ _ _;refine af <| ab ?_;show AR _ _ _ _ _ [0] _;refine za rfl <| ai <| af ?_;obtain ⟨x3, e4, H⟩ := cT H;refine ab ?_;show AR _ _ _ _ _ [0, 1, 2] _;refine zm rfl <| ap rfl rfl (aW rfl tv rfl (qm F a1 x3 e4) ?_);refine za rfl <| ai <| af <| af <| ab ?_;show AR _ _ _ _ _ [0] _;refine zm rfl <| ai <| aD rfl (fun c5 => ?_) (fun c5 => ?_)
 ·replace H := aZ c5 H;refine af ?_;obtain ⟨x6, e7, H⟩ := cT H;refine ab ?_;show AR _ _ _ _ _ [0, 1, 2] _;refine zm rfl <| ap rfl rfl (aW rfl tu rfl (qp F a1 32 x6 e7) ?_);refine zS rfl (am (av := slE _ _ _) rfl) <| ai <| aP ?_;obtain rfl := ak H;exact And.intro rfl (Exists.intro _ (Exists.intro _ ⟨aV rfl (.refl _), aO [] rfl, rfl, rfl⟩))
 ·replace H := ba c5 H;refine aF <| af <| ab ?_;show AR _ _ _ _ _ [0] _;refine za rfl <| ai ?_
  refine bL 4 1 9 rfl fun t8 => ?_
  show AW _ _ _ _ _ ⟨(4, slE Enc.str [] (some t8)) :: _, _, _⟩;refine bx (X := (List (List UInt8)) × Nat) (fun (y37, t38) => ⟨[(4, slE Enc.str y37 (some t38))], [], [.tok t38 9]⟩) (fun (y37, t38) => iQ y37 = some r2) ?_ ?_
  ·refine aJ <| bE (X := Nat × (List UInt8) × (List (List UInt8)) × Nat) (fun (n13, y9, y10, t11) => ⟨[(0, S y9), (4, slE Enc.str y10 (some t11))], [], [.tok t11 9]⟩) (fun (n13, y9, y10, t11) => fE F n13 (y9, y10) = some r2) (fun (n13, y9, y10, t11) => n13) (F, a1, [], t8) H (aU [0] (.cons (.refl _) (.cons (.refl _) (.nil _))) rfl) ?_;rintro ⟨n13, y9, y10, t11⟩ H;obtain ⟨n13, rfl, H⟩ := bX H;replace H : fF F (fE F n13) y9 y10 = some r2 := H
   unfold fF at H
   refine af <| af <| ab ?_;show AR _ _ _ _ _ [0, 1, 2] _;refine zm rfl <| zS rfl (aX ac rfl) <| zS rfl (cN rfl rfl) <| ai <| aD rfl (fun c14 => ?_) (fun c14 => ?_)
   ·replace H := aZ c14 H;refine aF <| aJ <| af ?_;obtain ⟨x15, e16, H⟩ := cT H;refine ab ?_;show AR _ _ _ _ _ [0, 1, 2] _;refine zm rfl <| ap rfl rfl (aW rfl ts rfl (rm F y9 x15 e16) ?_);refine za rfl <| ai <| af ?_;obtain ⟨g17, H⟩ := az H;obtain ⟨x18, e19, H⟩ := bb H;obtain ⟨g20, H⟩ := az H;obtain ⟨x22, e23, H⟩ := cT H;obtain ⟨g24, H⟩ := az H;obtain ⟨x25, e26, H⟩ := bb H;obtain ⟨g27, H⟩ := az H;obtain ⟨x28, e29, H⟩ := bb H;obtain ⟨g31, H⟩ := az H;obtain ⟨x32, e33, H⟩ := bb H;refine ab ?_;show AR _ _ _ _ _ [0, 1, 2, 3, 4, 5, 6, 7, 8, 9, 10] _;refine zS rfl (ag (av := slE _ _ _) rfl) <| zm rfl <| zm rfl <| zS rfl (pU ac rfl rfl g17 e19) <| zX rfl (cQ (bytes := 1) ac aa au rfl g20) ?_;rintro _ _ ⟨t21, rfl, rfl⟩;refine ap rfl rfl (aW rfl oB rfl (oo F x18 (some t21) x22 e23) ?_);refine zS rfl (cE rfl rfl g24 e26) <| zS rfl (cE rfl rfl g27 e29) <| zR rfl (bh (E := Enc.str) (bytes := 16) (xs := [.tmp 23]) (l := ([x28] : List (List UInt8))) aA (by kernel_rfl) rfl rfl (by decide) rfl rfl) <| zX rfl (bA (E := Enc.str) (bytes := 16) 1 aA aA rfl (by kernel_rfl) rfl rfl rfl rfl g31 e33) ?_;rintro _ _ ⟨t30, rfl, rfl⟩;refine zS rfl (am (av := slE _ _ _) rfl) <| ai ?_;obtain ⟨g34, H⟩ := az H;obtain ⟨x35, e36, H⟩ := bb H;refine ab ?_;show AR _ _ _ _ _ [0, 1, 2, 3] _
    refine zm rfl <| zm rfl <| zS rfl (kR ac rfl rfl g34 e36) <| za rfl <| ai ?_;exact Exists.intro (n13, x35, x32, t30) ⟨H, Nat.lt_succ_self _, aU [1] (.cons (.refl _) (.cons (.refl _) (.nil _))) rfl⟩
   ·replace H := ba c14 H;refine bz ?_;exact Exists.intro (y10, t11) ⟨H, aU [0] (.cons (.refl _) (.nil _)) rfl⟩
  rintro ⟨y37, t38⟩ H;replace H : iQ y37 = some r2 := H
  unfold iQ at H
  refine af <| ab ?_;show AR _ _ _ _ _ [0, 1] _;refine zS rfl (ag (av := slE _ _ _) rfl) <| zS rfl (am (av := slE _ _ _) rfl) <| ai <| aP ?_;obtain rfl := ak H;exact And.intro rfl (Exists.intro _ (Exists.intro _ ⟨aV rfl (.tok _ _ _), aO [] rfl, rfl, rfl⟩))
set_option maxRecDepth 100000 in
set_option maxHeartbeats 1000000 in
theorem nu (F : Nat) (a1 : List UInt8) (a2 : List UInt8) (r3 : List UInt8) (r4 : Int) (H : jH F a1 a2 = some (r3, r4)) : ACalls Tryz.prog 71 [.agg [S a1, S a2]] [] (Ret (.tup [slE Enc.byte r3 none, i64 r4]) []) := by
 unfold jH at H
 refine aw Tryz.func71 rfl rfl ?_;show AW _ _ 65 _ _ _;refine af <| ab ?_;show AR _ _ _ _ _ [0, 1, 2] _;refine zR rfl (qV rfl (.inr ⟨_, rfl⟩)) <| za rfl <| za rfl <| ai <| af ?_;obtain ⟨x5, e6, H⟩ := cT H;refine ab ?_;show AR _ _ _ _ _ [0, 1, 2, 3] _;refine zS rfl (co (n := 0) (by kernel_rfl) rfl (aj rfl)) <| zS rfl (aL ac rfl rfl) <| ap rfl rfl (aW rfl uU rfl (rq F a1 x5 e6) ?_);refine za rfl <| ai <| af <| af <| ab ?_;show AR _ _ _ _ _ [0, 1, 2, 3, 4, 5, 6, 7] _;refine zm rfl <| zS rfl (cx rfl) <| zm rfl <| aQ (l := []) 19 (B ((!x5) || (decide (4000 < (a2.length : Int))))) (fun K => ?_) ?_
 ·rcases ah (!x5) with h7 | h7
  ·refine zF h7 rfl <| zF h7 rfl <| zF h7 rfl <| zF h7 rfl <| zS rfl (ax (av := .v _) rfl h7 rfl) ?_;exact K _ 4 _ (an (dC h7)) rfl rfl
  ·refine zU h7 rfl (co (n := 1) (by kernel_rfl) rfl (aj rfl)) <| zU h7 rfl (aL ac rfl rfl) <| zU h7 rfl (aX ac rfl) <| zU h7 rfl (cN rfl rfl) <| zS rfl (ay (av := .v _) rfl h7 rfl) ?_;exact K _ 4 _ (an (dD h7)) rfl rfl
 refine ai <| aD rfl (fun c8 => ?_) (fun c8 => ?_)
 ·replace H := aZ c8 H;refine af <| ab ?_;show AR _ _ _ _ _ [0, 1] _;refine za rfl <| za rfl <| ai <| aP ?_;obtain ⟨rfl, rfl⟩ := fX H;exact And.intro rfl (Exists.intro _ (Exists.intro _ ⟨bH rfl (.nil _) (.refl _), aO [] rfl, rfl, rfl⟩))
 ·replace H := ba c8 H;refine aF <| af ?_;obtain ⟨g9, H⟩ := az H;obtain ⟨x10, e11, H⟩ := bb H;obtain ⟨g12, H⟩ := az H;refine ab ?_;show AR _ _ _ _ _ [0, 1, 2, 3, 4] _;refine zS rfl (co (n := 0) (by kernel_rfl) rfl (aj rfl)) <| zS rfl (aL ac rfl rfl) <| zS rfl (cE rfl rfl g9 e11) <| zX rfl (cQ (bytes := 1) ac aa au rfl g12) ?_;rintro _ _ ⟨t13, rfl, rfl⟩;refine zS rfl (am (av := slE _ _ _) rfl) <| ai <| af <| ab ?_;show AR _ _ _ _ _ [0, 1, 2] _;refine zS rfl (ag (av := slE _ _ _) rfl) <| zS rfl (aH aa rfl) <| za rfl <| ai <| af ?_;obtain ⟨x14, e15, H⟩ := cT H;refine ab ?_;show AR _ _ _ _ _ [0, 1, 2, 3] _;refine zS rfl (co (n := 1) (by kernel_rfl) rfl (aj rfl)) <| zS rfl (aL ac rfl rfl) <| ap rfl rfl (aW rfl uT rfl (ql F a2 x14 e15) ?_);refine zS rfl (am (av := slE _ _ _) rfl) <| ai <| bx (X := (List UInt8) × Nat) (fun (y53, t54) => ⟨[(5, slE Enc.byte y53 (some t54))], [], [.tok t54 5]⟩) (fun (y53, t54) => gV y53 = some (r3, r4)) ?_ ?_
  ·refine af <| ab ?_;show AR _ _ _ _ _ [0] _;refine za rfl <| ai <| aJ <| bE (X := Nat × (List UInt8) × Nat × Int × Int) (fun (n21, y16, t17, y18, y19) => ⟨[(5, slE Enc.byte y16 (some t17)), (6, i64 y18), (7, slE Enc.str x14 none), (8, i64 y19)], [], [.tok t17 5]⟩) (fun (n21, y16, t17, y18, y19) => dW x14 n21 (y16, y18, y19) = some (r3, r4)) (fun (n21, y16, t17, y18, y19) => n21) (F, x10, t13, (x10.length : Int), 0) H (aU [0] (.cons (.refl _) (.cons (.refl _) (.cons (.refl _) (.cons (.refl _) (.nil _))))) rfl) ?_;rintro ⟨n21, y16, t17, y18, y19⟩ H;obtain ⟨n21, rfl, H⟩ := bX H;replace H : gW x14 (dW x14 n21) y16 y18 y19 = some (r3, r4) := H
   unfold gW at H
   refine af <| af <| ab ?_;show AR _ _ _ _ _ [0, 1, 2, 3] _;refine zm rfl <| zS rfl (ag (av := slE _ _ _) rfl) <| zS rfl (aH aA rfl) <| zS rfl (bB rfl rfl) <| ai <| aD rfl (fun c22 => ?_) (fun c22 => ?_)
   ·replace H := aZ c22 H;refine aF <| af <| aJ <| bx (X := (List UInt8) × Nat × Int) (fun (y33, t34, y35) => ⟨[(5, slE Enc.byte y33 (some t34)), (6, i64 y35), (7, slE Enc.str x14 none), (8, i64 y19)], [], [.tok t34 5]⟩) (fun (y33, t34, y35) => fk x14 y19 (dW x14 n21) y33 y35 = some (r3, r4)) ?_ ?_
    ·refine af ?_;obtain ⟨g23, H⟩ := az H;obtain ⟨g24, H⟩ := az H;obtain ⟨x25, e26, H⟩ := bb H;obtain ⟨g27, H⟩ := az H;refine ab ?_;show AR _ _ _ _ _ [0, 1, 2, 3, 4, 5, 6, 7, 8] _;refine zm rfl <| zS rfl (bk rfl rfl g23) <| zS rfl (ag (av := slE _ _ _) rfl) <| zm rfl <| zS rfl (aY (E := Enc.str) aA (by kernel_rfl) rfl rfl g24 e26) <| zS rfl (aL ac rfl rfl) <| zS rfl (aX ac rfl) <| zS rfl (bk rfl rfl g27) <| zS rfl (cN rfl rfl) <| ai <| aD rfl (fun c28 => ?_) (fun c28 => ?_)
     ·replace H := aZ c28 H;refine af ?_;obtain ⟨g30, H⟩ := az H;obtain ⟨x31, e32, H⟩ := bb H;refine ab ?_;show AR _ _ _ _ _ [0, 1, 2, 3] _;refine zS rfl (ag (av := slE _ _ _) rfl) <| zR rfl (bh (E := Enc.byte) (bytes := 1) (xs := [.const _, .const _]) (l := ([13, 10] : List UInt8)) aa (by kernel_rfl) rfl rfl (by decide) rfl rfl) <| zX rfl (bA (E := Enc.byte) (bytes := 1) 0 aa aa rfl (by kernel_rfl) rfl rfl rfl rfl g30 e32) ?_;rintro _ _ ⟨t29, rfl, rfl⟩;refine zS rfl (am (av := slE _ _ _) rfl) <| ai <| ab ?_;show AR _ _ _ _ _ [0] _;refine za rfl <| ai ?_;exact Exists.intro (x31, t29, 0) ⟨H, aU [0] (.cons (.refl _) (.cons (.refl _) (.cons (.refl _) (.cons (.refl _) (.nil _))))) rfl⟩
     ·replace H := ba c28 H;refine aF ?_;exact Exists.intro (y16, t17, y18) ⟨H, aU [0] (.cons (.refl _) (.cons (.refl _) (.cons (.refl _) (.cons (.refl _) (.nil _))))) rfl⟩
    rintro ⟨y33, t34, y35⟩ H;replace H : fk x14 y19 (dW x14 n21) y33 y35 = some (r3, r4) := H
    unfold fk at H
    refine af ?_;obtain ⟨g37, H⟩ := az H;obtain ⟨x38, e39, H⟩ := bb H;obtain ⟨g40, H⟩ := az H;obtain ⟨x41, e42, H⟩ := bb H;obtain ⟨g44, H⟩ := az H;obtain ⟨x45, e46, H⟩ := bb H;refine ab ?_;show AR _ _ _ _ _ [0, 1, 2, 3, 4, 5, 6, 7] _;refine zS rfl (ag (av := slE _ _ _) rfl) <| zS rfl (ag (av := slE _ _ _) rfl) <| zm rfl <| zS rfl (aY (E := Enc.str) aA (by kernel_rfl) rfl rfl g37 e39) <| zS rfl (aL ac rfl rfl) <| zS rfl (cE rfl rfl g40 e42) <| zX rfl (bi (bytes := 1) 0 aa ac rfl (by kernel_rfl) rfl rfl rfl rfl g44 e46) ?_;rintro _ _ ⟨t43, rfl, rfl⟩;refine zS rfl (am (av := slE _ _ _) rfl) <| ai ?_;obtain ⟨g47, H⟩ := az H;obtain ⟨g48, H⟩ := az H;obtain ⟨x49, e50, H⟩ := bb H;obtain ⟨g51, H⟩ := az H;refine ab ?_;show AR _ _ _ _ _ [0, 1, 2, 3, 4, 5, 6, 7, 8] _;refine zm rfl <| zS rfl (bk rfl rfl g47) <| zS rfl (ag (av := slE _ _ _) rfl) <| zm rfl <| zS rfl (aY (E := Enc.str) aA (by kernel_rfl) rfl rfl g48 e50) <| zS rfl (aL ac rfl rfl) <| zS rfl (aX ac rfl) <| zS rfl (bk rfl rfl g51) <| za rfl <| ai ?_;obtain ⟨g52, H⟩ := az H;refine ab ?_;show AR _ _ _ _ _ [0, 1, 2] _;refine zm rfl <| zS rfl (bk rfl rfl g52) <| za rfl <| ai ?_;exact Exists.intro (n21, x45, t43, (y35 + 1) + (x49.length : Int), y19 + 1) ⟨H, Nat.lt_succ_self _, aU [0] (.cons (.refl _) (.cons (.refl _) (.cons (.refl _) (.cons (.refl _) (.nil _))))) rfl⟩
   ·replace H := ba c22 H;refine bz ?_;exact Exists.intro (y16, t17) ⟨H, aU [0] (.cons (.refl _) (.nil _)) rfl⟩
  rintro ⟨y53, t54⟩ H;replace H : gV y53 = some (r3, r4) := H
  unfold gV at H
  refine af ?_;obtain ⟨g57, H⟩ := az H;obtain ⟨x58, e59, H⟩ := bb H;refine ab ?_;show AR _ _ _ _ _ [0, 1, 2, 3, 4] _;refine zS rfl (ag (av := slE _ _ _) rfl) <| zR rfl (bh (E := Enc.byte) (bytes := 1) (xs := [.const _, .const _]) (l := ([13, 10] : List UInt8)) aa (by kernel_rfl) rfl rfl (by decide) rfl rfl) <| zX rfl (bA (E := Enc.byte) (bytes := 1) 0 aa aa rfl (by kernel_rfl) rfl rfl rfl rfl g57 e59) ?_;rintro _ _ ⟨t56, rfl, rfl⟩;refine zS rfl (am (av := slE _ _ _) rfl) <| za rfl <| ai <| aP ?_;obtain ⟨rfl, rfl⟩ := fX H;exact And.intro rfl (Exists.intro _ (Exists.intro _ ⟨bH rfl (.tok _ _ _) (.refl _), aO [] rfl, rfl, rfl⟩))
set_option maxRecDepth 100000 in
set_option maxHeartbeats 1000000 in
theorem qk (F : Nat) (a1 : List UInt8) (r2 : List UInt8) (r3 : Bool) (H : jX F a1 = some (r2, r3)) : ACalls Tryz.prog 129 [S a1] [] (Ret (.tup [S r2, B r3]) []) := by
 unfold jX at H
 refine aw Tryz.func129 rfl rfl ?_;show AW _ _ 35 _ _ _;refine af <| ab ?_;show AR _ _ _ _ _ [0, 1] _;refine za rfl <| za rfl <| ai <| af <| af ?_;obtain ⟨g5, H⟩ := cb H;obtain ⟨x6, e7, H⟩ := bb H;obtain ⟨g9, H⟩ := cb H;obtain ⟨g10, H⟩ := cb H;obtain ⟨x11, e12, H⟩ := bb H;refine ab ?_;show AR _ _ _ _ _ [0, 1, 2, 3, 4, 5, 6, 7, 8, 9, 10, 11, 12, 13, 14, 15] _;refine zm rfl <| zS rfl (aX ac rfl) <| zS rfl (bB rfl rfl) <| zm rfl <| aQ (l := [8, 9, 10, 11, 12, 13, 14, 15]) 13 (B ((decide ((a1.length : Int) < 12)) || (!decide (x6 = ([61, 63, 117, 116, 102, 45, 56, 63, 66, 63] : List UInt8))))) (fun K => ?_) ?_
 ·rcases ah (decide ((a1.length : Int) < 12)) with h4 | h4
  ·refine zF h4 rfl <| zF h4 rfl <| zF h4 rfl <| zS rfl (ax (av := .v _) rfl h4 rfl) ?_;exact K _ 3 _ (an (dC h4)) rfl rfl
  ·refine zM h4 rfl <| zU h4 rfl (pU ac rfl rfl (g5 (nf h4)) e7) <| zU h4 rfl (eb rfl rfl) <| zS rfl (ay (av := .v _) rfl h4 rfl) ?_;exact K _ 3 _ (an (dD h4)) rfl rfl
 refine zm rfl <| aQ (l := []) 21 (B (((decide ((a1.length : Int) < 12)) || (!decide (x6 = ([61, 63, 117, 116, 102, 45, 56, 63, 66, 63] : List UInt8)))) || (!decide (x11 = ([63, 61] : List UInt8))))) (fun K => ?_) ?_
 ·rcases ah ((decide ((a1.length : Int) < 12)) || (!decide (x6 = ([61, 63, 117, 116, 102, 45, 56, 63, 66, 63] : List UInt8)))) with h8 | h8
  ·refine zF h8 rfl <| zF h8 rfl <| zF h8 rfl <| zF h8 rfl <| zF h8 rfl <| zF h8 rfl <| zS rfl (ax (av := .v _) rfl h8 rfl) ?_;exact K _ 6 _ (an (dC h8)) rfl rfl
  ·refine zM h8 rfl <| zM h8 rfl <| zU h8 rfl (aX ac rfl) <| zU h8 rfl (jz rfl rfl (g9 (nf h8))) <| zU h8 rfl (kR ac rfl rfl (g10 (nf h8)) e12) <| zU h8 rfl (eb rfl rfl) <| zS rfl (ay (av := .v _) rfl h8 rfl) ?_;exact K _ 6 _ (an (dD h8)) rfl rfl
 refine ai <| aD rfl (fun c13 => ?_) (fun c13 => ?_)
 ·replace H := aZ c13 H;refine af <| ab ?_;show AR _ _ _ _ _ [0, 1] _;refine za rfl <| za rfl <| ai <| aP ?_;obtain ⟨rfl, rfl⟩ := fX H;exact And.intro rfl (Exists.intro _ (Exists.intro _ ⟨bH rfl (.refl _) (.refl _), aO [] rfl, rfl, rfl⟩))
 ·replace H := ba c13 H;refine aF <| af ?_;obtain ⟨g14, H⟩ := az H;obtain ⟨g15, H⟩ := az H;obtain ⟨x16, e17, H⟩ := bb H;obtain ⟨x18, x19, e20, H⟩ := eK H;refine ab ?_;show AR _ _ _ _ _ [0, 1, 2, 3, 4, 5, 6, 7, 8, 9, 10] _;refine zm rfl <| zm rfl <| zS rfl (aX ac rfl) <| zS rfl (jz rfl rfl g14) <| zS rfl (dU ac rfl rfl rfl g15 e17) <| ap rfl rfl (aW rfl tf rfl (qn F x16 x18 x19 e20) ?_);refine zS rfl (ag (av := .tup _) rfl) <| zS rfl (aI (av := slE _ _ _) rfl rfl) <| zS rfl (aI (av := .v _) rfl rfl) <| zS rfl (am (av := slE _ _ _) rfl) <| za rfl <| ai <| af <| ab ?_;show AR _ _ _ _ _ [0, 1, 2, 3, 4, 5] _;refine zS rfl (ag (av := slE _ _ _) rfl) <| zS rfl (bn aa au ac rfl) <| zm rfl <| zS rfl (dm rfl rfl) <| za rfl <| za rfl <| ai <| aP ?_;obtain ⟨rfl, rfl⟩ := fX H;exact And.intro rfl (Exists.intro _ (Exists.intro _ ⟨bH rfl (.refl _) (.refl _), aO [] rfl, rfl, rfl⟩))
set_option maxRecDepth 100000 in
set_option maxHeartbeats 1000000 in
theorem na (F : Nat) (a1 : List (List UInt8)) (q2 : Option Nat) (r3 : List UInt8) (H : jW F a1 = some r3) : ACalls Tryz.prog 102 [slE Enc.str a1 q2] [] (Ret (S r3) []) := by
 unfold jW at H
 refine aw Tryz.func102 rfl rfl ?_;show AW _ _ 43 _ _ _;refine af <| ab ?_;show AR _ _ _ _ _ [0] _;refine za rfl <| ai <| af <| ab ?_;show AR _ _ _ _ _ [0] _;refine za rfl <| ai <| af <| ab ?_;show AR _ _ _ _ _ [0] _;refine za rfl <| ai <| af <| ab ?_;show AR _ _ _ _ _ [0] _;refine za rfl <| ai <| bx (X := (List UInt8) × (List UInt8) × Bool) (fun (y34, y35, y36) => ⟨[(3, S y34), (4, S y35), (5, B y36)], [], []⟩) (fun (y34, y35, y36) => fC y34 y35 y36 = some r3) ?_ ?_
 ·refine af <| ab ?_;show AR _ _ _ _ _ [0] _;refine za rfl <| ai <| aJ <| bE (X := Nat × (List UInt8) × (List UInt8) × Bool × Int) (fun (n9, y4, y5, y6, y7) => ⟨[(0, slE Enc.str a1 q2), (3, S y4), (4, S y5), (5, B y6), (6, i64 y7)], [], []⟩) (fun (n9, y4, y5, y6, y7) => dk F a1 n9 (y4, y5, y6, y7) = some r3) (fun (n9, y4, y5, y6, y7) => n9) (F, ([] : List UInt8), ([] : List UInt8), true, 0) H (aU [] (.cons (.refl _) (.cons (.refl _) (.cons (.refl _) (.cons (.refl _) (.cons (.refl _) (.nil _)))))) rfl) ?_;rintro ⟨n9, y4, y5, y6, y7⟩ H;obtain ⟨n9, rfl, H⟩ := bX H;replace H : fD F a1 (dk F a1 n9) y4 y5 y6 y7 = some r3 := H
  unfold fD at H
  refine af <| af <| ab ?_;show AR _ _ _ _ _ [0, 1, 2, 3] _;refine zm rfl <| zS rfl (ag (av := slE _ _ _) rfl) <| zS rfl (aH aA rfl) <| zS rfl (bB rfl rfl) <| ai <| aD rfl (fun c10 => ?_) (fun c10 => ?_)
  ·replace H := aZ c10 H;refine aF <| af <| aJ <| af ?_;obtain ⟨g11, H⟩ := az H;obtain ⟨x12, e13, H⟩ := bb H;obtain ⟨x14, x15, e16, H⟩ := eK H;refine ab ?_;show AR _ _ _ _ _ [0, 1, 2, 3, 4, 5, 6, 7, 8, 9] _;refine zS rfl (ag (av := slE _ _ _) rfl) <| zm rfl <| zS rfl (aY (E := Enc.str) aA (by kernel_rfl) rfl rfl g11 e13) <| zS rfl (aL ac rfl rfl) <| ap rfl rfl (aW rfl tm rfl (qk F x12 x14 x15 e16) ?_);refine zS rfl (ag (av := .tup _) rfl) <| zS rfl (aI (av := .v _) rfl rfl) <| zS rfl (aI (av := .v _) rfl rfl) <| za rfl <| za rfl <| ai <| af <| ab ?_;show AR _ _ _ _ _ [0, 1, 2, 3, 4] _;refine zm rfl <| zm rfl <| aQ (l := [4]) 26 (B (y6 && x15)) (fun K => ?_) ?_
   ·rcases ah y6 with h17 | h17
    ·refine zM h17 rfl <| zS rfl (ax (av := .v _) rfl h17 rfl) ?_;exact K _ 1 _ (an (cc h17)) rfl rfl
    ·refine zF h17 rfl <| zS rfl (ay (av := .v _) rfl h17 rfl) ?_;exact K _ 1 _ (an (cd h17)) rfl rfl
   refine za rfl <| ai <| af ?_;obtain ⟨g18, H⟩ := az H;obtain ⟨x19, e20, H⟩ := bb H;refine ab ?_;show AR _ _ _ _ _ [0, 1, 2, 3] _;refine zm rfl <| zm rfl <| zS rfl (cE rfl rfl g18 e20) <| za rfl <| ai <| bx (X := (List UInt8)) (fun y25 => ⟨[(0, slE Enc.str a1 q2), (3, S y25), (4, S x19), (5, B (y6 && x15)), (6, i64 y7)], [], []⟩) (fun y25 => el a1 y6 y7 x15 x19 (dk F a1 n9) y25 = some r3) ?_ ?_
   ·refine af <| ab ?_;show AR _ _ _ _ _ [0, 1] _;refine zm rfl <| zS rfl (cN rfl rfl) <| ai <| aD rfl (fun c21 => ?_) (fun c21 => ?_)
    ·replace H := aZ c21 H;obtain ⟨g22, H⟩ := az H;obtain ⟨x23, e24, H⟩ := bb H;refine ab ?_;show AR _ _ _ _ _ [0, 1, 2] _;refine zm rfl <| zS rfl (cE rfl rfl g22 e24) <| za rfl <| ai ?_;exact Exists.intro x23 ⟨H, aU [] (.cons (.refl _) (.cons (.refl _) (.cons (.refl _) (.cons (.refl _) (.cons (.refl _) (.nil _)))))) rfl⟩
    ·replace H := ba c21 H;refine aF ?_;exact Exists.intro y4 ⟨H, aU [] (.cons (.refl _) (.cons (.refl _) (.cons (.refl _) (.cons (.refl _) (.cons (.refl _) (.nil _)))))) rfl⟩
   rintro y25 H;replace H : el a1 y6 y7 x15 x19 (dk F a1 n9) y25 = some r3 := H
   unfold el at H
   obtain ⟨g27, H⟩ := az H;obtain ⟨x28, e29, H⟩ := bb H;obtain ⟨g30, H⟩ := az H;obtain ⟨x31, e32, H⟩ := bb H;refine ab ?_;show AR _ _ _ _ _ [0, 1, 2, 3, 4, 5, 6] _;refine zm rfl <| zS rfl (ag (av := slE _ _ _) rfl) <| zm rfl <| zS rfl (aY (E := Enc.str) aA (by kernel_rfl) rfl rfl g27 e29) <| zS rfl (aL ac rfl rfl) <| zS rfl (cE rfl rfl g30 e32) <| za rfl <| ai ?_;obtain ⟨g33, H⟩ := az H;refine ab ?_;show AR _ _ _ _ _ [0, 1, 2] _;refine zm rfl <| zS rfl (bk rfl rfl g33) <| za rfl <| ai ?_;exact Exists.intro (n9, x31, x19, y6 && x15, y7 + 1) ⟨H, Nat.lt_succ_self _, aU [] (.cons (.refl _) (.cons (.refl _) (.cons (.refl _) (.cons (.refl _) (.cons (.refl _) (.nil _)))))) rfl⟩
  ·replace H := ba c10 H;refine bz ?_;exact Exists.intro (y4, y5, y6) ⟨H, aU [] (.cons (.refl _) (.cons (.refl _) (.cons (.refl _) (.nil _)))) rfl⟩
 rintro ⟨y34, y35, y36⟩ H;replace H : fC y34 y35 y36 = some r3 := H
 unfold fC at H
 refine af <| af <| ab ?_;show AR _ _ _ _ _ [0] _;refine zm rfl <| ai <| aD rfl (fun c38 => ?_) (fun c38 => ?_)
 ·replace H := aZ c38 H;refine af <| ab ?_;show AR _ _ _ _ _ [0, 1] _;refine zm rfl <| za rfl <| ai <| aP ?_;obtain rfl := ak H;exact And.intro rfl (Exists.intro _ (Exists.intro _ ⟨aV rfl (.refl _), aO [] rfl, rfl, rfl⟩))
 ·replace H := ba c38 H;refine aF <| af <| ab ?_;show AR _ _ _ _ _ [0, 1] _;refine zm rfl <| za rfl <| ai <| aP ?_;obtain rfl := ak H;exact And.intro rfl (Exists.intro _ (Exists.intro _ ⟨aV rfl (.refl _), aO [] rfl, rfl, rfl⟩))
set_option maxRecDepth 100000 in
set_option maxHeartbeats 1000000 in
theorem rn (F : Nat) (a1 : List UInt8) (q2 : Option Nat) (r3 : List UInt8) (r4 : List UInt8) (r5 : Int) (H : kK F a1 = some (r3, r4, r5)) : ACalls Tryz.prog 81 [slE Enc.byte a1 q2] [] (Ret (.tup [.agg [S r3, S r4], i64 r5]) []) := by
 unfold kK at H
 refine aw Tryz.func81 rfl rfl ?_;show AW _ _ 93 _ _ _;refine af <| ab ?_;show AR _ _ _ _ _ [0, 1] _;refine zX rfl (de (zs := [.string ⟨#[]⟩, .string ⟨#[]⟩]) (by kernel_rfl)) ?_;rintro _ _ ⟨o6, rfl, rfl⟩;refine za rfl <| ai <| af <| ab ?_;show AR _ _ _ _ _ [0] _;refine za rfl <| ai <| bx (X := Int) (fun y16 => ⟨[(0, slE Enc.byte a1 q2), (2, .pt o6 0), (4, i64 y16)], [], [.obj o6 [S ([] : List UInt8), S ([] : List UInt8)]]⟩) (fun y16 => dz F a1 y16 = some (r3, r4, r5)) ?_ ?_
 ·refine aJ <| bE (X := Nat × Int) (fun (n9, y7) => ⟨[(0, slE Enc.byte a1 q2), (2, .pt o6 0), (4, i64 y7)], [], [.obj o6 [S ([] : List UInt8), S ([] : List UInt8)]]⟩) (fun (n9, y7) => gN F a1 n9 y7 = some (r3, r4, r5)) (fun (n9, y7) => n9) (F, 0) H (aU [0] (.cons (.refl _) (.cons (.refl _) (.cons (.refl _) (.nil _)))) rfl) ?_;rintro ⟨n9, y7⟩ H;obtain ⟨n9, rfl, H⟩ := bX H;replace H : gO F a1 (gN F a1 n9) y7 = some (r3, r4, r5) := H
  unfold gO at H
  refine af <| af ?_;obtain ⟨g11, H⟩ := cb H;obtain ⟨x12, e13, H⟩ := bb H;refine ab ?_;show AR _ _ _ _ _ [0, 1, 2, 3, 4, 5, 6, 7, 8, 9, 10] _;refine zm rfl <| zS rfl (ag (av := slE _ _ _) rfl) <| zS rfl (aH aa rfl) <| zS rfl (bB rfl rfl) <| zm rfl <| aQ (l := []) 21 (B ((decide (y7 < (a1.length : Int))) && (!decide (x12 = 58)))) (fun K => ?_) ?_
  ·rcases ah (decide (y7 < (a1.length : Int))) with h10 | h10
   ·refine zU h10 rfl (ag (av := slE _ _ _) rfl) <| zM h10 rfl <| zU h10 rfl (aY (E := Enc.byte) aa (by kernel_rfl) rfl rfl (g11 h10) e13) <| zU h10 rfl (aL au rfl rfl) <| zU h10 rfl (mt (a := x12) (b := 58) rfl rfl) <| zS rfl (ax (av := .v _) rfl h10 rfl) ?_;exact K _ 5 _ (an (cc h10)) rfl rfl
   ·refine zF h10 rfl <| zF h10 rfl <| zF h10 rfl <| zF h10 rfl <| zF h10 rfl <| zS rfl (ay (av := .v _) rfl h10 rfl) ?_;exact K _ 5 _ (an (cd h10)) rfl rfl
  refine ai <| aD rfl (fun c14 => ?_) (fun c14 => ?_)
  ·replace H := aZ c14 H;refine aF <| aJ ?_;obtain ⟨g15, H⟩ := az H;refine ab ?_;show AR _ _ _ _ _ [0, 1, 2] _;refine zm rfl <| zS rfl (bk rfl rfl g15) <| za rfl <| ai ?_;exact Exists.intro (n9, y7 + 1) ⟨H, Nat.lt_succ_self _, aU [0] (.cons (.refl _) (.cons (.refl _) (.cons (.refl _) (.nil _)))) rfl⟩
  ·replace H := ba c14 H;refine bz ?_;exact Exists.intro y7 ⟨H, aU [0] (.cons (.refl _) (.cons (.refl _) (.cons (.refl _) (.nil _)))) rfl⟩
 rintro y16 H;replace H : dz F a1 y16 = some (r3, r4, r5) := H
 unfold dz at H
 refine af <| af <| ab ?_;show AR _ _ _ _ _ [0, 1, 2, 3] _;refine zm rfl <| zS rfl (ag (av := slE _ _ _) rfl) <| zS rfl (aH aa rfl) <| zS rfl (dl rfl rfl) <| ai <| aD rfl (fun c18 => ?_) (fun c18 => ?_)
 ·replace H := aZ c18 H;refine af <| ab ?_;show AR _ _ _ _ _ [0, 1, 2] _;refine zS rfl (iH (zs := [.string ⟨#[]⟩, .string ⟨#[]⟩]) (ps := [(0, 1), (1, 1)]) (cs := [S ([] : List UInt8), S ([] : List UInt8)]) (by kernel_rfl) rfl rfl) <| s0 rfl rfl (cq (i := 0) (vs := [S ([] : List UInt8), S ([] : List UInt8)]) (by kernel_rfl) rfl rfl (by simp [cw, slE]) rfl (aj rfl)) <| za rfl <| ai <| aP ?_;obtain ⟨rfl, rfl, rfl⟩ := gz H;exact And.intro rfl (Exists.intro _ (Exists.intro _ ⟨kG (ki rfl (CellV.agg (off := 0) (cs := [S ([] : List UInt8), S ([] : List UInt8)]) (n := 2) 0 bV rfl (by kernel_rfl) rfl rfl (aj rfl)) ((show PlaceV _ _ _ (.tmp _) _ from (.refl _)))), aO [] rfl, rfl, rfl⟩))
 ·replace H := ba c18 H;refine aF <| af <| ab ?_;show AR _ _ _ _ _ [0] _;refine za rfl <| ai ?_
  refine bL 5 1 9 rfl fun t19 => ?_
  show AW _ _ _ _ _ ⟨(5, slE Enc.str [] (some t19)) :: _, _, _⟩;refine af <| ab ?_;show AR _ _ _ _ _ [0] _;refine za rfl <| ai <| bx (X := (List (List UInt8)) × Nat) (fun (y60, t61) => ⟨[(0, slE Enc.byte a1 q2), (2, .pt o6 0), (4, i64 y16), (5, slE Enc.str y60 (some t61))], [], [.obj o6 [S ([] : List UInt8), S ([] : List UInt8)], .tok t61 9]⟩) (fun (y60, t61) => fj F a1 y16 y60 = some (r3, r4, r5)) ?_ ?_
  ·refine af ?_;obtain ⟨g20, H⟩ := az H;refine ab ?_;show AR _ _ _ _ _ [0, 1, 2] _;refine zm rfl <| zS rfl (bk rfl rfl g20) <| za rfl <| ai <| aJ <| bE (X := Nat × (List (List UInt8)) × Nat × (List UInt8) × Int) (fun (n26, y21, t22, y23, y24) => ⟨[(0, slE Enc.byte a1 q2), (2, .pt o6 0), (4, i64 y16), (5, slE Enc.str y21 (some t22)), (6, S y23), (7, i64 y24)], [], [.obj o6 [S ([] : List UInt8), S ([] : List UInt8)], .tok t22 9]⟩) (fun (n26, y21, t22, y23, y24) => dh F a1 y16 n26 (y21, y23, y24) = some (r3, r4, r5)) (fun (n26, y21, t22, y23, y24) => n26) (F, [], t19, ([] : List UInt8), y16 + 1) H (aU [1, 0] (.cons (.refl _) (.cons (.refl _) (.cons (.refl _) (.cons (.refl _) (.cons (.refl _) (.cons (.refl _) (.nil _))))))) rfl) ?_;rintro ⟨n26, y21, t22, y23, y24⟩ H;obtain ⟨n26, rfl, H⟩ := bX H;replace H : gP F a1 y16 (dh F a1 y16 n26) y21 y23 y24 = some (r3, r4, r5) := H
   unfold gP at H
   refine af <| af <| ab ?_;show AR _ _ _ _ _ [0, 1, 2, 3] _;refine zm rfl <| zS rfl (ag (av := slE _ _ _) rfl) <| zS rfl (aH aa rfl) <| zS rfl (bB rfl rfl) <| ai <| aD rfl (fun c27 => ?_) (fun c27 => ?_)
   ·replace H := aZ c27 H;refine aF <| bx (X := (List (List UInt8)) × Nat × (List UInt8)) (fun (y55, t56, y57) => ⟨[(0, slE Enc.byte a1 q2), (2, .pt o6 0), (4, i64 y16), (5, slE Enc.str y55 (some t56)), (6, S y57), (7, i64 y24)], [], [.obj o6 [S ([] : List UInt8), S ([] : List UInt8)], .tok t56 9]⟩) (fun (y55, t56, y57) => fi y24 (dh F a1 y16 n26) y55 y57 = some (r3, r4, r5)) ?_ ?_
    ·refine aJ <| af <| af ?_;obtain ⟨g28, H⟩ := az H;obtain ⟨x29, e30, H⟩ := bb H;obtain ⟨g32, H⟩ := cb H;obtain ⟨x33, e34, H⟩ := bb H;obtain ⟨g36, H⟩ := cb H;obtain ⟨x37, e38, H⟩ := bb H;refine ab ?_;show AR _ _ _ _ _ [0, 1, 2, 3, 4, 5, 6, 7, 8, 9, 10, 11, 12, 13, 14, 15, 16, 17, 18] _;refine zS rfl (ag (av := slE _ _ _) rfl) <| zm rfl <| zS rfl (aY (E := Enc.byte) aa (by kernel_rfl) rfl rfl g28 e30) <| zS rfl (aL au rfl rfl) <| zS rfl (dt (a := x29) (b := 32) rfl rfl) <| zm rfl <| aQ (l := [12, 13, 14, 15, 16, 17, 18]) 48 (B ((decide (x29 = 32)) || (decide (x33 = 13)))) (fun K => ?_) ?_
     ·rcases ah (decide (x29 = 32)) with h31 | h31
      ·refine zF h31 rfl <| zF h31 rfl <| zF h31 rfl <| zF h31 rfl <| zF h31 rfl <| zS rfl (ax (av := .v _) rfl h31 rfl) ?_;exact K _ 5 _ (an (dC h31)) rfl rfl
      ·refine zU h31 rfl (ag (av := slE _ _ _) rfl) <| zM h31 rfl <| zU h31 rfl (aY (E := Enc.byte) aa (by kernel_rfl) rfl rfl (g32 (nf h31)) e34) <| zU h31 rfl (aL au rfl rfl) <| zU h31 rfl (dt (a := x33) (b := 13) rfl rfl) <| zS rfl (ay (av := .v _) rfl h31 rfl) ?_;exact K _ 5 _ (an (dD h31)) rfl rfl
     refine zm rfl <| aQ (l := []) 55 (B (((decide (x29 = 32)) || (decide (x33 = 13))) || (decide (x37 = 10)))) (fun K => ?_) ?_
     ·rcases ah ((decide (x29 = 32)) || (decide (x33 = 13))) with h35 | h35
      ·refine zF h35 rfl <| zF h35 rfl <| zF h35 rfl <| zF h35 rfl <| zF h35 rfl <| zS rfl (ax (av := .v _) rfl h35 rfl) ?_;exact K _ 5 _ (an (dC h35)) rfl rfl
      ·refine zU h35 rfl (ag (av := slE _ _ _) rfl) <| zM h35 rfl <| zU h35 rfl (aY (E := Enc.byte) aa (by kernel_rfl) rfl rfl (g36 (nf h35)) e38) <| zU h35 rfl (aL au rfl rfl) <| zU h35 rfl (dt (a := x37) (b := 10) rfl rfl) <| zS rfl (ay (av := .v _) rfl h35 rfl) ?_;exact K _ 5 _ (an (dD h35)) rfl rfl
     refine ai <| aD rfl (fun c39 => ?_) (fun c39 => ?_)
     ·replace H := aZ c39 H;refine bx (X := (List (List UInt8)) × Nat) (fun (y45, t46) => ⟨[(0, slE Enc.byte a1 q2), (2, .pt o6 0), (4, i64 y16), (5, slE Enc.str y45 (some t46)), (7, i64 y24)], [], [.obj o6 [S ([] : List UInt8), S ([] : List UInt8)], .tok t46 9]⟩) (fun (y45, t46) => fh y24 (dh F a1 y16 n26) y45 = some (r3, r4, r5)) ?_ ?_
      ·refine af <| ab ?_;show AR _ _ _ _ _ [0, 1] _;refine zm rfl <| zS rfl (eb rfl rfl) <| ai <| aD rfl (fun c40 => ?_) (fun c40 => ?_)
       ·replace H := aZ c40 H;obtain ⟨g42, H⟩ := az H;obtain ⟨x43, e44, H⟩ := bb H;refine ab ?_;show AR _ _ _ _ _ [0, 1, 2, 3, 4] _;refine zS rfl (ag (av := slE _ _ _) rfl) <| zm rfl <| zR rfl (bh (E := Enc.str) (bytes := 16) (xs := [.tmp 59]) (l := ([y23] : List (List UInt8))) aA (by kernel_rfl) rfl rfl (by decide) rfl rfl) <| zX rfl (bA (E := Enc.str) (bytes := 16) 1 aA aA rfl (by kernel_rfl) rfl rfl rfl rfl g42 e44) ?_;rintro _ _ ⟨t41, rfl, rfl⟩;refine zS rfl (am (av := slE _ _ _) rfl) <| ai ?_;exact Exists.intro (x43, t41) ⟨H, aU [0, 0] (.cons (.refl _) (.cons (.refl _) (.cons (.refl _) (.cons (.refl _) (.cons (.refl _) (.nil _)))))) rfl⟩
       ·replace H := ba c40 H;refine aF ?_;exact Exists.intro (y21, t22) ⟨H, aU [0, 0] (.cons (.refl _) (.cons (.refl _) (.cons (.refl _) (.cons (.refl _) (.cons (.refl _) (.nil _)))))) rfl⟩
      rintro ⟨y45, t46⟩ H;replace H : fh y24 (dh F a1 y16 n26) y45 = some (r3, r4, r5) := H
      unfold fh at H
      refine af <| ab ?_;show AR _ _ _ _ _ [0] _;refine za rfl <| ai <| bz ?_;exact Exists.intro (y45, t46, ([] : List UInt8)) ⟨H, aU [0, 0] (.cons (.refl _) (.cons (.refl _) (.cons (.refl _) (.cons (.refl _) (.cons (.refl _) (.cons (.refl _) (.nil _))))))) rfl⟩
     ·replace H := ba c39 H;refine aF ?_;obtain ⟨g48, H⟩ := az H;obtain ⟨g49, H⟩ := az H;obtain ⟨x50, e51, H⟩ := bb H;obtain ⟨g52, H⟩ := az H;obtain ⟨x53, e54, H⟩ := bb H;refine ab ?_;show AR _ _ _ _ _ [0, 1, 2, 3, 4, 5, 6, 7, 8] _;refine zm rfl <| zS rfl (ag (av := slE _ _ _) rfl) <| zm rfl <| zm rfl <| zS rfl (bk rfl rfl g48) <| zS rfl (pF (E := Enc.byte) aa (by kernel_rfl) rfl rfl rfl g49 e51) <| zS rfl (bn aa au ac rfl) <| zS rfl (cE rfl rfl g52 e54) <| za rfl <| ai ?_;exact Exists.intro (y21, t22, x53) ⟨H, aU [0, 0] (.cons (.refl _) (.cons (.refl _) (.cons (.refl _) (.cons (.refl _) (.cons (.refl _) (.cons (.refl _) (.nil _))))))) rfl⟩
    rintro ⟨y55, t56, y57⟩ H;replace H : fi y24 (dh F a1 y16 n26) y55 y57 = some (r3, r4, r5) := H
    unfold fi at H
    obtain ⟨g59, H⟩ := az H;refine ab ?_;show AR _ _ _ _ _ [0, 1, 2] _;refine zm rfl <| zS rfl (bk rfl rfl g59) <| za rfl <| ai ?_;exact Exists.intro (n26, y55, t56, y57, y24 + 1) ⟨H, Nat.lt_succ_self _, aU [0, 0] (.cons (.refl _) (.cons (.refl _) (.cons (.refl _) (.cons (.refl _) (.cons (.refl _) (.cons (.refl _) (.nil _))))))) rfl⟩
   ·replace H := ba c27 H;refine bz ?_;exact Exists.intro (y21, t22) ⟨H, aU [0, 0] (.cons (.refl _) (.cons (.refl _) (.cons (.refl _) (.cons (.refl _) (.nil _))))) rfl⟩
  rintro ⟨y60, t61⟩ H;replace H : fj F a1 y16 y60 = some (r3, r4, r5) := H
  unfold fj at H
  refine bx (X := Nat × (List UInt8) × (List UInt8)) (fun (o70, y71, y72) => ⟨[(0, slE Enc.byte a1 q2), (2, .pt o6 0), (8, .pt o70 0)], [], [.obj o70 [S y71, S y72], .obj o6 [S ([] : List UInt8), S ([] : List UInt8)]]⟩) (fun (o70, y71, y72) => gM F a1 y71 y72 = some (r3, r4, r5)) ?_ ?_
  ·obtain ⟨g63, H⟩ := az H;obtain ⟨x64, e65, H⟩ := bb H;obtain ⟨x66, e67, H⟩ := cT H;refine bW (by kernel_rfl) ?_;show AI _ _ _ _ _ 9 (Array.replicate 9 false) _;refine zk 0 rfl (ag (av := slE _ _ _) rfl) ?_;show AI _ _ _ _ _ _ #[true, false, false, false, false, false, false, false, false] _;refine zk 1 rfl (mv rfl) ?_;show AI _ _ _ _ _ _ #[true, true, false, false, false, false, false, false, false] _;refine zk 2 rfl (lu (E := Enc.byte) aa (by kernel_rfl) rfl rfl g63 e65) ?_;show AI _ _ _ _ _ _ #[true, true, true, false, false, false, false, false, false] _;refine zk 3 rfl (bn aa au ac rfl) ?_;show AI _ _ _ _ _ _ #[true, true, true, true, false, false, false, false, false] _;refine zk 4 rfl (ag (av := slE _ _ _) rfl) ?_;show AI _ _ _ _ _ _ #[true, true, true, true, true, false, false, false, false] _;refine dw (i := 5) (j := 7) (by kernel_rfl) rfl rfl rfl rfl ?_ ?_
   ·refine AIO.callp rfl oD rfl (na F y60 (some t61) x66 e67) ?_;show AI _ _ _ _ _ _ #[true, true, true, true, true, true, false, false, false] _;refine zk 6 rfl (iH (zs := [.string ⟨#[]⟩, .string ⟨#[]⟩]) (ps := [(0, 1), (1, 1)]) (cs := [S x64, S x66]) (by kernel_rfl) rfl rfl) ?_;show AI _ _ _ _ _ _ #[true, true, true, true, true, true, true, false, false] _;refine bf (i := 7) (by kernel_rfl) rfl rfl <| bS rfl (de (zs := [.string ⟨#[]⟩, .string ⟨#[]⟩]) (by kernel_rfl)) ?_;rintro _ _ ⟨o68, rfl, rfl⟩;show AI _ _ _ _ _ _ #[true, true, true, true, true, true, true, true, false] _;refine bf (i := 8) (by kernel_rfl) rfl rfl <| ck (cq (i := 0) (vs := [S x64, S x66]) (by kernel_rfl) rfl rfl (by simp [cw, slE]) rfl (aj rfl)) ?_;show AI _ _ _ _ _ _ #[true, true, true, true, true, true, true, true, true] _;refine bN rfl ?_;exact Exists.intro (o68, x64, x66) ⟨H, aU [0, 0] (.cons (.refl _) (.cons (.refl _) (.cons (.refl _) (.nil _)))) rfl⟩
   ·refine bS rfl (de (zs := [.string ⟨#[]⟩, .string ⟨#[]⟩]) (by kernel_rfl)) ?_;rintro _ _ ⟨o69, rfl, rfl⟩;show AI _ _ _ _ _ _ #[true, true, true, true, true, false, false, true, false] _;refine bf (i := 5) (by kernel_rfl) rfl rfl <| AIO.callp rfl oD rfl (na F y60 (some t61) x66 e67) ?_;show AI _ _ _ _ _ _ #[true, true, true, true, true, true, false, true, false] _;refine zk 6 rfl (iH (zs := [.string ⟨#[]⟩, .string ⟨#[]⟩]) (ps := [(0, 1), (1, 1)]) (cs := [S x64, S x66]) (by kernel_rfl) rfl rfl) ?_;show AI _ _ _ _ _ _ #[true, true, true, true, true, true, true, true, false] _;refine bf (i := 8) (by kernel_rfl) rfl rfl <| ck (cq (i := 0) (vs := [S x64, S x66]) (by kernel_rfl) rfl rfl (by simp [cw, slE]) rfl (aj rfl)) ?_;show AI _ _ _ _ _ _ #[true, true, true, true, true, true, true, true, true] _;refine bN rfl ?_;exact Exists.intro (o69, x64, x66) ⟨H, aU [0, 0] (.cons (.refl _) (.cons (.refl _) (.cons (.refl _) (.nil _)))) rfl⟩
  rintro ⟨o70, y71, y72⟩ H;replace H : gM F a1 y71 y72 = some (r3, r4, r5) := H
  unfold gM at H
  refine af ?_;obtain ⟨x74, x75, e76, H⟩ := eK H;refine ab ?_;show AR _ _ _ _ _ [0, 1, 2, 3, 4, 5, 6] _;refine zR rfl (lP (i := 0) (n := 2) bV rfl (by kernel_rfl) rfl rfl (aj rfl)) <| ap rfl rfl (aW rfl pI rfl (nu F y71 y72 x74 x75 e76) ?_);refine zS rfl (ag (av := .tup _) rfl) <| zS rfl (aI (av := slE _ _ _) rfl rfl) <| zS rfl (aI (av := .v _) rfl rfl) <| zS rfl (am (av := slE _ _ _) rfl) <| za rfl <| ai <| af <| af <| ab ?_;show AR _ _ _ _ _ [0, 1, 2, 3, 4, 5, 6, 7, 8] _;refine zm rfl <| zS rfl (dv rfl rfl) <| zm rfl <| aQ (l := []) 90 (B ((!decide (x75 = 0)) || (!decide (x74 = a1)))) (fun K => ?_) ?_
  ·rcases ah (!decide (x75 = 0)) with h77 | h77
   ·refine zF h77 rfl <| zF h77 rfl <| zF h77 rfl <| zF h77 rfl <| zF h77 rfl <| zS rfl (ax (av := .v _) rfl h77 rfl) ?_;exact K _ 5 _ (an (dC h77)) rfl rfl
   ·refine zU h77 rfl (ag (av := slE _ _ _) rfl) <| zU h77 rfl (bn aa au ac rfl) <| zU h77 rfl (ag (av := slE _ _ _) rfl) <| zU h77 rfl (bn aa au ac rfl) <| zU h77 rfl (eb rfl rfl) <| zS rfl (ay (av := .v _) rfl h77 rfl) ?_;exact K _ 5 _ (an (dD h77)) rfl rfl
  refine ai <| aD rfl (fun c78 => ?_) (fun c78 => ?_)
  ·replace H := aZ c78 H;refine af <| ab ?_;show AR _ _ _ _ _ [0, 1, 2] _;refine zS rfl (iH (zs := [.string ⟨#[]⟩, .string ⟨#[]⟩]) (ps := [(0, 1), (1, 1)]) (cs := [S ([] : List UInt8), S ([] : List UInt8)]) (by kernel_rfl) rfl rfl) <| s0 rfl rfl (cq (i := 1) (vs := [S ([] : List UInt8), S ([] : List UInt8)]) (by kernel_rfl) rfl rfl (by simp [cw, slE]) rfl (aj rfl)) <| za rfl <| ai <| aP ?_;obtain ⟨rfl, rfl, rfl⟩ := gz H;exact And.intro rfl (Exists.intro _ (Exists.intro _ ⟨kG (ki rfl (CellV.agg (off := 0) (cs := [S ([] : List UInt8), S ([] : List UInt8)]) (n := 2) 1 bV rfl (by kernel_rfl) rfl rfl (aj rfl)) ((show PlaceV _ _ _ (.tmp _) _ from (.refl _)))), aO [] rfl, rfl, rfl⟩))
  ·replace H := ba c78 H;refine aF <| af <| ab ?_;show AR _ _ _ _ _ [0, 1, 2] _;refine zR rfl (lP (i := 0) (n := 2) bV rfl (by kernel_rfl) rfl rfl (aj rfl)) <| s0 rfl rfl (cq (i := 1) (vs := [S y71, S y72]) (by kernel_rfl) rfl rfl (by simp [cw, slE]) rfl (aj rfl)) <| za rfl <| ai <| aP ?_;obtain ⟨rfl, rfl, rfl⟩ := gz H;exact And.intro rfl (Exists.intro _ (Exists.intro _ ⟨kG (ki rfl (CellV.agg (off := 0) (cs := [S y71, S y72]) (n := 2) 1 bV rfl (by kernel_rfl) rfl rfl (aj rfl)) ((show PlaceV _ _ _ (.tmp _) _ from (.refl _)))), aO [] rfl, rfl, rfl⟩))
set_option maxRecDepth 100000 in
set_option maxHeartbeats 1000000 in
theorem sB (F : Nat) (a1 : List ((List UInt8) × List UInt8)) (q2 : Option Nat) (r3 : List UInt8) (r4 : Int) (H : kC F a1 = some (r3, r4)) : ACalls Tryz.prog 47 [slE (cA Enc.str Enc.str) a1 q2] [] (Ret (.tup [slE Enc.byte r3 none, i64 r4]) []) := by
 unfold kC at H
 refine aw Tryz.func47 rfl rfl ?_;show AW _ _ 34 _ _ _;refine af <| ab ?_;show AR _ _ _ _ _ [0, 1] _;refine za rfl <| za rfl <| ai <| af <| af <| ab ?_;show AR _ _ _ _ _ [0, 1, 2] _;refine zS rfl (ag (av := slE _ _ _) rfl) <| zS rfl (aH bu rfl) <| zS rfl (cN rfl rfl) <| ai <| aD rfl (fun c5 => ?_) (fun c5 => ?_)
 ·replace H := aZ c5 H;refine af <| ab ?_;show AR _ _ _ _ _ [0, 1] _;refine za rfl <| za rfl <| ai <| aP ?_;obtain ⟨rfl, rfl⟩ := fX H;exact And.intro rfl (Exists.intro _ (Exists.intro _ ⟨bH rfl (.nil _) (.refl _), aO [] rfl, rfl, rfl⟩))
 ·replace H := ba c5 H;refine aF <| af <| ab ?_;show AR _ _ _ _ _ [0] _;refine za rfl <| ai ?_
  refine bL 4 1 5 rfl fun t6 => ?_
  show AW _ _ _ _ _ ⟨(4, slE Enc.byte [] (some t6)) :: _, _, _⟩;refine bx (X := (List UInt8) × Nat) (fun (y25, t26) => ⟨[(4, slE Enc.byte y25 (some t26))], [], [.tok t26 5]⟩) (fun (y25, t26) => iZ y25 = some (r3, r4)) ?_ ?_
  ·refine af <| ab ?_;show AR _ _ _ _ _ [0] _;refine za rfl <| ai <| aJ <| bE (X := Nat × (List UInt8) × Nat × Int) (fun (n11, y7, t8, y9) => ⟨[(0, slE (cA Enc.str Enc.str) a1 q2), (4, slE Enc.byte y7 (some t8)), (5, i64 y9)], [], [.tok t8 5]⟩) (fun (n11, y7, t8, y9) => ja F a1 n11 (y7, y9) = some (r3, r4)) (fun (n11, y7, t8, y9) => n11) (F, [], t6, 0) H (aU [0] (.cons (.refl _) (.cons (.refl _) (.cons (.refl _) (.nil _)))) rfl) ?_;rintro ⟨n11, y7, t8, y9⟩ H;obtain ⟨n11, rfl, H⟩ := bX H;replace H : jb F a1 (ja F a1 n11) y7 y9 = some (r3, r4) := H
   unfold jb at H
   refine af <| af <| ab ?_;show AR _ _ _ _ _ [0, 1, 2, 3] _;refine zm rfl <| zS rfl (ag (av := slE _ _ _) rfl) <| zS rfl (aH bu rfl) <| zS rfl (bB rfl rfl) <| ai <| aD rfl (fun c12 => ?_) (fun c12 => ?_)
   ·replace H := aZ c12 H;refine aF <| af <| aJ <| af ?_;obtain ⟨g13, H⟩ := az H;obtain ⟨x14, e15, H⟩ := bb H;obtain ⟨x16, x17, e18, H⟩ := eK H;refine ab ?_;show AR _ _ _ _ _ [0, 1, 2, 3, 4, 5, 6, 7, 8, 9] _;refine zS rfl (ag (av := slE _ _ _) rfl) <| zm rfl <| zS rfl (aY (E := (cA Enc.str Enc.str)) bu (by kernel_rfl) rfl rfl g13 e15) <| zS rfl (dr bV rfl (n := 2) (by kernel_rfl) rfl (aj rfl)) <| ap rfl rfl (aW rfl pI rfl (nu F x14.1 x14.2 x16 x17 e18) ?_);refine zS rfl (ag (av := .tup _) rfl) <| zS rfl (aI (av := slE _ _ _) rfl rfl) <| zS rfl (aI (av := .v _) rfl rfl) <| zS rfl (am (av := slE _ _ _) rfl) <| za rfl <| ai <| af <| af <| ab ?_;show AR _ _ _ _ _ [0, 1] _;refine zm rfl <| zS rfl (dv rfl rfl) <| ai <| aD rfl (fun c19 => ?_) (fun c19 => ?_)
    ·replace H := aZ c19 H;refine af <| ab ?_;show AR _ _ _ _ _ [0, 1, 2] _;refine zm rfl <| za rfl <| za rfl <| ai <| aP ?_;obtain ⟨rfl, rfl⟩ := fX H;exact And.intro rfl (Exists.intro _ (Exists.intro _ ⟨bH rfl (.nil _) (.refl _), aO [] rfl, rfl, rfl⟩))
    ·replace H := ba c19 H;refine aF ?_;obtain ⟨g21, H⟩ := az H;obtain ⟨x22, e23, H⟩ := bb H;refine ab ?_;show AR _ _ _ _ _ [0, 1, 2, 3] _;refine zS rfl (ag (av := slE _ _ _) rfl) <| zS rfl (ag (av := slE _ _ _) rfl) <| zX rfl (bA (E := Enc.byte) (bytes := 1) 0 aa aa rfl (by kernel_rfl) rfl rfl rfl rfl g21 e23) ?_;rintro _ _ ⟨t20, rfl, rfl⟩;refine zS rfl (am (av := slE _ _ _) rfl) <| ai ?_;obtain ⟨g24, H⟩ := az H;refine ab ?_;show AR _ _ _ _ _ [0, 1, 2] _;refine zm rfl <| zS rfl (bk rfl rfl g24) <| za rfl <| ai ?_;exact Exists.intro (n11, x22, t20, y9 + 1) ⟨H, Nat.lt_succ_self _, aU [0] (.cons (.refl _) (.cons (.refl _) (.cons (.refl _) (.nil _)))) rfl⟩
   ·replace H := ba c12 H;refine bz ?_;exact Exists.intro (y7, t8) ⟨H, aU [0] (.cons (.refl _) (.nil _)) rfl⟩
  rintro ⟨y25, t26⟩ H;replace H : iZ y25 = some (r3, r4) := H
  unfold iZ at H
  refine af ?_;obtain ⟨g29, H⟩ := az H;obtain ⟨x30, e31, H⟩ := bb H;refine ab ?_;show AR _ _ _ _ _ [0, 1, 2, 3, 4] _;refine zS rfl (ag (av := slE _ _ _) rfl) <| zR rfl (bh (E := Enc.byte) (bytes := 1) (xs := [.const _, .const _]) (l := ([13, 10] : List UInt8)) aa (by kernel_rfl) rfl rfl (by decide) rfl rfl) <| zX rfl (bA (E := Enc.byte) (bytes := 1) 0 aa aa rfl (by kernel_rfl) rfl rfl rfl rfl g29 e31) ?_;rintro _ _ ⟨t28, rfl, rfl⟩;refine zS rfl (am (av := slE _ _ _) rfl) <| za rfl <| ai <| aP ?_;obtain ⟨rfl, rfl⟩ := fX H;exact And.intro rfl (Exists.intro _ (Exists.intro _ ⟨bH rfl (.tok _ _ _) (.refl _), aO [] rfl, rfl, rfl⟩))
set_option maxRecDepth 100000 in
set_option maxHeartbeats 1000000 in
theorem sz (F : Nat) (a1 : List UInt8) (q2 : Option Nat) (r3 : Int) (H : mL F a1 = some r3) : ACalls Tryz.prog 80 [slE Enc.byte a1 q2] [] (Ret (i64 r3) []) := by
 unfold mL at H
 refine aw Tryz.func80 rfl rfl ?_;show AW _ _ 38 _ _ _;refine af <| ab ?_;show AR _ _ _ _ _ [0] _;refine za rfl <| ai <| bx (X := Unit) (fun _ => ⟨[], [], []⟩) (fun _ => iV = some r3) ?_ ?_
 ·refine af <| ab ?_;show AR _ _ _ _ _ [0] _;refine za rfl <| ai <| aJ <| bE (X := Nat × Int) (fun (n6, y4) => ⟨[(0, slE Enc.byte a1 q2), (3, i64 y4)], [], []⟩) (fun (n6, y4) => ge a1 n6 y4 = some r3) (fun (n6, y4) => n6) (F, 2) H (aU [] (.cons (.refl _) (.cons (.refl _) (.nil _))) rfl) ?_;rintro ⟨n6, y4⟩ H;obtain ⟨n6, rfl, H⟩ := bX H;replace H : iW a1 (ge a1 n6) y4 = some r3 := H
  unfold iW at H
  refine af <| af <| ab ?_;show AR _ _ _ _ _ [0, 1, 2, 3] _;refine zm rfl <| zS rfl (ag (av := slE _ _ _) rfl) <| zS rfl (aH aa rfl) <| zS rfl (dd rfl rfl) <| ai <| aD rfl (fun c7 => ?_) (fun c7 => ?_)
  ·replace H := aZ c7 H;refine aF <| af <| aJ <| af ?_;obtain ⟨g8, H⟩ := az H;obtain ⟨g9, H⟩ := az H;obtain ⟨x10, e11, H⟩ := bb H;obtain ⟨g13, H⟩ := cb H;obtain ⟨g14, H⟩ := cb H;obtain ⟨x15, e16, H⟩ := bb H;obtain ⟨g19, H⟩ := cb H;obtain ⟨x20, e21, H⟩ := bb H;refine ab ?_;show AR _ _ _ _ _ [0, 1, 2, 3, 4, 5, 6, 7, 8, 9, 10, 11, 12, 13, 14, 15, 16, 17, 18, 19, 20, 21, 22, 23, 24, 25, 26] _;refine zS rfl (ag (av := slE _ _ _) rfl) <| zm rfl <| zS rfl (jz rfl rfl g8) <| zS rfl (aY (E := Enc.byte) aa (by kernel_rfl) rfl rfl g9 e11) <| zS rfl (aL au rfl rfl) <| zS rfl (dt (a := x10) (b := 13) rfl rfl) <| zm rfl <| aQ (l := [14, 15, 16, 17, 18, 19, 20, 21, 22, 23, 24, 25, 26]) 23 (B ((decide (x10 = 13)) && (decide (x15 = 10)))) (fun K => ?_) ?_
   ·rcases ah (decide (x10 = 13)) with h12 | h12
    ·refine zU h12 rfl (ag (av := slE _ _ _) rfl) <| zM h12 rfl <| zU h12 rfl (jz rfl rfl (g13 h12)) <| zU h12 rfl (aY (E := Enc.byte) aa (by kernel_rfl) rfl rfl (g14 h12) e16) <| zU h12 rfl (aL au rfl rfl) <| zU h12 rfl (dt (a := x15) (b := 10) rfl rfl) <| zS rfl (ax (av := .v _) rfl h12 rfl) ?_;exact K _ 6 _ (an (cc h12)) rfl rfl
    ·refine zF h12 rfl <| zF h12 rfl <| zF h12 rfl <| zF h12 rfl <| zF h12 rfl <| zF h12 rfl <| zS rfl (ay (av := .v _) rfl h12 rfl) ?_;exact K _ 6 _ (an (cd h12)) rfl rfl
   refine zm rfl <| aQ (l := []) 36 (B (((decide (x10 = 13)) && (decide (x15 = 10))) && ((decide (y4 = (a1.length : Int))) || (!decide (x20 = 32))))) (fun K => ?_) ?_
   ·rcases ah ((decide (x10 = 13)) && (decide (x15 = 10))) with h17 | h17
    ·refine zM h17 rfl <| zU h17 rfl (ag (av := slE _ _ _) rfl) <| zU h17 rfl (aH aa rfl) <| zU h17 rfl (dm rfl rfl) <| zM h17 rfl <| aQ (l := [26]) 35 (B ((decide (y4 = (a1.length : Int))) || (!decide (x20 = 32)))) (fun K => ?_) ?_
     ·rcases ah (decide (y4 = (a1.length : Int))) with h18 | h18
      ·refine zF h18 rfl <| zF h18 rfl <| zF h18 rfl <| zF h18 rfl <| zF h18 rfl <| zU h17 rfl (ax (av := .v _) rfl h18 rfl) ?_;exact K _ 5 _ (an (dC h18)) rfl rfl
      ·refine zU h18 rfl (ag (av := slE _ _ _) rfl) <| zM h18 rfl <| zU h18 rfl (aY (E := Enc.byte) aa (by kernel_rfl) rfl rfl (g19 (mn h17 (nf h18))) e21) <| zU h18 rfl (aL au rfl rfl) <| zU h18 rfl (mt (a := x20) (b := 32) rfl rfl) <| zU h17 rfl (ay (av := .v _) rfl h18 rfl) ?_;exact K _ 5 _ (an (dD h18)) rfl rfl
     refine zS rfl (ax (av := .v _) rfl h17 rfl) ?_;exact K _ 6 _ (an (cc h17)) rfl rfl
    ·refine zF h17 rfl <| zF h17 rfl <| zF h17 rfl <| zF h17 rfl <| zF h17 rfl <| gU rfl rfl rfl rfl rfl <| gU rfl rfl rfl rfl rfl <| gU rfl rfl rfl rfl rfl <| gU rfl rfl rfl rfl rfl <| gU rfl rfl rfl rfl rfl <| zF h17 rfl <| zS rfl (ay (av := .v _) rfl h17 rfl) ?_;exact K _ 11 _ (an (cd h17)) rfl rfl
   refine ai <| aD rfl (fun c22 => ?_) (fun c22 => ?_)
   ·replace H := aZ c22 H;refine af <| ab ?_;show AR _ _ _ _ _ [0, 1] _;refine zm rfl <| za rfl <| ai <| aP ?_;obtain rfl := ak H;exact And.intro rfl (Exists.intro _ (Exists.intro _ ⟨aV rfl (.refl _), aO [] rfl, rfl, rfl⟩))
   ·replace H := ba c22 H;refine aF ?_;obtain ⟨g23, H⟩ := az H;refine ab ?_;show AR _ _ _ _ _ [0, 1, 2] _;refine zm rfl <| zS rfl (bk rfl rfl g23) <| za rfl <| ai ?_;exact Exists.intro (n6, y4 + 1) ⟨H, Nat.lt_succ_self _, aU [] (.cons (.refl _) (.cons (.refl _) (.nil _))) rfl⟩
  ·replace H := ba c7 H;refine bz ?_;exact Exists.intro () ⟨H, aU [] (.nil _) rfl⟩
 rintro _ H;replace H : iV = some r3 := H
 unfold iV at H
 refine af <| ab ?_;show AR _ _ _ _ _ [0] _;refine za rfl <| ai <| aP ?_;obtain rfl := ak H;exact And.intro rfl (Exists.intro _ (Exists.intro _ ⟨aV rfl (.refl _), aO [] rfl, rfl, rfl⟩))
set_option maxRecDepth 100000 in
set_option maxHeartbeats 1000000 in
theorem sA (F : Nat) (a1 : List UInt8) (q2 : Option Nat) (r3 : List ((List UInt8) × List UInt8)) (r4 : List UInt8) (r5 : Int) (H : lC F a1 = some (r3, r4, r5)) : ACalls Tryz.prog 57 [slE Enc.byte a1 q2] [] (Ret (.tup [slE (cA Enc.str Enc.str) r3 none, slE Enc.byte r4 none, i64 r5]) []) := by
 unfold lC at H
 refine aw Tryz.func57 rfl rfl ?_;show AW _ _ 56 _ _ _;refine af <| ab ?_;show AR _ _ _ _ _ [0, 1, 2] _;refine za rfl <| za rfl <| za rfl <| ai <| af <| ab ?_;show AR _ _ _ _ _ [0] _;refine za rfl <| ai ?_
 refine bL 5 2 71 rfl fun t6 => ?_
 show AW _ _ _ _ _ ⟨(5, slE (cA Enc.str Enc.str) [] (some t6)) :: _, _, _⟩;refine bx (X := Unit) (fun _ => ⟨[], [], []⟩) (fun _ => ko = some (r3, r4, r5)) ?_ ?_
 ·refine aJ <| bE (X := Nat × (List UInt8) × (List ((List UInt8) × List UInt8)) × Nat) (fun (n11, y7, y8, t9) => ⟨[(0, slE Enc.byte y7 none), (5, slE (cA Enc.str Enc.str) y8 (some t9))], [], [.tok t9 71]⟩) (fun (n11, y7, y8, t9) => iX F n11 (y7, y8) = some (r3, r4, r5)) (fun (n11, y7, y8, t9) => n11) (F, a1, [], t6) H (aU [0] (.cons (.tok _ _ _) (.cons (.refl _) (.nil _))) rfl) ?_;rintro ⟨n11, y7, y8, t9⟩ H;obtain ⟨n11, rfl, H⟩ := bX H;replace H : iY F (iX F n11) y7 y8 = some (r3, r4, r5) := H
  unfold iY at H
  refine af <| af <| ab ?_;show AR _ _ _ _ _ [0, 1, 2] _;refine zS rfl (ag (av := slE _ _ _) rfl) <| zS rfl (aH bu rfl) <| zS rfl (dd rfl rfl) <| ai <| aD rfl (fun c12 => ?_) (fun c12 => ?_)
  ·replace H := aZ c12 H;refine aF <| aJ <| af <| af ?_;obtain ⟨g14, H⟩ := cb H;obtain ⟨x15, e16, H⟩ := bb H;obtain ⟨g18, H⟩ := cb H;obtain ⟨x19, e20, H⟩ := bb H;refine ab ?_;show AR _ _ _ _ _ [0, 1, 2, 3, 4, 5, 6, 7, 8, 9, 10, 11, 12, 13, 14] _;refine zS rfl (ag (av := slE _ _ _) rfl) <| zS rfl (aH aa rfl) <| zS rfl (dl rfl rfl) <| zm rfl <| aQ (l := [9, 10, 11, 12, 13, 14]) 20 (B ((decide (2 ≤ (y7.length : Int))) && (decide (x15 = 13)))) (fun K => ?_) ?_
   ·rcases ah (decide (2 ≤ (y7.length : Int))) with h13 | h13
    ·refine zU h13 rfl (ag (av := slE _ _ _) rfl) <| zU h13 rfl (aY (E := Enc.byte) aa (by kernel_rfl) rfl rfl (g14 h13) e16) <| zU h13 rfl (aL au rfl rfl) <| zU h13 rfl (dt (a := x15) (b := 13) rfl rfl) <| zS rfl (ax (av := .v _) rfl h13 rfl) ?_;exact K _ 4 _ (an (cc h13)) rfl rfl
    ·refine zF h13 rfl <| zF h13 rfl <| zF h13 rfl <| zF h13 rfl <| zS rfl (ay (av := .v _) rfl h13 rfl) ?_;exact K _ 4 _ (an (cd h13)) rfl rfl
   refine zm rfl <| aQ (l := []) 26 (B (((decide (2 ≤ (y7.length : Int))) && (decide (x15 = 13))) && (decide (x19 = 10)))) (fun K => ?_) ?_
   ·rcases ah ((decide (2 ≤ (y7.length : Int))) && (decide (x15 = 13))) with h17 | h17
    ·refine zU h17 rfl (ag (av := slE _ _ _) rfl) <| zU h17 rfl (aY (E := Enc.byte) aa (by kernel_rfl) rfl rfl (g18 h17) e20) <| zU h17 rfl (aL au rfl rfl) <| zU h17 rfl (dt (a := x19) (b := 10) rfl rfl) <| zS rfl (ax (av := .v _) rfl h17 rfl) ?_;exact K _ 4 _ (an (cc h17)) rfl rfl
    ·refine zF h17 rfl <| zF h17 rfl <| zF h17 rfl <| zF h17 rfl <| zS rfl (ay (av := .v _) rfl h17 rfl) ?_;exact K _ 4 _ (an (cd h17)) rfl rfl
   refine ai <| aD rfl (fun c21 => ?_) (fun c21 => ?_)
   ·replace H := aZ c21 H;refine af ?_;obtain ⟨g22, H⟩ := az H;obtain ⟨x23, e24, H⟩ := bb H;obtain ⟨g26, H⟩ := az H;refine ab ?_;show AR _ _ _ _ _ [0, 1, 2, 3, 4, 5, 6] _;refine zS rfl (ag (av := slE _ _ _) rfl) <| zS rfl (ag (av := slE _ _ _) rfl) <| zS rfl (gx (E := Enc.byte) aa (by kernel_rfl) rfl rfl g22 e24) <| zX rfl (ny (E := Enc.byte) (bytes := 1) aa aa rfl (by kernel_rfl) rfl rfl rfl g26) ?_;rintro _ _ ⟨t25, rfl, rfl⟩;refine zS rfl (am (av := slE _ _ _) rfl) <| zS rfl (am (av := slE _ _ _) rfl) <| za rfl <| ai <| aP ?_;obtain ⟨rfl, rfl, rfl⟩ := gz H;exact And.intro rfl (Exists.intro _ (Exists.intro _ ⟨bp rfl (.tok _ _ _) (.tok _ _ _) (.refl _), aO [] rfl, rfl, rfl⟩))
   ·replace H := ba c21 H;refine aF <| af ?_;obtain ⟨x27, e28, H⟩ := cT H;refine ab ?_;show AR _ _ _ _ _ [0, 1, 2] _;refine zS rfl (ag (av := slE _ _ _) rfl) <| ap rfl rfl (aW rfl uY rfl (sz F y7 none x27 e28) ?_);refine za rfl <| ai <| af <| af <| ab ?_;show AR _ _ _ _ _ [0, 1, 2, 3, 4, 5, 6] _;refine zm rfl <| zS rfl (bB rfl rfl) <| zm rfl <| aQ (l := []) 39 (B ((decide (x27 < 0)) || (decide ((y8.length : Int) = 50)))) (fun K => ?_) ?_
    ·rcases ah (decide (x27 < 0)) with h29 | h29
     ·refine zF h29 rfl <| zF h29 rfl <| zF h29 rfl <| zS rfl (ax (av := .v _) rfl h29 rfl) ?_;exact K _ 3 _ (an (dC h29)) rfl rfl
     ·refine zU h29 rfl (ag (av := slE _ _ _) rfl) <| zU h29 rfl (aH bu rfl) <| zU h29 rfl (dm rfl rfl) <| zS rfl (ay (av := .v _) rfl h29 rfl) ?_;exact K _ 3 _ (an (dD h29)) rfl rfl
    refine ai <| aD rfl (fun c30 => ?_) (fun c30 => ?_)
    ·replace H := aZ c30 H;refine af <| ab ?_;show AR _ _ _ _ _ [0, 1, 2] _;refine za rfl <| za rfl <| za rfl <| ai <| aP ?_;obtain ⟨rfl, rfl, rfl⟩ := gz H;exact And.intro rfl (Exists.intro _ (Exists.intro _ ⟨bp rfl (.nil _) (.nil _) (.refl _), aO [] rfl, rfl, rfl⟩))
    ·replace H := ba c30 H;refine aF <| af ?_;obtain ⟨g31, H⟩ := az H;obtain ⟨x32, e33, H⟩ := bb H;obtain ⟨x34, x35, x36, e37, H⟩ := kj H;refine ab ?_;show AR _ _ _ _ _ [0, 1, 2, 3, 4, 5, 6, 7, 8, 9] _;refine zS rfl (ag (av := slE _ _ _) rfl) <| zm rfl <| zS rfl (lu (E := Enc.byte) aa (by kernel_rfl) rfl rfl g31 e33) <| ap rfl rfl (aW rfl uX rfl (rn F x32 none x34 x35 x36 e37) ?_);refine zS rfl (ag (av := .tup _) rfl) <| zS rfl (aI (av := .agg _) rfl rfl) <| zS rfl (aI (av := .v _) rfl rfl) <| zX rfl (de (zs := [.string ⟨#[]⟩, .string ⟨#[]⟩]) (by kernel_rfl)) ?_;rintro _ _ ⟨o38, rfl, rfl⟩;refine s0 rfl rfl (cq (i := 0) (vs := [S x34, S x35]) (by kernel_rfl) rfl rfl (by simp [cw, slE]) rfl (aj rfl)) <| AR.freezeCp 7 0 rfl rfl ?_;show AR _ _ _ _ _ _ ⟨_, _, [.tok t9 71]⟩;refine za rfl <| ai <| af <| af <| ab ?_;show AR _ _ _ _ _ [0, 1] _;refine zm rfl <| zS rfl (dv rfl rfl) <| ai <| aD rfl (fun c39 => ?_) (fun c39 => ?_)
     ·replace H := aZ c39 H;refine af <| ab ?_;show AR _ _ _ _ _ [0, 1, 2] _;refine za rfl <| za rfl <| za rfl <| ai <| aP ?_;obtain ⟨rfl, rfl, rfl⟩ := gz H;exact And.intro rfl (Exists.intro _ (Exists.intro _ ⟨bp rfl (.nil _) (.nil _) (.refl _), aO [] rfl, rfl, rfl⟩))
     ·replace H := ba c39 H;refine aF <| af ?_;obtain ⟨g41, H⟩ := az H;obtain ⟨x42, e43, H⟩ := bb H;refine ab ?_;show AR _ _ _ _ _ [0, 1, 2, 3, 4] _;refine zS rfl (ag (av := slE _ _ _) rfl) <| zS rfl (dr bV rfl (n := 2) (by kernel_rfl) rfl (aj rfl)) <| zR rfl (ku (E := (cA Enc.str Enc.str)) (bytes := 32) (zs := [.string ⟨#[]⟩, .string ⟨#[]⟩]) (l := ([(x34, x35)] : List ((List UInt8) × List UInt8))) bu (by kernel_rfl) (by kernel_rfl) rfl rfl rfl rfl rfl) <| zX rfl (bA (E := (cA Enc.str Enc.str)) (bytes := 32) 0 bu bu rfl (by kernel_rfl) rfl rfl rfl rfl g41 e43) ?_;rintro _ _ ⟨t40, rfl, rfl⟩;refine zS rfl (am (av := slE _ _ _) rfl) <| ai ?_;obtain ⟨g44, H⟩ := az H;obtain ⟨x45, e46, H⟩ := bb H;refine ab ?_;show AR _ _ _ _ _ [0, 1, 2, 3] _;refine zS rfl (ag (av := slE _ _ _) rfl) <| zm rfl <| zS rfl (gx (E := Enc.byte) aa (by kernel_rfl) rfl rfl g44 e46) <| zS rfl (am (av := slE _ _ _) rfl) <| ai ?_;exact Exists.intro (n11, x45, x42, t40) ⟨H, Nat.lt_succ_self _, aU [0] (.cons (.refl _) (.cons (.refl _) (.nil _))) rfl⟩
  ·replace H := ba c12 H;refine bz ?_;exact Exists.intro () ⟨H, aU [] (.nil _) rfl⟩
 rintro _ H;replace H : ko = some (r3, r4, r5) := H
 unfold ko at H
 refine af <| ab ?_;show AR _ _ _ _ _ [0, 1, 2] _;refine za rfl <| za rfl <| za rfl <| ai <| aP ?_;obtain ⟨rfl, rfl, rfl⟩ := gz H;exact And.intro rfl (Exists.intro _ (Exists.intro _ ⟨bp rfl (.nil _) (.nil _) (.refl _), aO [] rfl, rfl, rfl⟩))
end Go.Proofs.YtdaafnaokdigbaaGreatDoor
namespace Go.Pv
def lK : List UInt8 := [67, 111, 110, 116, 101, 110, 116, 45, 84, 114, 97, 110, 115, 102, 101, 114, 45, 69, 110, 99, 111, 100, 105, 110, 103]
def eY (y25 : List UInt8) : Option ((List UInt8)) :=
some y25
def fa (rec12 : (Int × (List UInt8)) → Option ((List UInt8))) (y10 : Int) (y11 : List UInt8) : Option ((List UInt8)) :=
bif decide (0 < y10) then
  grd (fv y10 10) <|
  grd (fv y10 10) <|
  grd (okI ((y10 % 10) + 1)) <|
  grd (kl (y10 % 10) ((y10 % 10) + 1) ([48, 49, 50, 51, 52, 53, 54, 55, 56, 57] : List UInt8).length) <|
  lt (sub ([48, 49, 50, 51, 52, 53, 54, 55, 56, 57] : List UInt8) (y10 % 10) ((y10 % 10) + 1)) fun x19 =>
  grd (bw (x19.length + y11.length)) <|
  lt (x19 ++ y11) fun x22 =>
  grd (fv y10 10) <|
  rec12 (y10 / 10, x22)
else
  eY y11
def eZ (n : Nat) : (Int × (List UInt8)) → Option ((List UInt8)) :=
  loop (fun rec x => fa rec x.1 x.2) n
def je (F : Nat) (a1 : Int) : Option ((List UInt8)) :=
grd (fv a1 10) <|
grd (fv a1 10) <|
grd (okI ((a1 % 10) + 1)) <|
grd (kl (a1 % 10) ((a1 % 10) + 1) ([48, 49, 50, 51, 52, 53, 54, 55, 56, 57] : List UInt8).length) <|
lt (sub ([48, 49, 50, 51, 52, 53, 54, 55, 56, 57] : List UInt8) (a1 % 10) ((a1 % 10) + 1)) fun x7 =>
grd (fv a1 10) <|
eZ F (a1 / 10, x7)
def lE (F : Nat) (a1 : UInt8) : Option ((List UInt8)) :=
grd (fv (a1.toNat : Int) 16) <|
grd (fv (a1.toNat : Int) 16) <|
grd (okI (((a1.toNat : Int) / 16) + 1)) <|
grd (kl ((a1.toNat : Int) / 16) (((a1.toNat : Int) / 16) + 1) ([48, 49, 50, 51, 52, 53, 54, 55, 56, 57, 65, 66, 67, 68, 69, 70] : List UInt8).length) <|
lt (sub ([48, 49, 50, 51, 52, 53, 54, 55, 56, 57, 65, 66, 67, 68, 69, 70] : List UInt8) ((a1.toNat : Int) / 16) (((a1.toNat : Int) / 16) + 1)) fun x7 =>
grd (fv (a1.toNat : Int) 16) <|
grd (fv (a1.toNat : Int) 16) <|
grd (okI (((a1.toNat : Int) % 16) + 1)) <|
grd (kl ((a1.toNat : Int) % 16) (((a1.toNat : Int) % 16) + 1) ([48, 49, 50, 51, 52, 53, 54, 55, 56, 57, 65, 66, 67, 68, 69, 70] : List UInt8).length) <|
lt (sub ([48, 49, 50, 51, 52, 53, 54, 55, 56, 57, 65, 66, 67, 68, 69, 70] : List UInt8) ((a1.toNat : Int) % 16) (((a1.toNat : Int) % 16) + 1)) fun x13 =>
grd (bw (x7.length + x13.length)) <|
lt (x7 ++ x13) fun x16 =>
some x16
def ka (F : Nat) (a1 : List UInt8) (a3 : Int) : Option Bool :=
grd (bQ a3 a1.length) <|
lt (at_ a1 a3) fun x6 =>
bif (decide (x6 = 32)) || (decide (x6 = 9)) then
  grd (okI (a3 + 1)) <|
  cz (decide (a3 + 1 < (a1.length : Int))) (okI (a3 + 1)) <|
  cz (decide (a3 + 1 < (a1.length : Int))) (bQ (a3 + 1) a1.length) <|
  lt (at_ a1 (a3 + 1)) fun x14 =>
  some ((decide (a3 + 1 < (a1.length : Int))) && (!decide (x14 = 10)))
else
  some (((decide (33 ≤ (x6.toNat : Int))) && (decide ((x6.toNat : Int) ≤ 126))) && (!decide (x6 = 61)))
def eU (y57 : List UInt8) : Option ((List UInt8)) :=
some y57
def dq (y8 : Int) (rec9 : ((List UInt8) × Int × Int) → Option ((List UInt8))) (y52 : List UInt8) (y54 : Int) : Option ((List UInt8)) :=
grd (okI (y8 + 1)) <|
rec9 (y52, y54, y8 + 1)
def dL (y8 : Int) (y35 : List UInt8) (rec9 : ((List UInt8) × Int × Int) → Option ((List UInt8))) (y43 : List UInt8) (y45 : Int) : Option ((List UInt8)) :=
grd (bw (y43.length + y35.length)) <|
lt (y43 ++ y35) fun x49 =>
grd (okI (y45 + (y35.length : Int))) <|
dq y8 rec9 x49 (y45 + (y35.length : Int))
def cV (y5 : List UInt8) (y7 : Int) (y8 : Int) (rec9 : ((List UInt8) × Int × Int) → Option ((List UInt8))) (y35 : List UInt8) : Option ((List UInt8)) :=
grd (okI (y7 + (y35.length : Int))) <|
bif decide (75 < y7 + (y35.length : Int)) then
  grd (bw (y5.length + ([61, 13, 10] : List UInt8).length)) <|
  lt (y5 ++ ([61, 13, 10] : List UInt8)) fun x41 =>
  dL y8 y35 rec9 x41 0
else
  dL y8 y35 rec9 y5 y7
def eV (F : Nat) (a1 : List UInt8) (rec9 : ((List UInt8) × Int × Int) → Option ((List UInt8))) (y5 : List UInt8) (y7 : Int) (y8 : Int) : Option ((List UInt8)) :=
bif decide (y8 < (a1.length : Int)) then
  grd (bQ y8 a1.length) <|
  lt (at_ a1 y8) fun x13 =>
  bif decide (x13 = 10) then
    grd (bw (y5.length + ([13, 10] : List UInt8).length)) <|
    lt (y5 ++ ([13, 10] : List UInt8)) fun x18 =>
    dq y8 rec9 x18 0
  else
    grd (bQ y8 a1.length) <|
    lt (at_ a1 y8) fun x21 =>
    bnd (lE F x21) fun x23 =>
    grd (bw (([61] : List UInt8).length + x23.length)) <|
    lt (([61] : List UInt8) ++ x23) fun x26 =>
    bnd (ka F a1 y8) fun x28 =>
    bif x28 then
      grd (okI (y8 + 1)) <|
      grd (kl y8 (y8 + 1) a1.length) <|
      lt (sub a1 y8 (y8 + 1)) fun x33 =>
      cV y5 y7 y8 rec9 x33
    else
      cV y5 y7 y8 rec9 x26
else
  eU y5
def ci (F : Nat) (a1 : List UInt8) (n : Nat) : ((List UInt8) × Int × Int) → Option ((List UInt8)) :=
  loop (fun rec x => eV F a1 rec x.1 x.2.1 x.2.2) n
def kr (F : Nat) (a1 : List UInt8) : Option ((List UInt8)) :=
ci F a1 F ([], 0, 0)
def iJ (F : Nat) (a1 : UInt8) : Option Int :=
bif (decide (48 ≤ (a1.toNat : Int))) && (decide ((a1.toNat : Int) ≤ 57)) then
  some ((a1 - 48).toNat : Int)
else
  bif (decide (65 ≤ (a1.toNat : Int))) && (decide ((a1.toNat : Int) ≤ 70)) then
    grd (okI (((a1 - 65).toNat : Int) + 10)) <|
    some (((a1 - 65).toNat : Int) + 10)
  else
    bif (decide (97 ≤ (a1.toNat : Int))) && (decide ((a1.toNat : Int) ≤ 102)) then
      grd (okI (((a1 - 97).toNat : Int) + 10)) <|
      some (((a1 - 97).toNat : Int) + 10)
    else
      some (-1)
def eW (y75 : List UInt8) : Option ((List UInt8) × Int) :=
some (y75, 0)
def cK (rec9 : ((List UInt8) × Int) → Option ((List UInt8) × Int)) (y70 : List UInt8) (y72 : Int) : Option ((List UInt8) × Int) :=
grd (okI (y72 + 1)) <|
rec9 (y70, y72 + 1)
def eX (F : Nat) (a1 : List UInt8) (rec9 : ((List UInt8) × Int) → Option ((List UInt8) × Int)) (y6 : List UInt8) (y8 : Int) : Option ((List UInt8) × Int) :=
bif decide (y8 < (a1.length : Int)) then
  grd (bQ y8 a1.length) <|
  lt (at_ a1 y8) fun x13 =>
  cz (decide (x13 = 13)) (okI (y8 + 1)) <|
  cz ((decide (x13 = 13)) && (decide (y8 + 1 < (a1.length : Int)))) (okI (y8 + 1)) <|
  cz ((decide (x13 = 13)) && (decide (y8 + 1 < (a1.length : Int)))) (bQ (y8 + 1) a1.length) <|
  lt (at_ a1 (y8 + 1)) fun x20 =>
  bif ((decide (x13 = 13)) && (decide (y8 + 1 < (a1.length : Int)))) && (decide (x20 = 10)) then
    grd (bw (y6.length + ([10] : List UInt8).length)) <|
    lt (y6 ++ ([10] : List UInt8)) fun x25 =>
    grd (okI (y8 + 1)) <|
    cK rec9 x25 (y8 + 1)
  else
    bif !decide (x13 = 61) then
      bif (!decide (x13 = 9)) && ((decide ((x13.toNat : Int) < 32)) || (decide (126 < (x13.toNat : Int)))) then
        some ([], 2)
      else
        grd (bw (y6.length + ([x13] : List UInt8).length)) <|
        lt (y6 ++ ([x13] : List UInt8)) fun x34 =>
        cK rec9 x34 y8
    else
      grd (okI (y8 + 2)) <|
      bif decide ((a1.length : Int) ≤ y8 + 2) then
        some ([], 2)
      else
        grd (okI (y8 + 1)) <|
        grd (bQ (y8 + 1) a1.length) <|
        lt (at_ a1 (y8 + 1)) fun x40 =>
        bnd (iJ F x40) fun x42 =>
        grd (okI (y8 + 2)) <|
        grd (bQ (y8 + 2) a1.length) <|
        lt (at_ a1 (y8 + 2)) fun x46 =>
        bnd (iJ F x46) fun x48 =>
        grd (okI (y8 + 1)) <|
        grd (bQ (y8 + 1) a1.length) <|
        lt (at_ a1 (y8 + 1)) fun x52 =>
        cz (decide (x52 = 13)) (okI (y8 + 2)) <|
        cz (decide (x52 = 13)) (bQ (y8 + 2) a1.length) <|
        lt (at_ a1 (y8 + 2)) fun x57 =>
        bif (decide (x52 = 13)) && (decide (x57 = 10)) then
          grd (okI (y8 + 2)) <|
          cK rec9 y6 (y8 + 2)
        else
          bif (decide (x42 < 0)) || (decide (x48 < 0)) then
            some ([], 2)
          else
            grd (okI (16 * x42)) <|
            grd (okI ((16 * x42) + x48)) <|
            grd (bw (y6.length + ([Go.Av.toB ((16 * x42) + x48)] : List UInt8).length)) <|
            lt (y6 ++ ([Go.Av.toB ((16 * x42) + x48)] : List UInt8)) fun x67 =>
            grd (okI (y8 + 2)) <|
            cK rec9 x67 (y8 + 2)
else
  eW y6
def cW (F : Nat) (a1 : List UInt8) (n : Nat) : ((List UInt8) × Int) → Option ((List UInt8) × Int) :=
  loop (fun rec x => eX F a1 rec x.1 x.2) n
def kt (F : Nat) (a1 : List UInt8) : Option ((List UInt8) × Int) :=
cW F a1 F ([], 0)
def jS : Option Int :=
some (-1)
def jU (a1 : List UInt8) (a2 : List UInt8) (rec6 : Int → Option Int) (y5 : Int) : Option Int :=
grd (okI (y5 + (a2.length : Int))) <|
bif decide (y5 + (a2.length : Int) ≤ (a1.length : Int)) then
  grd (okI (y5 + (a2.length : Int))) <|
  grd (kl y5 (y5 + (a2.length : Int)) a1.length) <|
  lt (sub a1 y5 (y5 + (a2.length : Int))) fun x12 =>
  bif decide (x12 = a2) then
    some y5
  else
    grd (okI (y5 + 1)) <|
    rec6 (y5 + 1)
else
  jS
def jT (a1 : List UInt8) (a2 : List UInt8) (n : Nat) : Int → Option Int :=
  loop (fun rec x => jU a1 a2 rec x) n
def kW (F : Nat) (a1 : List UInt8) (a2 : List UInt8) (a3 : Int) : Option Int :=
jT a1 a2 F a3
def dN (y4 : Int) (rec5 : Int → Option ((List UInt8))) : Option ((List UInt8)) :=
grd (okI (y4 + 1)) <|
rec5 (y4 + 1)
def dp (y4 : Int) (rec5 : Int → Option ((List UInt8))) (x10 : List UInt8) (y24 : Bool) : Option ((List UInt8)) :=
bif !y24 then
  some x10
else
  dN y4 rec5
def dR (F : Nat) (a1 : List (List UInt8)) (y4 : Int) (rec5 : Int → Option ((List UInt8))) (x10 : List UInt8) (rec14 : (Bool × Int) → Option ((List UInt8))) (y12 : Bool) (y13 : Int) : Option ((List UInt8)) :=
bif decide (y13 < (a1.length : Int)) then
  cz (!y12) (bQ y13 a1.length) <|
  lt (at_ a1 y13) fun x19 =>
  bndc (!y12) (kW F x19 x10 0) fun x21 =>
  grd (okI (y13 + 1)) <|
  rec14 (y12 || (decide (0 ≤ x21)), y13 + 1)
else
  dp y4 rec5 x10 y12
def dP (F : Nat) (a1 : List (List UInt8)) (y4 : Int) (rec5 : Int → Option ((List UInt8))) (x10 : List UInt8) (n : Nat) : (Bool × Int) → Option ((List UInt8)) :=
  loop (fun rec x => dR F a1 y4 rec5 x10 rec x.1 x.2) n
def dQ (F : Nat) (a1 : List (List UInt8)) (rec5 : Int → Option ((List UInt8))) (y4 : Int) : Option ((List UInt8)) :=
bnd (je F y4) fun x7 =>
grd (bw (([61, 95] : List UInt8).length + x7.length)) <|
lt (([61, 95] : List UInt8) ++ x7) fun x10 =>
dP F a1 y4 rec5 x10 F (false, 0)
def bU (F : Nat) (a1 : List (List UInt8)) (n : Nat) : Int → Option ((List UInt8)) :=
  loop (fun rec x => dQ F a1 rec x) n
def iP (F : Nat) (a1 : List (List UInt8)) : Option ((List UInt8)) :=
bU F a1 F 0
def dV (a1 : List UInt8) : Option Bool :=
some ((decide (1 ≤ (a1.length : Int))) && (decide ((a1.length : Int) ≤ 60)))
def gE (a1 : List UInt8) (rec4 : Int → Option Bool) (y3 : Int) : Option Bool :=
bif decide (y3 < (a1.length : Int)) then
  grd (bQ y3 a1.length) <|
  lt (at_ a1 y3) fun x8 =>
  cz ((decide (x8 = 32)) && (decide (0 < y3))) (okI ((a1.length : Int) - 1)) <|
  cz (((decide (x8 = 32)) && (decide (0 < y3))) && (decide (y3 < (a1.length : Int) - 1))) (okI (y3 - 1)) <|
  cz (((decide (x8 = 32)) && (decide (0 < y3))) && (decide (y3 < (a1.length : Int) - 1))) (bQ (y3 - 1) a1.length) <|
  lt (at_ a1 (y3 - 1)) fun x23 =>
  bif (!(((((((decide (97 ≤ (x8.toNat : Int))) && (decide ((x8.toNat : Int) ≤ 122))) || ((decide (48 ≤ (x8.toNat : Int))) && (decide ((x8.toNat : Int) ≤ 57)))) || (decide (x8 = 47))) || (decide (x8 = 45))) || (decide (x8 = 61))) || (decide (x8 = 59)))) && (!((((decide (x8 = 32)) && (decide (0 < y3))) && (decide (y3 < (a1.length : Int) - 1))) && (!decide (x23 = 32)))) then
    some false
  else
    grd (okI (y3 + 1)) <|
    rec4 (y3 + 1)
else
  dV a1
def fe (a1 : List UInt8) (n : Nat) : Int → Option Bool :=
  loop (fun rec x => gE a1 rec x) n
def lR (F : Nat) (a1 : List UInt8) : Option Bool :=
fe a1 F 0
def gD (F : Nat) (a1 : List UInt8) : Option ((List UInt8)) :=
kV (kC F ([(([67, 111, 110, 116, 101, 110, 116, 45, 84, 121, 112, 101] : List UInt8), a1), (lK, ([113, 117, 111, 116, 101, 100, 45, 112, 114, 105, 110, 116, 97, 98, 108, 101] : List UInt8))] : List ((List UInt8) × List UInt8))) fun x3 x4 =>
some x3
def gG (x37 : List UInt8) (y77 : List UInt8) : Option ((List UInt8) × (List UInt8) × Int) :=
grd (bw (([45, 45] : List UInt8).length + x37.length)) <|
lt (([45, 45] : List UInt8) ++ x37) fun x81 =>
grd (bw (x81.length + ([45, 45, 13, 10] : List UInt8).length)) <|
lt (x81 ++ ([45, 45, 13, 10] : List UInt8)) fun x84 =>
grd (bw (y77.length + x84.length)) <|
lt (y77 ++ x84) fun x88 =>
some (x88, x37, 0)
def gJ (F : Nat) (a1 : List (List UInt8)) (a3 : List (List UInt8)) (y34 : List (List UInt8)) (x37 : List UInt8) (rec43 : ((List UInt8) × Int) → Option ((List UInt8) × (List UInt8) × Int)) (y40 : List UInt8) (y42 : Int) : Option ((List UInt8) × (List UInt8) × Int) :=
bif decide (y42 < (a3.length : Int)) then
  grd (bw (([45, 45] : List UInt8).length + x37.length)) <|
  lt (([45, 45] : List UInt8) ++ x37) fun x47 =>
  grd (bw (x47.length + ([13, 10] : List UInt8).length)) <|
  lt (x47 ++ ([13, 10] : List UInt8)) fun x50 =>
  grd (bw (y40.length + x50.length)) <|
  lt (y40 ++ x50) fun x54 =>
  grd (bQ y42 a1.length) <|
  lt (at_ a1 y42) fun x57 =>
  bnd (gD F x57) fun x59 =>
  grd (bw (x54.length + x59.length)) <|
  lt (x54 ++ x59) fun x63 =>
  grd (bQ y42 y34.length) <|
  lt (at_ y34 y42) fun x66 =>
  grd (bw (x63.length + x66.length)) <|
  lt (x63 ++ x66) fun x70 =>
  grd (bw (x70.length + ([13, 10] : List UInt8).length)) <|
  lt (x70 ++ ([13, 10] : List UInt8)) fun x74 =>
  grd (okI (y42 + 1)) <|
  rec43 (x74, y42 + 1)
else
  gG x37 y40
def fg (F : Nat) (a1 : List (List UInt8)) (a3 : List (List UInt8)) (y34 : List (List UInt8)) (x37 : List UInt8) (n : Nat) : ((List UInt8) × Int) → Option ((List UInt8) × (List UInt8) × Int) :=
  loop (fun rec x => gJ F a1 a3 y34 x37 rec x.1 x.2) n
def ff (F : Nat) (a1 : List (List UInt8)) (a3 : List (List UInt8)) (y34 : List (List UInt8)) : Option ((List UInt8) × (List UInt8) × Int) :=
bnd (iP F y34) fun x37 =>
fg F a1 a3 y34 x37 F ([], 0)
def gI (F : Nat) (a1 : List (List UInt8)) (a3 : List (List UInt8)) (rec15 : ((List (List UInt8)) × Int) → Option ((List UInt8) × (List UInt8) × Int)) (y12 : List (List UInt8)) (y14 : Int) : Option ((List UInt8) × (List UInt8) × Int) :=
bif decide (y14 < (a3.length : Int)) then
  grd (bQ y14 a1.length) <|
  lt (at_ a1 y14) fun x19 =>
  bnd (lR F x19) fun x21 =>
  bif !x21 then
    some ([], ([] : List UInt8), 1)
  else
    grd (bQ y14 a3.length) <|
    lt (at_ a3 y14) fun x25 =>
    bnd (kr F x25) fun x27 =>
    grd (bw (y12.length + ([x27] : List (List UInt8)).length)) <|
    lt (y12 ++ ([x27] : List (List UInt8))) fun x31 =>
    grd (okI (y14 + 1)) <|
    rec15 (x31, y14 + 1)
else
  ff F a1 a3 y12
def gH (F : Nat) (a1 : List (List UInt8)) (a3 : List (List UInt8)) (n : Nat) : ((List (List UInt8)) × Int) → Option ((List UInt8) × (List UInt8) × Int) :=
  loop (fun rec x => gI F a1 a3 rec x.1 x.2) n
def kI (F : Nat) (a1 : List (List UInt8)) (a3 : List (List UInt8)) : Option ((List UInt8) × (List UInt8) × Int) :=
bif ((!decide ((a1.length : Int) = (a3.length : Int))) || (decide ((a3.length : Int) < 1))) || (decide (8 < (a3.length : Int))) then
  some ([], ([] : List UInt8), 1)
else
  gH F a1 a3 F ([], 0)
def lB (F : Nat) (a1 : List UInt8) : Option ((List UInt8) × (List UInt8) × Bool) :=
grd (bw a1.length) <|
nV (lC F a1) fun x7 x8 x9 =>
bif ((!decide (x9 = 0)) || (!decide ((x7.length : Int) = 2))) || (decide ((x8.length : Int) < 2)) then
  some (([] : List UInt8), [], false)
else
  grd (okI ((x8.length : Int) - 2)) <|
  grd (gA ((x8.length : Int) - 2) x8.length) <|
  lt (to_ x8 ((x8.length : Int) - 2)) fun x16 =>
  kV (kt F x16) fun x18 x19 =>
  grd (bQ 0 x7.length) <|
  lt (at_ x7 0) fun x22 =>
  some (x22.2, x18, decide (x19 = 0))
def ek (F : Nat) (a1 : List UInt8) (a3 : List UInt8) (x17 : List UInt8) (y59 : List (List UInt8)) (y61 : List (List UInt8)) (y63 : Int) : Option ((List (List UInt8)) × (List (List UInt8)) × Int) :=
nV (kI F y59 y61) fun x65 x66 x67 =>
grd (gA y63 a1.length) <|
lt (jA a1 y63) fun x70 =>
bif (((!decide (x70 = x17)) || (!decide (x67 = 0))) || (!decide (x66 = a3))) || (!decide (x65 = a1)) then
  some ([], [], 2)
else
  some (y59, y61, 0)
def fB (F : Nat) (a1 : List UInt8) (a3 : List UInt8) (x11 : List UInt8) (x17 : List UInt8) (rec26 : ((List (List UInt8)) × (List (List UInt8)) × Int) → Option ((List (List UInt8)) × (List (List UInt8)) × Int)) (y21 : List (List UInt8)) (y23 : List (List UInt8)) (y25 : Int) : Option ((List (List UInt8)) × (List (List UInt8)) × Int) :=
cz (decide ((y23.length : Int) ≤ 8)) (okI (y25 + (x11.length : Int))) <|
cz ((decide ((y23.length : Int) ≤ 8)) && (decide (y25 + (x11.length : Int) ≤ (a1.length : Int)))) (okI (y25 + (x11.length : Int))) <|
cz ((decide ((y23.length : Int) ≤ 8)) && (decide (y25 + (x11.length : Int) ≤ (a1.length : Int)))) (kl y25 (y25 + (x11.length : Int)) a1.length) <|
lt (sub a1 y25 (y25 + (x11.length : Int))) fun x33 =>
bif ((decide ((y23.length : Int) ≤ 8)) && (decide (y25 + (x11.length : Int) ≤ (a1.length : Int)))) && (decide (x33 = x11)) then
  grd (okI (y25 + (x11.length : Int))) <|
  grd (bw (([45, 45] : List UInt8).length + a3.length)) <|
  lt (([45, 45] : List UInt8) ++ a3) fun x38 =>
  bnd (kW F a1 x38 (y25 + (x11.length : Int))) fun x40 =>
  bif decide (x40 < 0) then
    some ([], [], 2)
  else
    grd (kl (y25 + (x11.length : Int)) x40 a1.length) <|
    lt (sub a1 (y25 + (x11.length : Int)) x40) fun x44 =>
    nV (lB F x44) fun x46 x47 x48 =>
    bif !x48 then
      some ([], [], 2)
    else
      grd (bw (y21.length + ([x46] : List (List UInt8)).length)) <|
      lt (y21 ++ ([x46] : List (List UInt8))) fun x53 =>
      grd (bw (y23.length + ([x47] : List (List UInt8)).length)) <|
      lt (y23 ++ ([x47] : List (List UInt8))) fun x57 =>
      rec26 (x53, x57, x40)
else
  ek F a1 a3 x17 y21 y23 y25
def fA (F : Nat) (a1 : List UInt8) (a3 : List UInt8) (x11 : List UInt8) (x17 : List UInt8) (n : Nat) : ((List (List UInt8)) × (List (List UInt8)) × Int) → Option ((List (List UInt8)) × (List (List UInt8)) × Int) :=
  loop (fun rec x => fB F a1 a3 x11 x17 rec x.1 x.2.1 x.2.2) n
def jV (F : Nat) (a1 : List UInt8) (a3 : List UInt8) : Option ((List (List UInt8)) × (List (List UInt8)) × Int) :=
grd (bw (([45, 45] : List UInt8).length + a3.length)) <|
lt (([45, 45] : List UInt8) ++ a3) fun x8 =>
grd (bw (x8.length + ([13, 10] : List UInt8).length)) <|
lt (x8 ++ ([13, 10] : List UInt8)) fun x11 =>
grd (bw (([45, 45] : List UInt8).length + a3.length)) <|
lt (([45, 45] : List UInt8) ++ a3) fun x14 =>
grd (bw (x14.length + ([45, 45, 13, 10] : List UInt8).length)) <|
lt (x14 ++ ([45, 45, 13, 10] : List UInt8)) fun x17 =>
fA F a1 a3 x11 x17 F ([], [], 0)
end Go.Pv
namespace Go.Proofs.YtdaafnaokdigbaaGreatDoor
open Go.RowKit Go.Av Go.Pv
theorem vU : ∀ (args : Array Value) (w : World), (callFunc 11 args).run Tryz.prog w = .ok (.enter 11 args) w := fun _ _ => by kernel_rfl
theorem vR : ∀ (args : Array Value) (w : World), (callFunc 13 args).run Tryz.prog w = .ok (.enter 13 args) w := fun _ _ => by kernel_rfl
theorem vP : ∀ (args : Array Value) (w : World), (callFunc 19 args).run Tryz.prog w = .ok (.enter 19 args) w := fun _ _ => by kernel_rfl
theorem vJ : ∀ (args : Array Value) (w : World), (callFunc 25 args).run Tryz.prog w = .ok (.enter 25 args) w := fun _ _ => by kernel_rfl
theorem vI : ∀ (args : Array Value) (w : World), (callFunc 26 args).run Tryz.prog w = .ok (.enter 26 args) w := fun _ _ => by kernel_rfl
theorem vD : ∀ (args : Array Value) (w : World), (callFunc 31 args).run Tryz.prog w = .ok (.enter 31 args) w := fun _ _ => by kernel_rfl
theorem pL : ∀ (args : Array Value) (w : World), (callFunc 32 args).run Tryz.prog w = .ok (.enter 32 args) w := fun _ _ => by kernel_rfl
theorem vv : ∀ (args : Array Value) (w : World), (callFunc 37 args).run Tryz.prog w = .ok (.enter 37 args) w := fun _ _ => by kernel_rfl
theorem vu : ∀ (args : Array Value) (w : World), (callFunc 38 args).run Tryz.prog w = .ok (.enter 38 args) w := fun _ _ => by kernel_rfl
theorem vt : ∀ (args : Array Value) (w : World), (callFunc 39 args).run Tryz.prog w = .ok (.enter 39 args) w := fun _ _ => by kernel_rfl
theorem vl : ∀ (args : Array Value) (w : World), (callFunc 47 args).run Tryz.prog w = .ok (.enter 47 args) w := fun _ _ => by kernel_rfl
theorem vg : ∀ (args : Array Value) (w : World), (callFunc 57 args).run Tryz.prog w = .ok (.enter 57 args) w := fun _ _ => by kernel_rfl
theorem vf : ∀ (args : Array Value) (w : World), (callFunc 58 args).run Tryz.prog w = .ok (.enter 58 args) w := fun _ _ => by kernel_rfl
theorem pH : ∀ (args : Array Value) (w : World), (callFunc 82 args).run Tryz.prog w = .ok (.enter 82 args) w := fun _ _ => by kernel_rfl
set_option maxRecDepth 100000 in
set_option maxHeartbeats 1000000 in
theorem ph (F : Nat) (a1 : Int) (r2 : List UInt8) (H : je F a1 = some r2) : ACalls Tryz.prog 31 [i64 a1] [] (Ret (S r2) []) := by
 unfold je at H
 refine aw Tryz.func31 rfl rfl ?_;show AW _ _ 25 _ _ _;refine af <| ab ?_;show AR _ _ _ _ _ [0] _;refine za rfl <| ai <| af ?_;obtain ⟨g3, H⟩ := az H;obtain ⟨g4, H⟩ := az H;obtain ⟨g5, H⟩ := az H;obtain ⟨g6, H⟩ := az H;obtain ⟨x7, e8, H⟩ := bb H;refine ab ?_;show AR _ _ _ _ _ [0, 1, 2, 3, 4, 5, 6] _;refine zm rfl <| zS rfl (mr rfl rfl g3) <| zm rfl <| zS rfl (mr rfl rfl g4) <| zS rfl (bk rfl rfl g5) <| zS rfl (dU ac rfl rfl rfl g6 e8) <| za rfl <| ai <| bx (X := (List UInt8)) (fun y25 => ⟨[(3, S y25)], [], []⟩) (fun y25 => eY y25 = some r2) ?_ ?_
 ·refine af ?_;obtain ⟨g9, H⟩ := az H;refine ab ?_;show AR _ _ _ _ _ [0, 1, 2] _;refine zm rfl <| zS rfl (nY rfl rfl g9) <| za rfl <| ai <| aJ <| bE (X := Nat × Int × (List UInt8)) (fun (n13, y10, y11) => ⟨[(0, i64 y10), (3, S y11)], [], []⟩) (fun (n13, y10, y11) => eZ n13 (y10, y11) = some r2) (fun (n13, y10, y11) => n13) (F, a1 / 10, x7) H (aU [] (.cons (.refl _) (.cons (.refl _) (.nil _))) rfl) ?_;rintro ⟨n13, y10, y11⟩ H;obtain ⟨n13, rfl, H⟩ := bX H;replace H : fa (eZ n13) y10 y11 = some r2 := H
  unfold fa at H
  refine af <| af <| ab ?_;show AR _ _ _ _ _ [0, 1] _;refine zm rfl <| zS rfl (cN rfl rfl) <| ai <| aD rfl (fun c14 => ?_) (fun c14 => ?_)
  ·replace H := aZ c14 H;refine aF <| af <| aJ ?_;obtain ⟨g15, H⟩ := az H;obtain ⟨g16, H⟩ := az H;obtain ⟨g17, H⟩ := az H;obtain ⟨g18, H⟩ := az H;obtain ⟨x19, e20, H⟩ := bb H;obtain ⟨g21, H⟩ := az H;obtain ⟨x22, e23, H⟩ := bb H;refine ab ?_;show AR _ _ _ _ _ [0, 1, 2, 3, 4, 5, 6, 7, 8] _;refine zm rfl <| zS rfl (mr rfl rfl g15) <| zm rfl <| zS rfl (mr rfl rfl g16) <| zS rfl (bk rfl rfl g17) <| zS rfl (dU ac rfl rfl rfl g18 e20) <| zm rfl <| zS rfl (cE rfl rfl g21 e23) <| za rfl <| ai ?_;obtain ⟨g24, H⟩ := az H;refine ab ?_;show AR _ _ _ _ _ [0, 1, 2] _;refine zm rfl <| zS rfl (nY rfl rfl g24) <| za rfl <| ai ?_;exact Exists.intro (n13, y10 / 10, x22) ⟨H, Nat.lt_succ_self _, aU [] (.cons (.refl _) (.cons (.refl _) (.nil _))) rfl⟩
  ·replace H := ba c14 H;refine bz ?_;exact Exists.intro y11 ⟨H, aU [] (.cons (.refl _) (.nil _)) rfl⟩
 rintro y25 H;replace H : eY y25 = some r2 := H
 unfold eY at H
 refine af <| ab ?_;show AR _ _ _ _ _ [0, 1] _;refine zm rfl <| za rfl <| ai <| aP ?_;obtain rfl := ak H;exact And.intro rfl (Exists.intro _ (Exists.intro _ ⟨aV rfl (.refl _), aO [] rfl, rfl, rfl⟩))
set_option maxRecDepth 100000 in
set_option maxHeartbeats 1000000 in
theorem sC (F : Nat) (a1 : UInt8) (r2 : List UInt8) (H : lE F a1 = some r2) : ACalls Tryz.prog 38 [u8 a1] [] (Ret (S r2) []) := by
 unfold lE at H
 refine aw Tryz.func38 rfl rfl ?_;show AW _ _ 22 _ _ _;refine af <| ab ?_;show AR _ _ _ _ _ [0] _;refine za rfl <| ai <| af <| ab ?_;show AR _ _ _ _ _ [0] _;refine za rfl <| ai <| af <| ab ?_;show AR _ _ _ _ _ [0, 1, 2] _;refine zm rfl <| zS rfl (ke (c := a1) (by kernel_rfl) bm rfl) <| za rfl <| ai <| af ?_;obtain ⟨g3, H⟩ := az H;obtain ⟨g4, H⟩ := az H;obtain ⟨g5, H⟩ := az H;obtain ⟨g6, H⟩ := az H;obtain ⟨x7, e8, H⟩ := bb H;obtain ⟨g9, H⟩ := az H;obtain ⟨g10, H⟩ := az H;obtain ⟨g11, H⟩ := az H;obtain ⟨g12, H⟩ := az H;obtain ⟨x13, e14, H⟩ := bb H;obtain ⟨g15, H⟩ := az H;obtain ⟨x16, e17, H⟩ := bb H;refine bW (by kernel_rfl) ?_;show AI _ _ _ _ _ 16 (Array.replicate 16 false) _;refine zk 0 rfl (mv rfl) ?_;show AI _ _ _ _ _ _ #[true, false, false, false, false, false, false, false, false, false, false, false, false, false, false, false] _;refine zk 1 rfl (mv rfl) ?_;show AI _ _ _ _ _ _ #[true, true, false, false, false, false, false, false, false, false, false, false, false, false, false, false] _;refine zk 2 rfl (nY rfl rfl g3) ?_;show AI _ _ _ _ _ _ #[true, true, true, false, false, false, false, false, false, false, false, false, false, false, false, false] _;refine zk 3 rfl (mv rfl) ?_;show AI _ _ _ _ _ _ #[true, true, true, true, false, false, false, false, false, false, false, false, false, false, false, false] _;refine zk 4 rfl (nY rfl rfl g4) ?_
 show AI _ _ _ _ _ _ #[true, true, true, true, true, false, false, false, false, false, false, false, false, false, false, false] _;refine zk 5 rfl (bk rfl rfl g5) ?_;show AI _ _ _ _ _ _ #[true, true, true, true, true, true, false, false, false, false, false, false, false, false, false, false] _;refine zk 6 rfl (dU ac rfl rfl rfl g6 e8) ?_;show AI _ _ _ _ _ _ #[true, true, true, true, true, true, true, false, false, false, false, false, false, false, false, false] _;refine zk 7 rfl (mv rfl) ?_;show AI _ _ _ _ _ _ #[true, true, true, true, true, true, true, true, false, false, false, false, false, false, false, false] _;refine zk 8 rfl (mv rfl) ?_;show AI _ _ _ _ _ _ #[true, true, true, true, true, true, true, true, true, false, false, false, false, false, false, false] _;refine zk 9 rfl (mr rfl rfl g9) ?_;show AI _ _ _ _ _ _ #[true, true, true, true, true, true, true, true, true, true, false, false, false, false, false, false] _;refine zk 10 rfl (mv rfl) ?_;show AI _ _ _ _ _ _ #[true, true, true, true, true, true, true, true, true, true, true, false, false, false, false, false] _;refine zk 11 rfl (mr rfl rfl g10) ?_;show AI _ _ _ _ _ _ #[true, true, true, true, true, true, true, true, true, true, true, true, false, false, false, false] _;refine zk 12 rfl (bk rfl rfl g11) ?_;show AI _ _ _ _ _ _ #[true, true, true, true, true, true, true, true, true, true, true, true, true, false, false, false] _;refine zk 13 rfl (dU ac rfl rfl rfl g12 e14) ?_
 show AI _ _ _ _ _ _ #[true, true, true, true, true, true, true, true, true, true, true, true, true, true, false, false] _;refine zk 14 rfl (cE rfl rfl g15 e17) ?_;show AI _ _ _ _ _ _ #[true, true, true, true, true, true, true, true, true, true, true, true, true, true, true, false] _;refine zk 15 rfl (asg rfl) ?_;show AI _ _ _ _ _ _ #[true, true, true, true, true, true, true, true, true, true, true, true, true, true, true, true] _;refine bN rfl <| aP ?_;obtain rfl := ak H;exact And.intro rfl (Exists.intro _ (Exists.intro _ ⟨aV rfl (.refl _), aO [] rfl, rfl, rfl⟩))
set_option maxRecDepth 100000 in
set_option maxHeartbeats 1000000 in
theorem qo (F : Nat) (a1 : List UInt8) (q2 : Option Nat) (a3 : Int) (r4 : Bool) (H : ka F a1 a3 = some r4) : ACalls Tryz.prog 39 [slE Enc.byte a1 q2, i64 a3] [] (Ret (B r4) []) := by
 unfold ka at H
 refine aw Tryz.func39 rfl rfl ?_;show AW _ _ 39 _ _ _;refine af <| ab ?_;show AR _ _ _ _ _ [0] _;refine za rfl <| ai <| af ?_;obtain ⟨g5, H⟩ := az H;obtain ⟨x6, e7, H⟩ := bb H;refine ab ?_;show AR _ _ _ _ _ [0, 1, 2, 3, 4] _;refine zS rfl (ag (av := slE _ _ _) rfl) <| zm rfl <| zS rfl (aY (E := Enc.byte) aa (by kernel_rfl) rfl rfl g5 e7) <| zS rfl (aL au rfl rfl) <| za rfl <| ai <| af <| af <| ab ?_;show AR _ _ _ _ _ [0, 1, 2, 3, 4, 5] _;refine zm rfl <| zS rfl (dt (a := x6) (b := 32) rfl rfl) <| zm rfl <| aQ (l := []) 15 (B ((decide (x6 = 32)) || (decide (x6 = 9)))) (fun K => ?_) ?_
 ·rcases ah (decide (x6 = 32)) with h8 | h8
  ·refine zF h8 rfl <| zF h8 rfl <| zS rfl (ax (av := .v _) rfl h8 rfl) ?_;exact K _ 2 _ (an (dC h8)) rfl rfl
  ·refine zM h8 rfl <| zU h8 rfl (dt (a := x6) (b := 9) rfl rfl) <| zS rfl (ay (av := .v _) rfl h8 rfl) ?_;exact K _ 2 _ (an (dD h8)) rfl rfl
 refine ai <| aD rfl (fun c9 => ?_) (fun c9 => ?_)
 ·replace H := aZ c9 H;refine af ?_;obtain ⟨g10, H⟩ := az H;obtain ⟨g12, H⟩ := cb H;obtain ⟨g13, H⟩ := cb H;obtain ⟨x14, e15, H⟩ := bb H;refine ab ?_;show AR _ _ _ _ _ [0, 1, 2, 3, 4, 5, 6, 7, 8, 9, 10, 11, 12, 13] _;refine zm rfl <| zS rfl (bk rfl rfl g10) <| zS rfl (ag (av := slE _ _ _) rfl) <| zS rfl (aH aa rfl) <| zS rfl (bB rfl rfl) <| zm rfl <| aQ (l := [13]) 28 (B ((decide (a3 + 1 < (a1.length : Int))) && (!decide (x14 = 10)))) (fun K => ?_) ?_
  ·rcases ah (decide (a3 + 1 < (a1.length : Int))) with h11 | h11
   ·refine zU h11 rfl (ag (av := slE _ _ _) rfl) <| zM h11 rfl <| zU h11 rfl (bk rfl rfl (g12 h11)) <| zU h11 rfl (aY (E := Enc.byte) aa (by kernel_rfl) rfl rfl (g13 h11) e15) <| zU h11 rfl (aL au rfl rfl) <| zU h11 rfl (mt (a := x14) (b := 10) rfl rfl) <| zS rfl (ax (av := .v _) rfl h11 rfl) ?_;exact K _ 6 _ (an (cc h11)) rfl rfl
   ·refine zF h11 rfl <| zF h11 rfl <| zF h11 rfl <| zF h11 rfl <| zF h11 rfl <| zF h11 rfl <| zS rfl (ay (av := .v _) rfl h11 rfl) ?_;exact K _ 6 _ (an (cd h11)) rfl rfl
  refine za rfl <| ai <| aP ?_;obtain rfl := ak H;exact And.intro rfl (Exists.intro _ (Exists.intro _ ⟨aV rfl (.refl _), aO [] rfl, rfl, rfl⟩))
 ·replace H := ba c9 H;refine aF <| af <| ab ?_;show AR _ _ _ _ _ [0, 1, 2, 3, 4, 5, 6, 7, 8, 9, 10] _;refine zm rfl <| zS rfl (dl rfl rfl) <| zm rfl <| aQ (l := [6, 7, 8, 9, 10]) 34 (B ((decide (33 ≤ (x6.toNat : Int))) && (decide ((x6.toNat : Int) ≤ 126)))) (fun K => ?_) ?_
  ·rcases ah (decide (33 ≤ (x6.toNat : Int))) with h16 | h16
   ·refine zM h16 rfl <| zU h16 rfl (dd rfl rfl) <| zS rfl (ax (av := .v _) rfl h16 rfl) ?_;exact K _ 2 _ (an (cc h16)) rfl rfl
   ·refine zF h16 rfl <| zF h16 rfl <| zS rfl (ay (av := .v _) rfl h16 rfl) ?_;exact K _ 2 _ (an (cd h16)) rfl rfl
  refine zm rfl <| aQ (l := [10]) 38 (B (((decide (33 ≤ (x6.toNat : Int))) && (decide ((x6.toNat : Int) ≤ 126))) && (!decide (x6 = 61)))) (fun K => ?_) ?_
  ·rcases ah ((decide (33 ≤ (x6.toNat : Int))) && (decide ((x6.toNat : Int) ≤ 126))) with h17 | h17
   ·refine zM h17 rfl <| zU h17 rfl (mt (a := x6) (b := 61) rfl rfl) <| zS rfl (ax (av := .v _) rfl h17 rfl) ?_;exact K _ 2 _ (an (cc h17)) rfl rfl
   ·refine zF h17 rfl <| zF h17 rfl <| zS rfl (ay (av := .v _) rfl h17 rfl) ?_;exact K _ 2 _ (an (cd h17)) rfl rfl
  refine za rfl <| ai <| aP ?_;obtain rfl := ak H;exact And.intro rfl (Exists.intro _ (Exists.intro _ ⟨aV rfl (.refl _), aO [] rfl, rfl, rfl⟩))
set_option maxRecDepth 100000 in
set_option maxHeartbeats 1000000 in
theorem pf (F : Nat) (a1 : List UInt8) (q2 : Option Nat) (r3 : List UInt8) (H : kr F a1 = some r3) : ACalls Tryz.prog 19 [slE Enc.byte a1 q2] [] (Ret (slE Enc.byte r3 none) []) := by
 unfold kr at H
 refine aw Tryz.func19 rfl rfl ?_;show AW _ _ 54 _ _ _;refine af <| ab ?_;show AR _ _ _ _ _ [0] _;refine za rfl <| ai <| af <| ab ?_;show AR _ _ _ _ _ [0] _;refine za rfl <| ai ?_
 refine bL 3 1 5 rfl fun t4 => ?_
 show AW _ _ _ _ _ ⟨(3, slE Enc.byte [] (some t4)) :: _, _, _⟩;refine af <| ab ?_;show AR _ _ _ _ _ [0] _;refine za rfl <| ai <| bx (X := (List UInt8) × Nat) (fun (y57, t58) => ⟨[(3, slE Enc.byte y57 (some t58))], [], [.tok t58 5]⟩) (fun (y57, t58) => eU y57 = some r3) ?_ ?_
 ·refine af <| ab ?_;show AR _ _ _ _ _ [0] _;refine za rfl <| ai <| aJ <| bE (X := Nat × (List UInt8) × Nat × Int × Int) (fun (n10, y5, t6, y7, y8) => ⟨[(0, slE Enc.byte a1 q2), (3, slE Enc.byte y5 (some t6)), (4, i64 y7), (5, i64 y8)], [], [.tok t6 5]⟩) (fun (n10, y5, t6, y7, y8) => ci F a1 n10 (y5, y7, y8) = some r3) (fun (n10, y5, t6, y7, y8) => n10) (F, [], t4, 0, 0) H (aU [0] (.cons (.refl _) (.cons (.refl _) (.cons (.refl _) (.cons (.refl _) (.nil _))))) rfl) ?_;rintro ⟨n10, y5, t6, y7, y8⟩ H;obtain ⟨n10, rfl, H⟩ := bX H;replace H : eV F a1 (ci F a1 n10) y5 y7 y8 = some r3 := H
  unfold eV at H
  refine af <| af <| ab ?_;show AR _ _ _ _ _ [0, 1, 2, 3] _;refine zm rfl <| zS rfl (ag (av := slE _ _ _) rfl) <| zS rfl (aH aa rfl) <| zS rfl (bB rfl rfl) <| ai <| aD rfl (fun c11 => ?_) (fun c11 => ?_)
  ·replace H := aZ c11 H;refine aF <| bx (X := (List UInt8) × Nat × Int) (fun (y52, t53, y54) => ⟨[(0, slE Enc.byte a1 q2), (3, slE Enc.byte y52 (some t53)), (4, i64 y54), (5, i64 y8)], [], [.tok t53 5]⟩) (fun (y52, t53, y54) => dq y8 (ci F a1 n10) y52 y54 = some r3) ?_ ?_
   ·refine aJ <| af <| af ?_;obtain ⟨g12, H⟩ := az H;obtain ⟨x13, e14, H⟩ := bb H;refine ab ?_;show AR _ _ _ _ _ [0, 1, 2, 3, 4] _;refine zS rfl (ag (av := slE _ _ _) rfl) <| zm rfl <| zS rfl (aY (E := Enc.byte) aa (by kernel_rfl) rfl rfl g12 e14) <| zS rfl (aL au rfl rfl) <| zS rfl (dt (a := x13) (b := 10) rfl rfl) <| ai <| aD rfl (fun c15 => ?_) (fun c15 => ?_)
    ·replace H := aZ c15 H;refine af ?_;obtain ⟨g17, H⟩ := az H;obtain ⟨x18, e19, H⟩ := bb H;refine ab ?_;show AR _ _ _ _ _ [0, 1, 2, 3] _;refine zS rfl (ag (av := slE _ _ _) rfl) <| zR rfl (bh (E := Enc.byte) (bytes := 1) (xs := [.const _, .const _]) (l := ([13, 10] : List UInt8)) aa (by kernel_rfl) rfl rfl (by decide) rfl rfl) <| zX rfl (bA (E := Enc.byte) (bytes := 1) 0 aa aa rfl (by kernel_rfl) rfl rfl rfl rfl g17 e19) ?_;rintro _ _ ⟨t16, rfl, rfl⟩;refine zS rfl (am (av := slE _ _ _) rfl) <| ai <| af <| ab ?_;show AR _ _ _ _ _ [0] _;refine za rfl <| ai <| bz ?_;exact Exists.intro (x18, t16, 0) ⟨H, aU [0] (.cons (.refl _) (.cons (.refl _) (.cons (.refl _) (.cons (.refl _) (.nil _))))) rfl⟩
    ·replace H := ba c15 H;refine aF <| af ?_;obtain ⟨g20, H⟩ := az H;obtain ⟨x21, e22, H⟩ := bb H;obtain ⟨x23, e24, H⟩ := cT H;obtain ⟨g25, H⟩ := az H;obtain ⟨x26, e27, H⟩ := bb H;refine ab ?_;show AR _ _ _ _ _ [0, 1, 2, 3, 4, 5, 6] _;refine zS rfl (ag (av := slE _ _ _) rfl) <| zm rfl <| zS rfl (aY (E := Enc.byte) aa (by kernel_rfl) rfl rfl g20 e22) <| zS rfl (aL au rfl rfl) <| ap rfl rfl (aW rfl vu rfl (sC F x21 x23 e24) ?_);refine zS rfl (cE rfl rfl g25 e27) <| za rfl <| ai <| af ?_;obtain ⟨x28, e29, H⟩ := cT H;refine ab ?_;show AR _ _ _ _ _ [0, 1, 2, 3] _;refine zS rfl (ag (av := slE _ _ _) rfl) <| zm rfl <| ap rfl rfl (aW rfl vt rfl (qo F a1 q2 y8 x28 e29) ?_);refine za rfl <| ai <| bx (X := (List UInt8)) (fun y35 => ⟨[(0, slE Enc.byte a1 q2), (3, slE Enc.byte y5 (some t6)), (4, i64 y7), (5, i64 y8), (6, S y35)], [], [.tok t6 5]⟩) (fun y35 => cV y5 y7 y8 (ci F a1 n10) y35 = some r3) ?_ ?_
     ·refine af <| ab ?_;show AR _ _ _ _ _ [0] _;refine zm rfl <| ai <| aD rfl (fun c30 => ?_) (fun c30 => ?_)
      ·replace H := aZ c30 H;obtain ⟨g31, H⟩ := az H;obtain ⟨g32, H⟩ := az H;obtain ⟨x33, e34, H⟩ := bb H;refine ab ?_;show AR _ _ _ _ _ [0, 1, 2, 3, 4, 5, 6] _;refine zS rfl (ag (av := slE _ _ _) rfl) <| zm rfl <| zm rfl <| zS rfl (bk rfl rfl g31) <| zS rfl (pF (E := Enc.byte) aa (by kernel_rfl) rfl rfl rfl g32 e34) <| zS rfl (bn aa au ac rfl) <| za rfl <| ai ?_;exact Exists.intro x33 ⟨H, aU [0] (.cons (.refl _) (.cons (.refl _) (.cons (.refl _) (.cons (.refl _) (.cons (.refl _) (.nil _)))))) rfl⟩
      ·replace H := ba c30 H;refine aF ?_;exact Exists.intro x26 ⟨H, aU [0] (.cons (.refl _) (.cons (.refl _) (.cons (.refl _) (.cons (.refl _) (.cons (.refl _) (.nil _)))))) rfl⟩
     rintro y35 H;replace H : cV y5 y7 y8 (ci F a1 n10) y35 = some r3 := H
     unfold cV at H
     refine bx (X := (List UInt8) × Nat × Int) (fun (y43, t44, y45) => ⟨[(0, slE Enc.byte a1 q2), (3, slE Enc.byte y43 (some t44)), (4, i64 y45), (5, i64 y8), (6, S y35)], [], [.tok t44 5]⟩) (fun (y43, t44, y45) => dL y8 y35 (ci F a1 n10) y43 y45 = some r3) ?_ ?_
     ·refine af ?_;obtain ⟨g37, H⟩ := az H;refine ab ?_;show AR _ _ _ _ _ [0, 1, 2, 3, 4] _;refine zm rfl <| zm rfl <| zS rfl (aX ac rfl) <| zS rfl (bk rfl rfl g37) <| zS rfl (cN rfl rfl) <| ai <| aD rfl (fun c38 => ?_) (fun c38 => ?_)
      ·replace H := aZ c38 H;refine af ?_;obtain ⟨g40, H⟩ := az H;obtain ⟨x41, e42, H⟩ := bb H;refine ab ?_;show AR _ _ _ _ _ [0, 1, 2, 3] _;refine zS rfl (ag (av := slE _ _ _) rfl) <| zR rfl (bh (E := Enc.byte) (bytes := 1) (xs := [.const _, .const _, .const _]) (l := ([61, 13, 10] : List UInt8)) aa (by kernel_rfl) rfl rfl (by decide) rfl rfl) <| zX rfl (bA (E := Enc.byte) (bytes := 1) 0 aa aa rfl (by kernel_rfl) rfl rfl rfl rfl g40 e42) ?_;rintro _ _ ⟨t39, rfl, rfl⟩;refine zS rfl (am (av := slE _ _ _) rfl) <| ai <| ab ?_;show AR _ _ _ _ _ [0] _;refine za rfl <| ai ?_;exact Exists.intro (x41, t39, 0) ⟨H, aU [0] (.cons (.refl _) (.cons (.refl _) (.cons (.refl _) (.cons (.refl _) (.cons (.refl _) (.nil _)))))) rfl⟩
      ·replace H := ba c38 H;refine aF ?_;exact Exists.intro (y5, t6, y7) ⟨H, aU [0] (.cons (.refl _) (.cons (.refl _) (.cons (.refl _) (.cons (.refl _) (.cons (.refl _) (.nil _)))))) rfl⟩
     rintro ⟨y43, t44, y45⟩ H;replace H : dL y8 y35 (ci F a1 n10) y43 y45 = some r3 := H
     unfold dL at H
     refine af ?_;obtain ⟨g48, H⟩ := az H;obtain ⟨x49, e50, H⟩ := bb H;refine ab ?_;show AR _ _ _ _ _ [0, 1, 2, 3] _;refine zS rfl (ag (av := slE _ _ _) rfl) <| zm rfl <| zX rfl (bi (bytes := 1) 0 aa ac rfl (by kernel_rfl) rfl rfl rfl rfl g48 e50) ?_;rintro _ _ ⟨t47, rfl, rfl⟩;refine zS rfl (am (av := slE _ _ _) rfl) <| ai ?_;obtain ⟨g51, H⟩ := az H;refine ab ?_;show AR _ _ _ _ _ [0, 1, 2, 3, 4] _;refine zm rfl <| zm rfl <| zS rfl (aX ac rfl) <| zS rfl (bk rfl rfl g51) <| za rfl <| ai ?_;exact Exists.intro (x49, t47, y45 + (y35.length : Int)) ⟨H, aU [0] (.cons (.refl _) (.cons (.refl _) (.cons (.refl _) (.cons (.refl _) (.nil _))))) rfl⟩
   rintro ⟨y52, t53, y54⟩ H;replace H : dq y8 (ci F a1 n10) y52 y54 = some r3 := H
   unfold dq at H
   obtain ⟨g56, H⟩ := az H;refine ab ?_;show AR _ _ _ _ _ [0, 1, 2] _;refine zm rfl <| zS rfl (bk rfl rfl g56) <| za rfl <| ai ?_;exact Exists.intro (n10, y52, t53, y54, y8 + 1) ⟨H, Nat.lt_succ_self _, aU [0] (.cons (.refl _) (.cons (.refl _) (.cons (.refl _) (.cons (.refl _) (.nil _))))) rfl⟩
  ·replace H := ba c11 H;refine bz ?_;exact Exists.intro (y5, t6) ⟨H, aU [0] (.cons (.refl _) (.nil _)) rfl⟩
 rintro ⟨y57, t58⟩ H;replace H : eU y57 = some r3 := H
 unfold eU at H
 refine af <| ab ?_;show AR _ _ _ _ _ [0, 1] _;refine zS rfl (ag (av := slE _ _ _) rfl) <| zS rfl (am (av := slE _ _ _) rfl) <| ai <| aP ?_;obtain rfl := ak H;exact And.intro rfl (Exists.intro _ (Exists.intro _ ⟨aV rfl (.tok _ _ _), aO [] rfl, rfl, rfl⟩))
set_option maxRecDepth 100000 in
set_option maxHeartbeats 1000000 in
theorem nb (F : Nat) (a1 : UInt8) (r2 : Int) (H : iJ F a1 = some r2) : ACalls Tryz.prog 82 [u8 a1] [] (Ret (i64 r2) []) := by
 unfold iJ at H
 refine aw Tryz.func82 rfl rfl ?_;show AW _ _ 32 _ _ _;refine af <| ab ?_;show AR _ _ _ _ _ [0] _;refine za rfl <| ai <| af <| af <| ab ?_;show AR _ _ _ _ _ [0, 1, 2, 3, 4, 5] _;refine zm rfl <| zS rfl (dl rfl rfl) <| zm rfl <| aQ (l := []) 8 (B ((decide (48 ≤ (a1.toNat : Int))) && (decide ((a1.toNat : Int) ≤ 57)))) (fun K => ?_) ?_
 ·rcases ah (decide (48 ≤ (a1.toNat : Int))) with h3 | h3
  ·refine zM h3 rfl <| zU h3 rfl (dd rfl rfl) <| zS rfl (ax (av := .v _) rfl h3 rfl) ?_;exact K _ 2 _ (an (cc h3)) rfl rfl
  ·refine zF h3 rfl <| zF h3 rfl <| zS rfl (ay (av := .v _) rfl h3 rfl) ?_;exact K _ 2 _ (an (cd h3)) rfl rfl
 refine ai <| aD rfl (fun c4 => ?_) (fun c4 => ?_)
 ·replace H := aZ c4 H;refine af <| ab ?_;show AR _ _ _ _ _ [0, 1, 2, 3] _;refine zm rfl <| zS rfl (ss (a := a1) (b := 48) rfl rfl) <| zS rfl (ke (c := a1 - 48) (by kernel_rfl) bm rfl) <| za rfl <| ai <| aP ?_;obtain rfl := ak H;exact And.intro rfl (Exists.intro _ (Exists.intro _ ⟨aV rfl (.refl _), aO [] rfl, rfl, rfl⟩))
 ·replace H := ba c4 H;refine aF <| af <| af <| ab ?_;show AR _ _ _ _ _ [0, 1, 2, 3, 4, 5] _;refine zm rfl <| zS rfl (dl rfl rfl) <| zm rfl <| aQ (l := []) 17 (B ((decide (65 ≤ (a1.toNat : Int))) && (decide ((a1.toNat : Int) ≤ 70)))) (fun K => ?_) ?_
  ·rcases ah (decide (65 ≤ (a1.toNat : Int))) with h5 | h5
   ·refine zM h5 rfl <| zU h5 rfl (dd rfl rfl) <| zS rfl (ax (av := .v _) rfl h5 rfl) ?_;exact K _ 2 _ (an (cc h5)) rfl rfl
   ·refine zF h5 rfl <| zF h5 rfl <| zS rfl (ay (av := .v _) rfl h5 rfl) ?_;exact K _ 2 _ (an (cd h5)) rfl rfl
  refine ai <| aD rfl (fun c6 => ?_) (fun c6 => ?_)
  ·replace H := aZ c6 H;refine af ?_;obtain ⟨g7, H⟩ := az H;refine ab ?_;show AR _ _ _ _ _ [0, 1, 2, 3, 4] _;refine zm rfl <| zS rfl (ss (a := a1) (b := 65) rfl rfl) <| zS rfl (ke (c := a1 - 65) (by kernel_rfl) bm rfl) <| zS rfl (bk rfl rfl g7) <| za rfl <| ai <| aP ?_;obtain rfl := ak H;exact And.intro rfl (Exists.intro _ (Exists.intro _ ⟨aV rfl (.refl _), aO [] rfl, rfl, rfl⟩))
  ·replace H := ba c6 H;refine aF <| af <| af <| ab ?_;show AR _ _ _ _ _ [0, 1, 2, 3, 4, 5] _;refine zm rfl <| zS rfl (dl rfl rfl) <| zm rfl <| aQ (l := []) 27 (B ((decide (97 ≤ (a1.toNat : Int))) && (decide ((a1.toNat : Int) ≤ 102)))) (fun K => ?_) ?_
   ·rcases ah (decide (97 ≤ (a1.toNat : Int))) with h8 | h8
    ·refine zM h8 rfl <| zU h8 rfl (dd rfl rfl) <| zS rfl (ax (av := .v _) rfl h8 rfl) ?_;exact K _ 2 _ (an (cc h8)) rfl rfl
    ·refine zF h8 rfl <| zF h8 rfl <| zS rfl (ay (av := .v _) rfl h8 rfl) ?_;exact K _ 2 _ (an (cd h8)) rfl rfl
   refine ai <| aD rfl (fun c9 => ?_) (fun c9 => ?_)
   ·replace H := aZ c9 H;refine af ?_;obtain ⟨g10, H⟩ := az H;refine ab ?_;show AR _ _ _ _ _ [0, 1, 2, 3, 4] _;refine zm rfl <| zS rfl (ss (a := a1) (b := 97) rfl rfl) <| zS rfl (ke (c := a1 - 97) (by kernel_rfl) bm rfl) <| zS rfl (bk rfl rfl g10) <| za rfl <| ai <| aP ?_;obtain rfl := ak H;exact And.intro rfl (Exists.intro _ (Exists.intro _ ⟨aV rfl (.refl _), aO [] rfl, rfl, rfl⟩))
   ·replace H := ba c9 H;refine aF <| af <| ab ?_;show AR _ _ _ _ _ [0] _;refine za rfl <| ai <| aP ?_;obtain rfl := ak H;exact And.intro rfl (Exists.intro _ (Exists.intro _ ⟨aV rfl (.refl _), aO [] rfl, rfl, rfl⟩))
set_option maxRecDepth 100000 in
set_option maxHeartbeats 1000000 in
theorem pg (F : Nat) (a1 : List UInt8) (q2 : Option Nat) (r3 : List UInt8) (r4 : Int) (H : kt F a1 = some (r3, r4)) : ACalls Tryz.prog 58 [slE Enc.byte a1 q2] [] (Ret (.tup [slE Enc.byte r3 none, i64 r4]) []) := by
 unfold kt at H
 refine aw Tryz.func58 rfl rfl ?_;show AW _ _ 107 _ _ _;refine af <| ab ?_;show AR _ _ _ _ _ [0, 1] _;refine za rfl <| za rfl <| ai <| af <| ab ?_;show AR _ _ _ _ _ [0] _;refine za rfl <| ai ?_
 refine bL 4 1 5 rfl fun t5 => ?_
 show AW _ _ _ _ _ ⟨(4, slE Enc.byte [] (some t5)) :: _, _, _⟩;refine bx (X := (List UInt8) × Nat) (fun (y75, t76) => ⟨[(4, slE Enc.byte y75 (some t76))], [], [.tok t76 5]⟩) (fun (y75, t76) => eW y75 = some (r3, r4)) ?_ ?_
 ·refine af <| ab ?_;show AR _ _ _ _ _ [0] _;refine za rfl <| ai <| aJ <| bE (X := Nat × (List UInt8) × Nat × Int) (fun (n10, y6, t7, y8) => ⟨[(0, slE Enc.byte a1 q2), (4, slE Enc.byte y6 (some t7)), (5, i64 y8)], [], [.tok t7 5]⟩) (fun (n10, y6, t7, y8) => cW F a1 n10 (y6, y8) = some (r3, r4)) (fun (n10, y6, t7, y8) => n10) (F, [], t5, 0) H (aU [0] (.cons (.refl _) (.cons (.refl _) (.cons (.refl _) (.nil _)))) rfl) ?_;rintro ⟨n10, y6, t7, y8⟩ H;obtain ⟨n10, rfl, H⟩ := bX H;replace H : eX F a1 (cW F a1 n10) y6 y8 = some (r3, r4) := H
  unfold eX at H
  refine af <| af <| ab ?_;show AR _ _ _ _ _ [0, 1, 2, 3] _;refine zm rfl <| zS rfl (ag (av := slE _ _ _) rfl) <| zS rfl (aH aa rfl) <| zS rfl (bB rfl rfl) <| ai <| aD rfl (fun c11 => ?_) (fun c11 => ?_)
  ·replace H := aZ c11 H;refine aF <| bx (X := (List UInt8) × Nat × Int) (fun (y70, t71, y72) => ⟨[(0, slE Enc.byte a1 q2), (4, slE Enc.byte y70 (some t71)), (5, i64 y72)], [], [.tok t71 5]⟩) (fun (y70, t71, y72) => cK (cW F a1 n10) y70 y72 = some (r3, r4)) ?_ ?_
   ·refine aJ <| af ?_;obtain ⟨g12, H⟩ := az H;obtain ⟨x13, e14, H⟩ := bb H;refine ab ?_;show AR _ _ _ _ _ [0, 1, 2, 3, 4] _;refine zS rfl (ag (av := slE _ _ _) rfl) <| zm rfl <| zS rfl (aY (E := Enc.byte) aa (by kernel_rfl) rfl rfl g12 e14) <| zS rfl (aL au rfl rfl) <| za rfl <| ai <| af <| af ?_;obtain ⟨g16, H⟩ := cb H;obtain ⟨g18, H⟩ := cb H;obtain ⟨g19, H⟩ := cb H;obtain ⟨x20, e21, H⟩ := bb H;refine ab ?_;show AR _ _ _ _ _ [0, 1, 2, 3, 4, 5, 6, 7, 8, 9, 10, 11, 12, 13, 14, 15, 16] _;refine zm rfl <| zS rfl (dt (a := x13) (b := 13) rfl rfl) <| zm rfl <| aQ (l := [9, 10, 11, 12, 13, 14, 15, 16]) 27 (B ((decide (x13 = 13)) && (decide (y8 + 1 < (a1.length : Int))))) (fun K => ?_) ?_
    ·rcases ah (decide (x13 = 13)) with h15 | h15
     ·refine zM h15 rfl <| zU h15 rfl (bk rfl rfl (g16 h15)) <| zU h15 rfl (ag (av := slE _ _ _) rfl) <| zU h15 rfl (aH aa rfl) <| zU h15 rfl (bB rfl rfl) <| zS rfl (ax (av := .v _) rfl h15 rfl) ?_;exact K _ 5 _ (an (cc h15)) rfl rfl
     ·refine zF h15 rfl <| zF h15 rfl <| zF h15 rfl <| zF h15 rfl <| zF h15 rfl <| zS rfl (ay (av := .v _) rfl h15 rfl) ?_;exact K _ 5 _ (an (cd h15)) rfl rfl
    refine zm rfl <| aQ (l := []) 35 (B (((decide (x13 = 13)) && (decide (y8 + 1 < (a1.length : Int)))) && (decide (x20 = 10)))) (fun K => ?_) ?_
    ·rcases ah ((decide (x13 = 13)) && (decide (y8 + 1 < (a1.length : Int)))) with h17 | h17
     ·refine zU h17 rfl (ag (av := slE _ _ _) rfl) <| zM h17 rfl <| zU h17 rfl (bk rfl rfl (g18 h17)) <| zU h17 rfl (aY (E := Enc.byte) aa (by kernel_rfl) rfl rfl (g19 h17) e21) <| zU h17 rfl (aL au rfl rfl) <| zU h17 rfl (dt (a := x20) (b := 10) rfl rfl) <| zS rfl (ax (av := .v _) rfl h17 rfl) ?_;exact K _ 6 _ (an (cc h17)) rfl rfl
     ·refine zF h17 rfl <| zF h17 rfl <| zF h17 rfl <| zF h17 rfl <| zF h17 rfl <| zF h17 rfl <| zS rfl (ay (av := .v _) rfl h17 rfl) ?_;exact K _ 6 _ (an (cd h17)) rfl rfl
    refine ai <| aD rfl (fun c22 => ?_) (fun c22 => ?_)
    ·replace H := aZ c22 H;refine af ?_;obtain ⟨g24, H⟩ := az H;obtain ⟨x25, e26, H⟩ := bb H;refine ab ?_;show AR _ _ _ _ _ [0, 1, 2, 3] _;refine zS rfl (ag (av := slE _ _ _) rfl) <| zR rfl (bh (E := Enc.byte) (bytes := 1) (xs := [.const _]) (l := ([10] : List UInt8)) aa (by kernel_rfl) rfl rfl (by decide) rfl rfl) <| zX rfl (bA (E := Enc.byte) (bytes := 1) 0 aa aa rfl (by kernel_rfl) rfl rfl rfl rfl g24 e26) ?_;rintro _ _ ⟨t23, rfl, rfl⟩;refine zS rfl (am (av := slE _ _ _) rfl) <| ai <| af ?_;obtain ⟨g27, H⟩ := az H;refine ab ?_;show AR _ _ _ _ _ [0, 1, 2] _;refine zm rfl <| zS rfl (bk rfl rfl g27) <| za rfl <| ai <| bz ?_;exact Exists.intro (x25, t23, y8 + 1) ⟨H, aU [0] (.cons (.refl _) (.cons (.refl _) (.cons (.refl _) (.nil _)))) rfl⟩
    ·replace H := ba c22 H;refine aF <| af <| af <| ab ?_;show AR _ _ _ _ _ [0, 1] _;refine zm rfl <| zS rfl (mt (a := x13) (b := 61) rfl rfl) <| ai <| aD rfl (fun c28 => ?_) (fun c28 => ?_)
     ·replace H := aZ c28 H;refine af <| af <| ab ?_;show AR _ _ _ _ _ [0, 1, 2, 3, 4, 5, 6, 7, 8, 9] _;refine zm rfl <| zS rfl (mt (a := x13) (b := 9) rfl rfl) <| zm rfl <| aQ (l := []) 52 (B ((!decide (x13 = 9)) && ((decide ((x13.toNat : Int) < 32)) || (decide (126 < (x13.toNat : Int)))))) (fun K => ?_) ?_
      ·rcases ah (!decide (x13 = 9)) with h29 | h29
       ·refine zM h29 rfl <| zU h29 rfl (bB rfl rfl) <| zM h29 rfl <| aQ (l := [9]) 51 (B ((decide ((x13.toNat : Int) < 32)) || (decide (126 < (x13.toNat : Int))))) (fun K => ?_) ?_
        ·rcases ah (decide ((x13.toNat : Int) < 32)) with h30 | h30
         ·refine zF h30 rfl <| zF h30 rfl <| zU h29 rfl (ax (av := .v _) rfl h30 rfl) ?_;exact K _ 2 _ (an (dC h30)) rfl rfl
         ·refine zM h30 rfl <| zU h30 rfl (cN rfl rfl) <| zU h29 rfl (ay (av := .v _) rfl h30 rfl) ?_;exact K _ 2 _ (an (dD h30)) rfl rfl
        refine zS rfl (ax (av := .v _) rfl h29 rfl) ?_;exact K _ 4 _ (an (cc h29)) rfl rfl
       ·refine zF h29 rfl <| zF h29 rfl <| zF h29 rfl <| gU rfl rfl rfl rfl rfl <| gU rfl rfl rfl rfl rfl <| zF h29 rfl <| zS rfl (ay (av := .v _) rfl h29 rfl) ?_;exact K _ 6 _ (an (cd h29)) rfl rfl
      refine ai <| aD rfl (fun c31 => ?_) (fun c31 => ?_)
      ·replace H := aZ c31 H;refine af <| ab ?_;show AR _ _ _ _ _ [0, 1] _;refine za rfl <| za rfl <| ai <| aP ?_;obtain ⟨rfl, rfl⟩ := fX H;exact And.intro rfl (Exists.intro _ (Exists.intro _ ⟨bH rfl (.nil _) (.refl _), aO [] rfl, rfl, rfl⟩))
      ·replace H := ba c31 H;refine aF <| af ?_;obtain ⟨g33, H⟩ := az H;obtain ⟨x34, e35, H⟩ := bb H;refine ab ?_;show AR _ _ _ _ _ [0, 1, 2, 3, 4] _;refine zS rfl (ag (av := slE _ _ _) rfl) <| zm rfl <| zR rfl (bh (E := Enc.byte) (bytes := 1) (xs := [.tmp 54]) (l := ([x13] : List UInt8)) aa (by kernel_rfl) rfl rfl (by decide) rfl rfl) <| zX rfl (bA (E := Enc.byte) (bytes := 1) 0 aa aa rfl (by kernel_rfl) rfl rfl rfl rfl g33 e35) ?_;rintro _ _ ⟨t32, rfl, rfl⟩;refine zS rfl (am (av := slE _ _ _) rfl) <| ai <| bz ?_;exact Exists.intro (x34, t32, y8) ⟨H, aU [0] (.cons (.refl _) (.cons (.refl _) (.cons (.refl _) (.nil _)))) rfl⟩
     ·replace H := ba c28 H;refine aF <| af <| af ?_;obtain ⟨g36, H⟩ := az H;refine ab ?_;show AR _ _ _ _ _ [0, 1, 2, 3, 4] _;refine zm rfl <| zS rfl (bk rfl rfl g36) <| zS rfl (ag (av := slE _ _ _) rfl) <| zS rfl (aH aa rfl) <| zS rfl (dl rfl rfl) <| ai <| aD rfl (fun c37 => ?_) (fun c37 => ?_)
      ·replace H := aZ c37 H;refine af <| ab ?_;show AR _ _ _ _ _ [0, 1] _;refine za rfl <| za rfl <| ai <| aP ?_;obtain ⟨rfl, rfl⟩ := fX H;exact And.intro rfl (Exists.intro _ (Exists.intro _ ⟨bH rfl (.nil _) (.refl _), aO [] rfl, rfl, rfl⟩))
      ·replace H := ba c37 H;refine aF <| af ?_;obtain ⟨g38, H⟩ := az H;obtain ⟨g39, H⟩ := az H;obtain ⟨x40, e41, H⟩ := bb H;obtain ⟨x42, e43, H⟩ := cT H;refine ab ?_;show AR _ _ _ _ _ [0, 1, 2, 3, 4, 5, 6] _;refine zS rfl (ag (av := slE _ _ _) rfl) <| zm rfl <| zS rfl (bk rfl rfl g38) <| zS rfl (aY (E := Enc.byte) aa (by kernel_rfl) rfl rfl g39 e41) <| zS rfl (aL au rfl rfl) <| ap rfl rfl (aW rfl pH rfl (nb F x40 x42 e43) ?_);refine za rfl <| ai <| af ?_;obtain ⟨g44, H⟩ := az H;obtain ⟨g45, H⟩ := az H;obtain ⟨x46, e47, H⟩ := bb H;obtain ⟨x48, e49, H⟩ := cT H;refine ab ?_;show AR _ _ _ _ _ [0, 1, 2, 3, 4, 5, 6] _;refine zS rfl (ag (av := slE _ _ _) rfl) <| zm rfl <| zS rfl (bk rfl rfl g44) <| zS rfl (aY (E := Enc.byte) aa (by kernel_rfl) rfl rfl g45 e47) <| zS rfl (aL au rfl rfl) <| ap rfl rfl (aW rfl pH rfl (nb F x46 x48 e49) ?_);refine za rfl <| ai <| af <| af ?_;obtain ⟨g50, H⟩ := az H;obtain ⟨g51, H⟩ := az H;obtain ⟨x52, e53, H⟩ := bb H;obtain ⟨g55, H⟩ := cb H;obtain ⟨g56, H⟩ := cb H;obtain ⟨x57, e58, H⟩ := bb H;refine ab ?_;show AR _ _ _ _ _ [0, 1, 2, 3, 4, 5, 6, 7, 8, 9, 10, 11, 12, 13] _
       refine zS rfl (ag (av := slE _ _ _) rfl) <| zm rfl <| zS rfl (bk rfl rfl g50) <| zS rfl (aY (E := Enc.byte) aa (by kernel_rfl) rfl rfl g51 e53) <| zS rfl (aL au rfl rfl) <| zS rfl (dt (a := x52) (b := 13) rfl rfl) <| zm rfl <| aQ (l := []) 87 (B ((decide (x52 = 13)) && (decide (x57 = 10)))) (fun K => ?_) ?_
       ·rcases ah (decide (x52 = 13)) with h54 | h54
        ·refine zU h54 rfl (ag (av := slE _ _ _) rfl) <| zM h54 rfl <| zU h54 rfl (bk rfl rfl (g55 h54)) <| zU h54 rfl (aY (E := Enc.byte) aa (by kernel_rfl) rfl rfl (g56 h54) e58) <| zU h54 rfl (aL au rfl rfl) <| zU h54 rfl (dt (a := x57) (b := 10) rfl rfl) <| zS rfl (ax (av := .v _) rfl h54 rfl) ?_;exact K _ 6 _ (an (cc h54)) rfl rfl
        ·refine zF h54 rfl <| zF h54 rfl <| zF h54 rfl <| zF h54 rfl <| zF h54 rfl <| zF h54 rfl <| zS rfl (ay (av := .v _) rfl h54 rfl) ?_;exact K _ 6 _ (an (cd h54)) rfl rfl
       refine ai <| aD rfl (fun c59 => ?_) (fun c59 => ?_)
       ·replace H := aZ c59 H;refine af ?_;obtain ⟨g60, H⟩ := az H;refine ab ?_;show AR _ _ _ _ _ [0, 1, 2] _;refine zm rfl <| zS rfl (bk rfl rfl g60) <| za rfl <| ai <| bz ?_;exact Exists.intro (y6, t7, y8 + 2) ⟨H, aU [0] (.cons (.refl _) (.cons (.refl _) (.cons (.refl _) (.nil _)))) rfl⟩
       ·replace H := ba c59 H;refine aF <| af <| af <| ab ?_;show AR _ _ _ _ _ [0, 1, 2, 3, 4, 5] _;refine zm rfl <| zS rfl (bB rfl rfl) <| zm rfl <| aQ (l := []) 95 (B ((decide (x42 < 0)) || (decide (x48 < 0)))) (fun K => ?_) ?_
        ·rcases ah (decide (x42 < 0)) with h61 | h61
         ·refine zF h61 rfl <| zF h61 rfl <| zS rfl (ax (av := .v _) rfl h61 rfl) ?_;exact K _ 2 _ (an (dC h61)) rfl rfl
         ·refine zM h61 rfl <| zU h61 rfl (bB rfl rfl) <| zS rfl (ay (av := .v _) rfl h61 rfl) ?_;exact K _ 2 _ (an (dD h61)) rfl rfl
        refine ai <| aD rfl (fun c62 => ?_) (fun c62 => ?_)
        ·replace H := aZ c62 H;refine af <| ab ?_;show AR _ _ _ _ _ [0, 1] _;refine za rfl <| za rfl <| ai <| aP ?_;obtain ⟨rfl, rfl⟩ := fX H;exact And.intro rfl (Exists.intro _ (Exists.intro _ ⟨bH rfl (.nil _) (.refl _), aO [] rfl, rfl, rfl⟩))
        ·replace H := ba c62 H;refine aF <| af ?_;obtain ⟨g63, H⟩ := az H;obtain ⟨g64, H⟩ := az H;obtain ⟨g66, H⟩ := az H;obtain ⟨x67, e68, H⟩ := bb H;refine ab ?_;show AR _ _ _ _ _ [0, 1, 2, 3, 4, 5, 6, 7, 8] _;refine zS rfl (ag (av := slE _ _ _) rfl) <| zm rfl <| zS rfl (qg rfl rfl g63) <| zm rfl <| zS rfl (bk rfl rfl g64) <| zS rfl (gc (by kernel_rfl) au rfl) <| zR rfl (bh (E := Enc.byte) (bytes := 1) (xs := [.tmp 101]) (l := ([Go.Av.toB ((16 * x42) + x48)] : List UInt8)) aa (by kernel_rfl) rfl rfl (by decide) rfl rfl) <| zX rfl (bA (E := Enc.byte) (bytes := 1) 0 aa aa rfl (by kernel_rfl) rfl rfl rfl rfl g66 e68) ?_;rintro _ _ ⟨t65, rfl, rfl⟩;refine zS rfl (am (av := slE _ _ _) rfl) <| ai ?_;obtain ⟨g69, H⟩ := az H;refine ab ?_;show AR _ _ _ _ _ [0, 1, 2] _;refine zm rfl <| zS rfl (bk rfl rfl g69) <| za rfl <| ai ?_;exact Exists.intro (x67, t65, y8 + 2) ⟨H, aU [0] (.cons (.refl _) (.cons (.refl _) (.cons (.refl _) (.nil _)))) rfl⟩
   rintro ⟨y70, t71, y72⟩ H;replace H : cK (cW F a1 n10) y70 y72 = some (r3, r4) := H
   unfold cK at H
   obtain ⟨g74, H⟩ := az H;refine ab ?_;show AR _ _ _ _ _ [0, 1, 2] _;refine zm rfl <| zS rfl (bk rfl rfl g74) <| za rfl <| ai ?_;exact Exists.intro (n10, y70, t71, y72 + 1) ⟨H, Nat.lt_succ_self _, aU [0] (.cons (.refl _) (.cons (.refl _) (.cons (.refl _) (.nil _)))) rfl⟩
  ·replace H := ba c11 H;refine bz ?_;exact Exists.intro (y6, t7) ⟨H, aU [0] (.cons (.refl _) (.nil _)) rfl⟩
 rintro ⟨y75, t76⟩ H;replace H : eW y75 = some (r3, r4) := H
 unfold eW at H
 refine af <| ab ?_;show AR _ _ _ _ _ [0, 1, 2] _;refine zS rfl (ag (av := slE _ _ _) rfl) <| zS rfl (am (av := slE _ _ _) rfl) <| za rfl <| ai <| aP ?_;obtain ⟨rfl, rfl⟩ := fX H;exact And.intro rfl (Exists.intro _ (Exists.intro _ ⟨bH rfl (.tok _ _ _) (.refl _), aO [] rfl, rfl, rfl⟩))
set_option maxRecDepth 100000 in
set_option maxHeartbeats 1000000 in
theorem py (F : Nat) (a1 : List UInt8) (a2 : List UInt8) (a3 : Int) (r4 : Int) (H : kW F a1 a2 a3 = some r4) : ACalls Tryz.prog 32 [S a1, S a2, i64 a3] [] (Ret (i64 r4) []) := by
 unfold kW at H
 refine aw Tryz.func32 rfl rfl ?_;show AW _ _ 28 _ _ _;refine af <| ab ?_;show AR _ _ _ _ _ [0] _;refine za rfl <| ai <| bx (X := Unit) (fun _ => ⟨[], [], []⟩) (fun _ => jS = some r4) ?_ ?_
 ·refine af <| ab ?_;show AR _ _ _ _ _ [0, 1] _;refine zm rfl <| za rfl <| ai <| aJ <| bE (X := Nat × Int) (fun (n7, y5) => ⟨[(0, S a1), (1, S a2), (7, i64 y5)], [], []⟩) (fun (n7, y5) => jT a1 a2 n7 y5 = some r4) (fun (n7, y5) => n7) (F, a3) H (aU [] (.cons (.refl _) (.cons (.refl _) (.cons (.refl _) (.nil _)))) rfl) ?_;rintro ⟨n7, y5⟩ H;obtain ⟨n7, rfl, H⟩ := bX H;replace H : jU a1 a2 (jT a1 a2 n7) y5 = some r4 := H
  unfold jU at H
  refine af <| af ?_;obtain ⟨g8, H⟩ := az H;refine ab ?_;show AR _ _ _ _ _ [0, 1, 2, 3, 4, 5, 6] _;refine zm rfl <| zm rfl <| zS rfl (aX ac rfl) <| zS rfl (bk rfl rfl g8) <| zm rfl <| zS rfl (aX ac rfl) <| zS rfl (dd rfl rfl) <| ai <| aD rfl (fun c9 => ?_) (fun c9 => ?_)
  ·replace H := aZ c9 H;refine aF <| af <| aJ <| af ?_;obtain ⟨g10, H⟩ := az H;obtain ⟨g11, H⟩ := az H;obtain ⟨x12, e13, H⟩ := bb H;refine ab ?_;show AR _ _ _ _ _ [0, 1, 2, 3, 4, 5, 6, 7, 8] _;refine zm rfl <| zm rfl <| zm rfl <| zm rfl <| zS rfl (aX ac rfl) <| zS rfl (bk rfl rfl g10) <| zS rfl (dU ac rfl rfl rfl g11 e13) <| zm rfl <| zS rfl (lr rfl rfl) <| ai <| aD rfl (fun c14 => ?_) (fun c14 => ?_)
   ·replace H := aZ c14 H;refine af <| ab ?_;show AR _ _ _ _ _ [0, 1] _;refine zm rfl <| za rfl <| ai <| aP ?_;obtain rfl := ak H;exact And.intro rfl (Exists.intro _ (Exists.intro _ ⟨aV rfl (.refl _), aO [] rfl, rfl, rfl⟩))
   ·replace H := ba c14 H;refine aF ?_;obtain ⟨g15, H⟩ := az H;refine ab ?_;show AR _ _ _ _ _ [0, 1, 2] _;refine zm rfl <| zS rfl (bk rfl rfl g15) <| za rfl <| ai ?_;exact Exists.intro (n7, y5 + 1) ⟨H, Nat.lt_succ_self _, aU [] (.cons (.refl _) (.cons (.refl _) (.cons (.refl _) (.nil _)))) rfl⟩
  ·replace H := ba c9 H;refine bz ?_;exact Exists.intro () ⟨H, aU [] (.nil _) rfl⟩
 rintro _ H;replace H : jS = some r4 := H
 unfold jS at H
 refine af <| ab ?_;show AR _ _ _ _ _ [0] _;refine za rfl <| ai <| aP ?_;obtain rfl := ak H;exact And.intro rfl (Exists.intro _ (Exists.intro _ ⟨aV rfl (.refl _), aO [] rfl, rfl, rfl⟩))
set_option maxRecDepth 100000 in
set_option maxHeartbeats 1000000 in
theorem nK (F : Nat) (a1 : List (List UInt8)) (q2 : Option Nat) (r3 : List UInt8) (H : iP F a1 = some r3) : ACalls Tryz.prog 13 [slE (Enc.sl Enc.byte) a1 q2] [] (Ret (S r3) []) := by
 unfold iP at H
 refine aw Tryz.func13 rfl rfl ?_;show AW _ _ 32 _ _ _;refine af <| ab ?_;show AR _ _ _ _ _ [0] _;refine za rfl <| ai <| af <| ab ?_;show AR _ _ _ _ _ [0] _;refine za rfl <| ai <| aJ <| bE (X := Nat × Int) (fun (n6, y4) => ⟨[(0, slE (Enc.sl Enc.byte) a1 q2), (3, i64 y4)], [], []⟩) (fun (n6, y4) => bU F a1 n6 y4 = some r3) (fun (n6, y4) => n6) (F, 0) H (aU [] (.cons (.refl _) (.cons (.refl _) (.nil _))) rfl) ?_;rintro ⟨n6, y4⟩ H;obtain ⟨n6, rfl, H⟩ := bX H;replace H : dQ F a1 (bU F a1 n6) y4 = some r3 := H
 unfold dQ at H
 refine bx (X := Unit) (fun _ => ⟨[(0, slE (Enc.sl Enc.byte) a1 q2), (3, i64 y4)], [], []⟩) (fun _ => dN y4 (bU F a1 n6) = some r3) ?_ ?_
 ·refine aJ <| af ?_;obtain ⟨x7, e8, H⟩ := cT H;obtain ⟨g9, H⟩ := az H;obtain ⟨x10, e11, H⟩ := bb H;refine ab ?_;show AR _ _ _ _ _ [0, 1, 2, 3] _;refine zm rfl <| ap rfl rfl (aW rfl vD rfl (ph F y4 x7 e8) ?_);refine zS rfl (cE rfl rfl g9 e11) <| za rfl <| ai <| af <| ab ?_;show AR _ _ _ _ _ [0] _;refine za rfl <| ai <| bx (X := Bool) (fun y24 => ⟨[(0, slE (Enc.sl Enc.byte) a1 q2), (3, i64 y4), (4, S x10), (5, B y24)], [], []⟩) (fun y24 => dp y4 (bU F a1 n6) x10 y24 = some r3) ?_ ?_
  ·refine af <| ab ?_;show AR _ _ _ _ _ [0] _;refine za rfl <| ai <| aJ <| bE (X := Nat × Bool × Int) (fun (n15, y12, y13) => ⟨[(0, slE (Enc.sl Enc.byte) a1 q2), (3, i64 y4), (4, S x10), (5, B y12), (6, i64 y13)], [], []⟩) (fun (n15, y12, y13) => dP F a1 y4 (bU F a1 n6) x10 n15 (y12, y13) = some r3) (fun (n15, y12, y13) => n15) (F, false, 0) H (aU [] (.cons (.refl _) (.cons (.refl _) (.cons (.refl _) (.cons (.refl _) (.cons (.refl _) (.nil _)))))) rfl) ?_;rintro ⟨n15, y12, y13⟩ H;obtain ⟨n15, rfl, H⟩ := bX H;replace H : dR F a1 y4 (bU F a1 n6) x10 (dP F a1 y4 (bU F a1 n6) x10 n15) y12 y13 = some r3 := H
   unfold dR at H
   refine af <| af <| ab ?_;show AR _ _ _ _ _ [0, 1, 2, 3] _;refine zm rfl <| zS rfl (ag (av := slE _ _ _) rfl) <| zS rfl (aH aC rfl) <| zS rfl (bB rfl rfl) <| ai <| aD rfl (fun c16 => ?_) (fun c16 => ?_)
   ·replace H := aZ c16 H;refine aF <| af <| aJ ?_;obtain ⟨g18, H⟩ := cb H;obtain ⟨x19, e20, H⟩ := bb H;obtain ⟨x21, e22, H⟩ := qf H;refine ab ?_;show AR _ _ _ _ _ [0, 1, 2, 3, 4, 5, 6, 7, 8, 9, 10, 11] _;refine zm rfl <| zm rfl <| aQ (l := [11]) 28 (B (y12 || (decide (0 ≤ x21)))) (fun K => ?_) ?_
    ·rcases ah y12 with h17 | h17
     ·refine zF h17 rfl <| zF h17 rfl <| zF h17 rfl <| zF h17 rfl <| zF h17 rfl <| zF h17 rfl <| zF h17 rfl <| zF h17 rfl <| zS rfl (ax (av := .v _) rfl h17 rfl) ?_;exact K _ 8 _ (an (dC h17)) rfl rfl
     ·refine zU h17 rfl (ag (av := slE _ _ _) rfl) <| zM h17 rfl <| zU h17 rfl (aY (E := (Enc.sl Enc.byte)) aC (by kernel_rfl) rfl rfl (g18 (nf h17)) e20) <| zU h17 rfl (aL aa rfl rfl) <| zU h17 rfl (bn aa au ac rfl) <| zM h17 rfl <| zT h17 rfl (aW rfl pL rfl (py F x19 x10 0 x21 (e22 (nf h17))) ?_);refine zU h17 rfl (dl rfl rfl) <| zS rfl (ay (av := .v _) rfl h17 rfl) ?_;exact K _ 8 _ (an (dD h17)) rfl rfl
    refine za rfl <| ai ?_;obtain ⟨g23, H⟩ := az H;refine ab ?_;show AR _ _ _ _ _ [0, 1, 2] _;refine zm rfl <| zS rfl (bk rfl rfl g23) <| za rfl <| ai ?_;exact Exists.intro (n15, y12 || (decide (0 ≤ x21)), y13 + 1) ⟨H, Nat.lt_succ_self _, aU [] (.cons (.refl _) (.cons (.refl _) (.cons (.refl _) (.cons (.refl _) (.cons (.refl _) (.nil _)))))) rfl⟩
   ·replace H := ba c16 H;refine bz ?_;exact Exists.intro y12 ⟨H, aU [] (.cons (.refl _) (.cons (.refl _) (.cons (.refl _) (.cons (.refl _) (.nil _))))) rfl⟩
  rintro y24 H;replace H : dp y4 (bU F a1 n6) x10 y24 = some r3 := H
  unfold dp at H
  refine af <| ab ?_;show AR _ _ _ _ _ [0, 1] _;refine zm rfl <| zS rfl (cx rfl) <| ai <| aD rfl (fun c26 => ?_) (fun c26 => ?_)
  ·replace H := aZ c26 H;refine af <| ab ?_;show AR _ _ _ _ _ [0, 1] _;refine zm rfl <| za rfl <| ai <| aP ?_;obtain rfl := ak H;exact And.intro rfl (Exists.intro _ (Exists.intro _ ⟨aV rfl (.refl _), aO [] rfl, rfl, rfl⟩))
  ·replace H := ba c26 H;refine aF ?_;exact Exists.intro () ⟨H, aU [] (.cons (.refl _) (.cons (.refl _) (.nil _))) rfl⟩
 rintro _ H;replace H : dN y4 (bU F a1 n6) = some r3 := H
 unfold dN at H
 obtain ⟨g28, H⟩ := az H;refine ab ?_;show AR _ _ _ _ _ [0, 1, 2] _;refine zm rfl <| zS rfl (bk rfl rfl g28) <| za rfl <| ai ?_;exact Exists.intro (n6, y4 + 1) ⟨H, Nat.lt_succ_self _, aU [] (.cons (.refl _) (.cons (.refl _) (.nil _))) rfl⟩
set_option maxRecDepth 100000 in
set_option maxHeartbeats 1000000 in
theorem rj (F : Nat) (a1 : List UInt8) (r2 : Bool) (H : lR F a1 = some r2) : ACalls Tryz.prog 25 [S a1] [] (Ret (B r2) []) := by
 unfold lR at H
 refine aw Tryz.func25 rfl rfl ?_;show AW _ _ 80 _ _ _;refine af <| ab ?_;show AR _ _ _ _ _ [0] _;refine za rfl <| ai <| bx (X := Unit) (fun _ => ⟨[(0, S a1)], [], []⟩) (fun _ => dV a1 = some r2) ?_ ?_
 ·refine af <| ab ?_;show AR _ _ _ _ _ [0] _;refine za rfl <| ai <| aJ <| bE (X := Nat × Int) (fun (n5, y3) => ⟨[(0, S a1), (3, i64 y3)], [], []⟩) (fun (n5, y3) => fe a1 n5 y3 = some r2) (fun (n5, y3) => n5) (F, 0) H (aU [] (.cons (.refl _) (.cons (.refl _) (.nil _))) rfl) ?_;rintro ⟨n5, y3⟩ H;obtain ⟨n5, rfl, H⟩ := bX H;replace H : gE a1 (fe a1 n5) y3 = some r2 := H
  unfold gE at H
  refine af <| af <| ab ?_;show AR _ _ _ _ _ [0, 1, 2, 3] _;refine zm rfl <| zm rfl <| zS rfl (aX ac rfl) <| zS rfl (bB rfl rfl) <| ai <| aD rfl (fun c6 => ?_) (fun c6 => ?_)
  ·replace H := aZ c6 H;refine aF <| af <| aJ <| af ?_;obtain ⟨g7, H⟩ := az H;obtain ⟨x8, e9, H⟩ := bb H;refine ab ?_;show AR _ _ _ _ _ [0, 1, 2, 3] _;refine zm rfl <| zm rfl <| zS rfl (bo ac rfl rfl g7 e9) <| za rfl <| ai <| af <| ab ?_;show AR _ _ _ _ _ [0, 1, 2, 3, 4, 5, 6, 7, 8, 9, 10, 11, 12, 13, 14, 15, 16, 17, 18, 19, 20, 21, 22, 23, 24, 25, 26, 27, 28, 29, 30] _;refine zm rfl <| zS rfl (dl rfl rfl) <| zm rfl <| aQ (l := [6, 7, 8, 9, 10, 11, 12, 13, 14, 15, 16, 17, 18, 19, 20, 21, 22, 23, 24, 25, 26, 27, 28, 29, 30]) 21 (B ((decide (97 ≤ (x8.toNat : Int))) && (decide ((x8.toNat : Int) ≤ 122)))) (fun K => ?_) ?_
   ·rcases ah (decide (97 ≤ (x8.toNat : Int))) with h10 | h10
    ·refine zM h10 rfl <| zU h10 rfl (dd rfl rfl) <| zS rfl (ax (av := .v _) rfl h10 rfl) ?_;exact K _ 2 _ (an (cc h10)) rfl rfl
    ·refine zF h10 rfl <| zF h10 rfl <| zS rfl (ay (av := .v _) rfl h10 rfl) ?_;exact K _ 2 _ (an (cd h10)) rfl rfl
   refine zm rfl <| aQ (l := [14, 15, 16, 17, 18, 19, 20, 21, 22, 23, 24, 25, 26, 27, 28, 29, 30]) 29 (B (((decide (97 ≤ (x8.toNat : Int))) && (decide ((x8.toNat : Int) ≤ 122))) || ((decide (48 ≤ (x8.toNat : Int))) && (decide ((x8.toNat : Int) ≤ 57))))) (fun K => ?_) ?_
   ·rcases ah ((decide (97 ≤ (x8.toNat : Int))) && (decide ((x8.toNat : Int) ≤ 122))) with h11 | h11
    ·refine zF h11 rfl <| zF h11 rfl <| zF h11 rfl <| gU rfl rfl rfl rfl rfl <| gU rfl rfl rfl rfl rfl <| zF h11 rfl <| zS rfl (ax (av := .v _) rfl h11 rfl) ?_;exact K _ 6 _ (an (dC h11)) rfl rfl
    ·refine zM h11 rfl <| zU h11 rfl (dl rfl rfl) <| zM h11 rfl <| aQ (l := [13, 14, 15, 16, 17, 18, 19, 20, 21, 22, 23, 24, 25, 26, 27, 28, 29, 30]) 28 (B ((decide (48 ≤ (x8.toNat : Int))) && (decide ((x8.toNat : Int) ≤ 57)))) (fun K => ?_) ?_
     ·rcases ah (decide (48 ≤ (x8.toNat : Int))) with h12 | h12
      ·refine zM h12 rfl <| zU h12 rfl (dd rfl rfl) <| zU h11 rfl (ax (av := .v _) rfl h12 rfl) ?_;exact K _ 2 _ (an (cc h12)) rfl rfl
      ·refine zF h12 rfl <| zF h12 rfl <| zU h11 rfl (ay (av := .v _) rfl h12 rfl) ?_;exact K _ 2 _ (an (cd h12)) rfl rfl
     refine zS rfl (ay (av := .v _) rfl h11 rfl) ?_;exact K _ 4 _ (an (dD h11)) rfl rfl
   refine zm rfl <| aQ (l := [18, 19, 20, 21, 22, 23, 24, 25, 26, 27, 28, 29, 30]) 33 (B ((((decide (97 ≤ (x8.toNat : Int))) && (decide ((x8.toNat : Int) ≤ 122))) || ((decide (48 ≤ (x8.toNat : Int))) && (decide ((x8.toNat : Int) ≤ 57)))) || (decide (x8 = 47)))) (fun K => ?_) ?_
   ·rcases ah (((decide (97 ≤ (x8.toNat : Int))) && (decide ((x8.toNat : Int) ≤ 122))) || ((decide (48 ≤ (x8.toNat : Int))) && (decide ((x8.toNat : Int) ≤ 57)))) with h13 | h13
    ·refine zF h13 rfl <| zF h13 rfl <| zS rfl (ax (av := .v _) rfl h13 rfl) ?_;exact K _ 2 _ (an (dC h13)) rfl rfl
    ·refine zM h13 rfl <| zU h13 rfl (dt (a := x8) (b := 47) rfl rfl) <| zS rfl (ay (av := .v _) rfl h13 rfl) ?_;exact K _ 2 _ (an (dD h13)) rfl rfl
   refine zm rfl <| aQ (l := [22, 23, 24, 25, 26, 27, 28, 29, 30]) 37 (B (((((decide (97 ≤ (x8.toNat : Int))) && (decide ((x8.toNat : Int) ≤ 122))) || ((decide (48 ≤ (x8.toNat : Int))) && (decide ((x8.toNat : Int) ≤ 57)))) || (decide (x8 = 47))) || (decide (x8 = 45)))) (fun K => ?_) ?_
   ·rcases ah ((((decide (97 ≤ (x8.toNat : Int))) && (decide ((x8.toNat : Int) ≤ 122))) || ((decide (48 ≤ (x8.toNat : Int))) && (decide ((x8.toNat : Int) ≤ 57)))) || (decide (x8 = 47))) with h14 | h14
    ·refine zF h14 rfl <| zF h14 rfl <| zS rfl (ax (av := .v _) rfl h14 rfl) ?_;exact K _ 2 _ (an (dC h14)) rfl rfl
    ·refine zM h14 rfl <| zU h14 rfl (dt (a := x8) (b := 45) rfl rfl) <| zS rfl (ay (av := .v _) rfl h14 rfl) ?_;exact K _ 2 _ (an (dD h14)) rfl rfl
   refine zm rfl <| aQ (l := [26, 27, 28, 29, 30]) 41 (B ((((((decide (97 ≤ (x8.toNat : Int))) && (decide ((x8.toNat : Int) ≤ 122))) || ((decide (48 ≤ (x8.toNat : Int))) && (decide ((x8.toNat : Int) ≤ 57)))) || (decide (x8 = 47))) || (decide (x8 = 45))) || (decide (x8 = 61)))) (fun K => ?_) ?_
   ·rcases ah (((((decide (97 ≤ (x8.toNat : Int))) && (decide ((x8.toNat : Int) ≤ 122))) || ((decide (48 ≤ (x8.toNat : Int))) && (decide ((x8.toNat : Int) ≤ 57)))) || (decide (x8 = 47))) || (decide (x8 = 45))) with h15 | h15
    ·refine zF h15 rfl <| zF h15 rfl <| zS rfl (ax (av := .v _) rfl h15 rfl) ?_;exact K _ 2 _ (an (dC h15)) rfl rfl
    ·refine zM h15 rfl <| zU h15 rfl (dt (a := x8) (b := 61) rfl rfl) <| zS rfl (ay (av := .v _) rfl h15 rfl) ?_;exact K _ 2 _ (an (dD h15)) rfl rfl
   refine zm rfl <| aQ (l := [30]) 45 (B (((((((decide (97 ≤ (x8.toNat : Int))) && (decide ((x8.toNat : Int) ≤ 122))) || ((decide (48 ≤ (x8.toNat : Int))) && (decide ((x8.toNat : Int) ≤ 57)))) || (decide (x8 = 47))) || (decide (x8 = 45))) || (decide (x8 = 61))) || (decide (x8 = 59)))) (fun K => ?_) ?_
   ·rcases ah ((((((decide (97 ≤ (x8.toNat : Int))) && (decide ((x8.toNat : Int) ≤ 122))) || ((decide (48 ≤ (x8.toNat : Int))) && (decide ((x8.toNat : Int) ≤ 57)))) || (decide (x8 = 47))) || (decide (x8 = 45))) || (decide (x8 = 61))) with h16 | h16
    ·refine zF h16 rfl <| zF h16 rfl <| zS rfl (ax (av := .v _) rfl h16 rfl) ?_;exact K _ 2 _ (an (dC h16)) rfl rfl
    ·refine zM h16 rfl <| zU h16 rfl (dt (a := x8) (b := 59) rfl rfl) <| zS rfl (ay (av := .v _) rfl h16 rfl) ?_;exact K _ 2 _ (an (dD h16)) rfl rfl
   refine za rfl <| ai <| af ?_;obtain ⟨g19, H⟩ := cb H;obtain ⟨g21, H⟩ := cb H;obtain ⟨g22, H⟩ := cb H;obtain ⟨x23, e24, H⟩ := bb H;refine ab ?_;show AR _ _ _ _ _ [0, 1, 2, 3, 4, 5, 6, 7, 8, 9, 10, 11, 12, 13, 14, 15, 16, 17, 18, 19, 20] _;refine zm rfl <| zS rfl (dt (a := x8) (b := 32) rfl rfl) <| zm rfl <| aQ (l := [6, 7, 8, 9, 10, 11, 12, 13, 14, 15, 16, 17, 18, 19, 20]) 51 (B ((decide (x8 = 32)) && (decide (0 < y3)))) (fun K => ?_) ?_
   ·rcases ah (decide (x8 = 32)) with h17 | h17
    ·refine zM h17 rfl <| zU h17 rfl (cN rfl rfl) <| zS rfl (ax (av := .v _) rfl h17 rfl) ?_;exact K _ 2 _ (an (cc h17)) rfl rfl
    ·refine zF h17 rfl <| zF h17 rfl <| zS rfl (ay (av := .v _) rfl h17 rfl) ?_;exact K _ 2 _ (an (cd h17)) rfl rfl
   refine zm rfl <| aQ (l := [13, 14, 15, 16, 17, 18, 19, 20]) 58 (B (((decide (x8 = 32)) && (decide (0 < y3))) && (decide (y3 < (a1.length : Int) - 1)))) (fun K => ?_) ?_
   ·rcases ah ((decide (x8 = 32)) && (decide (0 < y3))) with h18 | h18
    ·refine zM h18 rfl <| zM h18 rfl <| zU h18 rfl (aX ac rfl) <| zU h18 rfl (jz rfl rfl (g19 h18)) <| zU h18 rfl (bB rfl rfl) <| zS rfl (ax (av := .v _) rfl h18 rfl) ?_;exact K _ 5 _ (an (cc h18)) rfl rfl
    ·refine zF h18 rfl <| zF h18 rfl <| zF h18 rfl <| zF h18 rfl <| zF h18 rfl <| zS rfl (ay (av := .v _) rfl h18 rfl) ?_;exact K _ 5 _ (an (cd h18)) rfl rfl
   refine zm rfl <| aQ (l := [20]) 65 (B ((((decide (x8 = 32)) && (decide (0 < y3))) && (decide (y3 < (a1.length : Int) - 1))) && (!decide (x23 = 32)))) (fun K => ?_) ?_
   ·rcases ah (((decide (x8 = 32)) && (decide (0 < y3))) && (decide (y3 < (a1.length : Int) - 1))) with h20 | h20
    ·refine zM h20 rfl <| zM h20 rfl <| zU h20 rfl (jz rfl rfl (g21 h20)) <| zU h20 rfl (bo ac rfl rfl (g22 h20) e24) <| zU h20 rfl (mt (a := x23) (b := 32) rfl rfl) <| zS rfl (ax (av := .v _) rfl h20 rfl) ?_;exact K _ 5 _ (an (cc h20)) rfl rfl
    ·refine zF h20 rfl <| zF h20 rfl <| zF h20 rfl <| zF h20 rfl <| zF h20 rfl <| zS rfl (ay (av := .v _) rfl h20 rfl) ?_;exact K _ 5 _ (an (cd h20)) rfl rfl
   refine za rfl <| ai <| af <| ab ?_;show AR _ _ _ _ _ [0, 1, 2, 3, 4, 5] _;refine zm rfl <| zS rfl (cx rfl) <| zm rfl <| aQ (l := []) 71 (B ((!(((((((decide (97 ≤ (x8.toNat : Int))) && (decide ((x8.toNat : Int) ≤ 122))) || ((decide (48 ≤ (x8.toNat : Int))) && (decide ((x8.toNat : Int) ≤ 57)))) || (decide (x8 = 47))) || (decide (x8 = 45))) || (decide (x8 = 61))) || (decide (x8 = 59)))) && (!((((decide (x8 = 32)) && (decide (0 < y3))) && (decide (y3 < (a1.length : Int) - 1))) && (!decide (x23 = 32)))))) (fun K => ?_) ?_
   ·rcases ah (!(((((((decide (97 ≤ (x8.toNat : Int))) && (decide ((x8.toNat : Int) ≤ 122))) || ((decide (48 ≤ (x8.toNat : Int))) && (decide ((x8.toNat : Int) ≤ 57)))) || (decide (x8 = 47))) || (decide (x8 = 45))) || (decide (x8 = 61))) || (decide (x8 = 59)))) with h25 | h25
    ·refine zM h25 rfl <| zU h25 rfl (cx rfl) <| zS rfl (ax (av := .v _) rfl h25 rfl) ?_;exact K _ 2 _ (an (cc h25)) rfl rfl
    ·refine zF h25 rfl <| zF h25 rfl <| zS rfl (ay (av := .v _) rfl h25 rfl) ?_;exact K _ 2 _ (an (cd h25)) rfl rfl
   refine ai <| aD rfl (fun c26 => ?_) (fun c26 => ?_)
   ·replace H := aZ c26 H;refine af <| ab ?_;show AR _ _ _ _ _ [0] _;refine za rfl <| ai <| aP ?_;obtain rfl := ak H;exact And.intro rfl (Exists.intro _ (Exists.intro _ ⟨aV rfl (.refl _), aO [] rfl, rfl, rfl⟩))
   ·replace H := ba c26 H;refine aF ?_;obtain ⟨g27, H⟩ := az H;refine ab ?_;show AR _ _ _ _ _ [0, 1, 2] _;refine zm rfl <| zS rfl (bk rfl rfl g27) <| za rfl <| ai ?_;exact Exists.intro (n5, y3 + 1) ⟨H, Nat.lt_succ_self _, aU [] (.cons (.refl _) (.cons (.refl _) (.nil _))) rfl⟩
  ·replace H := ba c6 H;refine bz ?_;exact Exists.intro () ⟨H, aU [] (.cons (.refl _) (.nil _)) rfl⟩
 rintro _ H;replace H : dV a1 = some r2 := H
 unfold dV at H
 refine af <| ab ?_;show AR _ _ _ _ _ [0, 1, 2, 3, 4, 5, 6, 7, 8] _;refine zm rfl <| zS rfl (aX ac rfl) <| zS rfl (dl rfl rfl) <| zm rfl <| aQ (l := [8]) 79 (B ((decide (1 ≤ (a1.length : Int))) && (decide ((a1.length : Int) ≤ 60)))) (fun K => ?_) ?_
 ·rcases ah (decide (1 ≤ (a1.length : Int))) with h29 | h29
  ·refine zM h29 rfl <| zU h29 rfl (aX ac rfl) <| zU h29 rfl (dd rfl rfl) <| zS rfl (ax (av := .v _) rfl h29 rfl) ?_;exact K _ 3 _ (an (cc h29)) rfl rfl
  ·refine zF h29 rfl <| zF h29 rfl <| zF h29 rfl <| zS rfl (ay (av := .v _) rfl h29 rfl) ?_;exact K _ 3 _ (an (cd h29)) rfl rfl
 refine za rfl <| ai <| aP ?_;obtain rfl := ak H;exact And.intro rfl (Exists.intro _ (Exists.intro _ ⟨aV rfl (.refl _), aO [] rfl, rfl, rfl⟩))
set_option maxRecDepth 100000 in
set_option maxHeartbeats 1000000 in
theorem oI (F : Nat) (a1 : List UInt8) (r2 : List UInt8) (H : gD F a1 = some r2) : ACalls Tryz.prog 26 [S a1] [] (Ret (slE Enc.byte r2 none) []) := by
 unfold gD at H
 refine aw Tryz.func26 rfl rfl ?_;show AW _ _ 14 _ _ _;refine af <| ab ?_;show AR _ _ _ _ _ [0] _;refine za rfl <| ai <| af ?_;obtain ⟨x3, x4, e5, H⟩ := eK H;refine ab ?_;show AR _ _ _ _ _ [0, 1, 2, 3, 4, 5, 6, 7, 8, 9] _;refine zm rfl <| zS rfl (iH (zs := [.string ⟨#[]⟩, .string ⟨#[]⟩]) (ps := [(0, 1), (1, 1)]) (cs := [S ([67, 111, 110, 116, 101, 110, 116, 45, 84, 121, 112, 101] : List UInt8), S a1]) (by kernel_rfl) rfl rfl) <| zS rfl (iH (zs := [.string ⟨#[]⟩, .string ⟨#[]⟩]) (ps := [(0, 1), (1, 1)]) (cs := [S lK, S ([113, 117, 111, 116, 101, 100, 45, 112, 114, 105, 110, 116, 97, 98, 108, 101] : List UInt8)]) (by kernel_rfl) rfl rfl) <| zR rfl (ku (E := (cA Enc.str Enc.str)) (bytes := 32) (zs := [.string ⟨#[]⟩, .string ⟨#[]⟩]) (l := ([(([67, 111, 110, 116, 101, 110, 116, 45, 84, 121, 112, 101] : List UInt8), a1), (lK, ([113, 117, 111, 116, 101, 100, 45, 112, 114, 105, 110, 116, 97, 98, 108, 101] : List UInt8))] : List ((List UInt8) × List UInt8))) bu (by kernel_rfl) (by kernel_rfl) rfl rfl rfl rfl rfl) <| ap rfl rfl (aW rfl vl rfl (sB F ([(([67, 111, 110, 116, 101, 110, 116, 45, 84, 121, 112, 101] : List UInt8), a1), (lK, ([113, 117, 111, 116, 101, 100, 45, 112, 114, 105, 110, 116, 97, 98, 108, 101] : List UInt8))] : List ((List UInt8) × List UInt8)) none x3 x4 e5) ?_)
 refine zS rfl (ag (av := .tup _) rfl) <| zS rfl (aI (av := slE _ _ _) rfl rfl) <| zS rfl (aI (av := .v _) rfl rfl) <| zS rfl (am (av := slE _ _ _) rfl) <| za rfl <| ai <| af <| ab ?_;show AR _ _ _ _ _ [0, 1] _;refine zS rfl (ag (av := slE _ _ _) rfl) <| zS rfl (am (av := slE _ _ _) rfl) <| ai <| aP ?_;obtain rfl := ak H;exact And.intro rfl (Exists.intro _ (Exists.intro _ ⟨aV rfl (.refl _), aO [] rfl, rfl, rfl⟩))
set_option maxRecDepth 100000 in
set_option maxHeartbeats 1000000 in
theorem rl (F : Nat) (a1 : List (List UInt8)) (q2 : Option Nat) (a3 : List (List UInt8)) (q4 : Option Nat) (r5 : List UInt8) (r6 : List UInt8) (r7 : Int) (H : kI F a1 a3 = some (r5, r6, r7)) : ACalls Tryz.prog 11 [slE Enc.str a1 q2, slE (Enc.sl Enc.byte) a3 q4] [] (Ret (.tup [slE Enc.byte r5 none, S r6, i64 r7]) []) := by
 unfold kI at H
 refine aw Tryz.func11 rfl rfl ?_;show AW _ _ 84 _ _ _;refine af <| ab ?_;show AR _ _ _ _ _ [0, 1, 2] _;refine za rfl <| za rfl <| za rfl <| ai <| af <| af <| ab ?_;show AR _ _ _ _ _ [0, 1, 2, 3, 4, 5, 6, 7, 8, 9, 10, 11, 12, 13, 14] _;refine zS rfl (ag (av := slE _ _ _) rfl) <| zS rfl (aH aA rfl) <| zS rfl (ag (av := slE _ _ _) rfl) <| zS rfl (aH aC rfl) <| zS rfl (dv rfl rfl) <| zm rfl <| aQ (l := [10, 11, 12, 13, 14]) 22 (B ((!decide ((a1.length : Int) = (a3.length : Int))) || (decide ((a3.length : Int) < 1)))) (fun K => ?_) ?_
 ·rcases ah (!decide ((a1.length : Int) = (a3.length : Int))) with h8 | h8
  ·refine zF h8 rfl <| zF h8 rfl <| zF h8 rfl <| zS rfl (ax (av := .v _) rfl h8 rfl) ?_;exact K _ 3 _ (an (dC h8)) rfl rfl
  ·refine zU h8 rfl (ag (av := slE _ _ _) rfl) <| zU h8 rfl (aH aC rfl) <| zU h8 rfl (bB rfl rfl) <| zS rfl (ay (av := .v _) rfl h8 rfl) ?_;exact K _ 3 _ (an (dD h8)) rfl rfl
 refine zm rfl <| aQ (l := []) 27 (B (((!decide ((a1.length : Int) = (a3.length : Int))) || (decide ((a3.length : Int) < 1))) || (decide (8 < (a3.length : Int))))) (fun K => ?_) ?_
 ·rcases ah ((!decide ((a1.length : Int) = (a3.length : Int))) || (decide ((a3.length : Int) < 1))) with h9 | h9
  ·refine zF h9 rfl <| zF h9 rfl <| zF h9 rfl <| zS rfl (ax (av := .v _) rfl h9 rfl) ?_;exact K _ 3 _ (an (dC h9)) rfl rfl
  ·refine zU h9 rfl (ag (av := slE _ _ _) rfl) <| zU h9 rfl (aH aC rfl) <| zU h9 rfl (cN rfl rfl) <| zS rfl (ay (av := .v _) rfl h9 rfl) ?_;exact K _ 3 _ (an (dD h9)) rfl rfl
 refine ai <| aD rfl (fun c10 => ?_) (fun c10 => ?_)
 ·replace H := aZ c10 H;refine af <| ab ?_;show AR _ _ _ _ _ [0, 1, 2] _;refine za rfl <| za rfl <| za rfl <| ai <| aP ?_;obtain ⟨rfl, rfl, rfl⟩ := gz H;exact And.intro rfl (Exists.intro _ (Exists.intro _ ⟨bp rfl (.nil _) (.refl _) (.refl _), aO [] rfl, rfl, rfl⟩))
 ·replace H := ba c10 H;refine aF <| af <| ab ?_;show AR _ _ _ _ _ [0] _;refine za rfl <| ai ?_
  refine bL 7 1 26 rfl fun t11 => ?_
  show AW _ _ _ _ _ ⟨(7, slE (Enc.sl Enc.byte) [] (some t11)) :: _, _, _⟩;refine bx (X := (List (List UInt8)) × Nat) (fun (y34, t35) => ⟨[(0, slE Enc.str a1 q2), (1, slE (Enc.sl Enc.byte) a3 q4), (7, slE (Enc.sl Enc.byte) y34 (some t35))], [], [.tok t35 26]⟩) (fun (y34, t35) => ff F a1 a3 y34 = some (r5, r6, r7)) ?_ ?_
  ·refine af <| ab ?_;show AR _ _ _ _ _ [0] _;refine za rfl <| ai <| aJ <| bE (X := Nat × (List (List UInt8)) × Nat × Int) (fun (n16, y12, t13, y14) => ⟨[(0, slE Enc.str a1 q2), (1, slE (Enc.sl Enc.byte) a3 q4), (7, slE (Enc.sl Enc.byte) y12 (some t13)), (8, i64 y14)], [], [.tok t13 26]⟩) (fun (n16, y12, t13, y14) => gH F a1 a3 n16 (y12, y14) = some (r5, r6, r7)) (fun (n16, y12, t13, y14) => n16) (F, [], t11, 0) H (aU [0] (.cons (.refl _) (.cons (.refl _) (.cons (.refl _) (.cons (.refl _) (.nil _))))) rfl) ?_;rintro ⟨n16, y12, t13, y14⟩ H;obtain ⟨n16, rfl, H⟩ := bX H;replace H : gI F a1 a3 (gH F a1 a3 n16) y12 y14 = some (r5, r6, r7) := H
   unfold gI at H
   refine af <| af <| ab ?_;show AR _ _ _ _ _ [0, 1, 2, 3] _;refine zm rfl <| zS rfl (ag (av := slE _ _ _) rfl) <| zS rfl (aH aC rfl) <| zS rfl (bB rfl rfl) <| ai <| aD rfl (fun c17 => ?_) (fun c17 => ?_)
   ·replace H := aZ c17 H;refine aF <| af <| aJ <| af ?_;obtain ⟨g18, H⟩ := az H;obtain ⟨x19, e20, H⟩ := bb H;obtain ⟨x21, e22, H⟩ := cT H;refine ab ?_;show AR _ _ _ _ _ [0, 1, 2, 3, 4, 5] _;refine zS rfl (ag (av := slE _ _ _) rfl) <| zm rfl <| zS rfl (aY (E := Enc.str) aA (by kernel_rfl) rfl rfl g18 e20) <| zS rfl (aL ac rfl rfl) <| ap rfl rfl (aW rfl vJ rfl (rj F x19 x21 e22) ?_);refine za rfl <| ai <| af <| af <| ab ?_;show AR _ _ _ _ _ [0, 1] _;refine zm rfl <| zS rfl (cx rfl) <| ai <| aD rfl (fun c23 => ?_) (fun c23 => ?_)
    ·replace H := aZ c23 H;refine af <| ab ?_;show AR _ _ _ _ _ [0, 1, 2] _;refine za rfl <| za rfl <| za rfl <| ai <| aP ?_;obtain ⟨rfl, rfl, rfl⟩ := gz H;exact And.intro rfl (Exists.intro _ (Exists.intro _ ⟨bp rfl (.nil _) (.refl _) (.refl _), aO [] rfl, rfl, rfl⟩))
    ·replace H := ba c23 H;refine aF ?_;obtain ⟨g24, H⟩ := az H;obtain ⟨x25, e26, H⟩ := bb H;obtain ⟨x27, e28, H⟩ := cT H;obtain ⟨g30, H⟩ := az H;obtain ⟨x31, e32, H⟩ := bb H;refine ab ?_;show AR _ _ _ _ _ [0, 1, 2, 3, 4, 5, 6, 7, 8] _;refine zS rfl (ag (av := slE _ _ _) rfl) <| zS rfl (ag (av := slE _ _ _) rfl) <| zm rfl <| zS rfl (aY (E := (Enc.sl Enc.byte)) aC (by kernel_rfl) rfl rfl g24 e26) <| zS rfl (aL aa rfl rfl) <| ap rfl rfl (aW rfl vP rfl (pf F x25 none x27 e28) ?_);refine zR rfl (bh (E := (Enc.sl Enc.byte)) (bytes := 24) (xs := [.tmp 46]) (l := ([x27] : List (List UInt8))) aC (by kernel_rfl) rfl rfl (by decide) rfl rfl) <| zX rfl (bA (E := (Enc.sl Enc.byte)) (bytes := 24) 0 aC aC rfl (by kernel_rfl) rfl rfl rfl rfl g30 e32) ?_;rintro _ _ ⟨t29, rfl, rfl⟩;refine zS rfl (am (av := slE _ _ _) rfl) <| ai ?_;obtain ⟨g33, H⟩ := az H;refine ab ?_;show AR _ _ _ _ _ [0, 1, 2] _;refine zm rfl <| zS rfl (bk rfl rfl g33) <| za rfl <| ai ?_;exact Exists.intro (n16, x31, t29, y14 + 1) ⟨H, Nat.lt_succ_self _, aU [0] (.cons (.refl _) (.cons (.refl _) (.cons (.refl _) (.cons (.refl _) (.nil _))))) rfl⟩
   ·replace H := ba c17 H;refine bz ?_;exact Exists.intro (y12, t13) ⟨H, aU [0] (.cons (.refl _) (.cons (.refl _) (.cons (.refl _) (.nil _)))) rfl⟩
  rintro ⟨y34, t35⟩ H;replace H : ff F a1 a3 y34 = some (r5, r6, r7) := H
  unfold ff at H
  refine af ?_;obtain ⟨x37, e38, H⟩ := cT H;refine ab ?_;show AR _ _ _ _ _ [0, 1, 2] _;refine zS rfl (ag (av := slE _ _ _) rfl) <| ap rfl rfl (aW rfl vR rfl (nK F y34 (some t35) x37 e38) ?_);refine za rfl <| ai <| af <| ab ?_;show AR _ _ _ _ _ [0] _;refine za rfl <| ai ?_
  refine bL 11 1 5 rfl fun t39 => ?_
  show AW _ _ _ _ _ ⟨(11, slE Enc.byte [] (some t39)) :: _, _, _⟩;refine bx (X := (List UInt8) × Nat) (fun (y77, t78) => ⟨[(10, S x37), (11, slE Enc.byte y77 (some t78))], [], [.tok t78 5]⟩) (fun (y77, t78) => gG x37 y77 = some (r5, r6, r7)) ?_ ?_
  ·refine af <| ab ?_;show AR _ _ _ _ _ [0] _;refine za rfl <| ai <| aJ <| bE (X := Nat × (List UInt8) × Nat × Int) (fun (n44, y40, t41, y42) => ⟨[(0, slE Enc.str a1 q2), (1, slE (Enc.sl Enc.byte) a3 q4), (7, slE (Enc.sl Enc.byte) y34 (some t35)), (10, S x37), (11, slE Enc.byte y40 (some t41)), (12, i64 y42)], [], [.tok t35 26, .tok t41 5]⟩) (fun (n44, y40, t41, y42) => fg F a1 a3 y34 x37 n44 (y40, y42) = some (r5, r6, r7)) (fun (n44, y40, t41, y42) => n44) (F, [], t39, 0) H (aU [1, 0] (.cons (.refl _) (.cons (.refl _) (.cons (.refl _) (.cons (.refl _) (.cons (.refl _) (.cons (.refl _) (.nil _))))))) rfl) ?_;rintro ⟨n44, y40, t41, y42⟩ H;obtain ⟨n44, rfl, H⟩ := bX H;replace H : gJ F a1 a3 y34 x37 (fg F a1 a3 y34 x37 n44) y40 y42 = some (r5, r6, r7) := H
   unfold gJ at H
   refine af <| af <| ab ?_;show AR _ _ _ _ _ [0, 1, 2, 3] _;refine zm rfl <| zS rfl (ag (av := slE _ _ _) rfl) <| zS rfl (aH aC rfl) <| zS rfl (bB rfl rfl) <| ai <| aD rfl (fun c45 => ?_) (fun c45 => ?_)
   ·replace H := aZ c45 H;refine aF <| af <| aJ <| af ?_;obtain ⟨g46, H⟩ := az H;obtain ⟨x47, e48, H⟩ := bb H;obtain ⟨g49, H⟩ := az H;obtain ⟨x50, e51, H⟩ := bb H;obtain ⟨g53, H⟩ := az H;obtain ⟨x54, e55, H⟩ := bb H;refine ab ?_;show AR _ _ _ _ _ [0, 1, 2, 3, 4, 5] _;refine zS rfl (ag (av := slE _ _ _) rfl) <| zm rfl <| zS rfl (cE rfl rfl g46 e48) <| zS rfl (cE rfl rfl g49 e51) <| zX rfl (bi (bytes := 1) 1 aa ac rfl (by kernel_rfl) rfl rfl rfl rfl g53 e55) ?_;rintro _ _ ⟨t52, rfl, rfl⟩;refine zS rfl (am (av := slE _ _ _) rfl) <| ai <| af ?_;obtain ⟨g56, H⟩ := az H;obtain ⟨x57, e58, H⟩ := bb H;obtain ⟨x59, e60, H⟩ := cT H;obtain ⟨g62, H⟩ := az H;obtain ⟨x63, e64, H⟩ := bb H;refine ab ?_;show AR _ _ _ _ _ [0, 1, 2, 3, 4, 5, 6, 7] _;refine zS rfl (ag (av := slE _ _ _) rfl) <| zS rfl (ag (av := slE _ _ _) rfl) <| zm rfl <| zS rfl (aY (E := Enc.str) aA (by kernel_rfl) rfl rfl g56 e58) <| zS rfl (aL ac rfl rfl) <| ap rfl rfl (aW rfl vI rfl (oI F x57 x59 e60) ?_);refine zX rfl (bA (E := Enc.byte) (bytes := 1) 1 aa aa rfl (by kernel_rfl) rfl rfl rfl rfl g62 e64) ?_;rintro _ _ ⟨t61, rfl, rfl⟩;refine zS rfl (am (av := slE _ _ _) rfl) <| ai <| af ?_;obtain ⟨g65, H⟩ := az H;obtain ⟨x66, e67, H⟩ := bb H;obtain ⟨g69, H⟩ := az H;obtain ⟨x70, e71, H⟩ := bb H;refine ab ?_
    show AR _ _ _ _ _ [0, 1, 2, 3, 4, 5, 6] _;refine zS rfl (ag (av := slE _ _ _) rfl) <| zS rfl (ag (av := slE _ _ _) rfl) <| zm rfl <| zS rfl (aY (E := (Enc.sl Enc.byte)) aC (by kernel_rfl) rfl rfl g65 e67) <| zS rfl (aL aa rfl rfl) <| zX rfl (bA (E := Enc.byte) (bytes := 1) 1 aa aa rfl (by kernel_rfl) rfl rfl rfl rfl g69 e71) ?_;rintro _ _ ⟨t68, rfl, rfl⟩;refine zS rfl (am (av := slE _ _ _) rfl) <| ai ?_;obtain ⟨g73, H⟩ := az H;obtain ⟨x74, e75, H⟩ := bb H;refine ab ?_;show AR _ _ _ _ _ [0, 1, 2, 3] _;refine zS rfl (ag (av := slE _ _ _) rfl) <| zR rfl (bh (E := Enc.byte) (bytes := 1) (xs := [.const _, .const _]) (l := ([13, 10] : List UInt8)) aa (by kernel_rfl) rfl rfl (by decide) rfl rfl) <| zX rfl (bA (E := Enc.byte) (bytes := 1) 1 aa aa rfl (by kernel_rfl) rfl rfl rfl rfl g73 e75) ?_;rintro _ _ ⟨t72, rfl, rfl⟩;refine zS rfl (am (av := slE _ _ _) rfl) <| ai ?_;obtain ⟨g76, H⟩ := az H;refine ab ?_;show AR _ _ _ _ _ [0, 1, 2] _;refine zm rfl <| zS rfl (bk rfl rfl g76) <| za rfl <| ai ?_;exact Exists.intro (n44, x74, t72, y42 + 1) ⟨H, Nat.lt_succ_self _, aU [0, 0] (.cons (.refl _) (.cons (.refl _) (.cons (.refl _) (.cons (.refl _) (.cons (.refl _) (.cons (.refl _) (.nil _))))))) rfl⟩
   ·replace H := ba c45 H;refine bz ?_;exact Exists.intro (y40, t41) ⟨H, aU [1] (.cons (.refl _) (.cons (.refl _) (.nil _))) rfl⟩
  rintro ⟨y77, t78⟩ H;replace H : gG x37 y77 = some (r5, r6, r7) := H
  unfold gG at H
  refine af ?_;obtain ⟨g80, H⟩ := az H;obtain ⟨x81, e82, H⟩ := bb H;obtain ⟨g83, H⟩ := az H;obtain ⟨x84, e85, H⟩ := bb H;obtain ⟨g87, H⟩ := az H;obtain ⟨x88, e89, H⟩ := bb H;refine ab ?_;show AR _ _ _ _ _ [0, 1, 2, 3, 4, 5, 6, 7, 8] _;refine zS rfl (ag (av := slE _ _ _) rfl) <| zm rfl <| zS rfl (cE rfl rfl g80 e82) <| zS rfl (cE rfl rfl g83 e85) <| zX rfl (bi (bytes := 1) 0 aa ac rfl (by kernel_rfl) rfl rfl rfl rfl g87 e89) ?_;rintro _ _ ⟨t86, rfl, rfl⟩;refine zm rfl <| zS rfl (am (av := slE _ _ _) rfl) <| za rfl <| za rfl <| ai <| aP ?_;obtain ⟨rfl, rfl, rfl⟩ := gz H;exact And.intro rfl (Exists.intro _ (Exists.intro _ ⟨bp rfl (.tok _ _ _) (.refl _) (.refl _), aO [] rfl, rfl, rfl⟩))
set_option maxRecDepth 100000 in
set_option maxHeartbeats 1000000 in
theorem sy (F : Nat) (a1 : List UInt8) (r2 : List UInt8) (r3 : List UInt8) (r4 : Bool) (H : lB F a1 = some (r2, r3, r4)) : ACalls Tryz.prog 37 [S a1] [] (Ret (.tup [S r2, slE Enc.byte r3 none, B r4]) []) := by
 unfold lB at H
 refine aw Tryz.func37 rfl rfl ?_;show AW _ _ 45 _ _ _;refine af <| ab ?_;show AR _ _ _ _ _ [0, 1, 2] _;refine za rfl <| za rfl <| za rfl <| ai <| af ?_;obtain ⟨g5, H⟩ := az H;obtain ⟨x7, x8, x9, e10, H⟩ := kj H;refine ab ?_;show AR _ _ _ _ _ [0, 1, 2, 3, 4, 5, 6, 7, 8, 9] _;refine zm rfl <| zX rfl (cQ (bytes := 1) ac aa au rfl g5) ?_;rintro _ _ ⟨t6, rfl, rfl⟩;refine ap rfl rfl (aW rfl vg rfl (sA F a1 (some t6) x7 x8 x9 e10) ?_);refine zS rfl (ag (av := .tup _) rfl) <| zS rfl (aI (av := slE _ _ _) rfl rfl) <| zS rfl (aI (av := slE _ _ _) rfl rfl) <| zS rfl (aI (av := .v _) rfl rfl) <| zS rfl (am (av := slE _ _ _) rfl) <| zS rfl (am (av := slE _ _ _) rfl) <| za rfl <| ai <| af <| af <| ab ?_;show AR _ _ _ _ _ [0, 1, 2, 3, 4, 5, 6, 7, 8, 9, 10, 11] _;refine zm rfl <| zS rfl (dv rfl rfl) <| zm rfl <| aQ (l := [7, 8, 9, 10, 11]) 23 (B ((!decide (x9 = 0)) || (!decide ((x7.length : Int) = 2)))) (fun K => ?_) ?_
 ·rcases ah (!decide (x9 = 0)) with h11 | h11
  ·refine zF h11 rfl <| zF h11 rfl <| zF h11 rfl <| zS rfl (ax (av := .v _) rfl h11 rfl) ?_;exact K _ 3 _ (an (dC h11)) rfl rfl
  ·refine zU h11 rfl (ag (av := slE _ _ _) rfl) <| zU h11 rfl (aH bu rfl) <| zU h11 rfl (dv rfl rfl) <| zS rfl (ay (av := .v _) rfl h11 rfl) ?_;exact K _ 3 _ (an (dD h11)) rfl rfl
 refine zm rfl <| aQ (l := []) 28 (B (((!decide (x9 = 0)) || (!decide ((x7.length : Int) = 2))) || (decide ((x8.length : Int) < 2)))) (fun K => ?_) ?_
 ·rcases ah ((!decide (x9 = 0)) || (!decide ((x7.length : Int) = 2))) with h12 | h12
  ·refine zF h12 rfl <| zF h12 rfl <| zF h12 rfl <| zS rfl (ax (av := .v _) rfl h12 rfl) ?_;exact K _ 3 _ (an (dC h12)) rfl rfl
  ·refine zU h12 rfl (ag (av := slE _ _ _) rfl) <| zU h12 rfl (aH aa rfl) <| zU h12 rfl (bB rfl rfl) <| zS rfl (ay (av := .v _) rfl h12 rfl) ?_;exact K _ 3 _ (an (dD h12)) rfl rfl
 refine ai <| aD rfl (fun c13 => ?_) (fun c13 => ?_)
 ·replace H := aZ c13 H;refine af <| ab ?_;show AR _ _ _ _ _ [0, 1, 2] _;refine za rfl <| za rfl <| za rfl <| ai <| aP ?_;obtain ⟨rfl, rfl, rfl⟩ := gz H;exact And.intro rfl (Exists.intro _ (Exists.intro _ ⟨bp rfl (.refl _) (.nil _) (.refl _), aO [] rfl, rfl, rfl⟩))
 ·replace H := ba c13 H;refine aF <| af ?_;obtain ⟨g14, H⟩ := az H;obtain ⟨g15, H⟩ := az H;obtain ⟨x16, e17, H⟩ := bb H;obtain ⟨x18, x19, e20, H⟩ := eK H;refine ab ?_;show AR _ _ _ _ _ [0, 1, 2, 3, 4, 5, 6, 7, 8, 9, 10] _;refine zS rfl (ag (av := slE _ _ _) rfl) <| zS rfl (ag (av := slE _ _ _) rfl) <| zS rfl (aH aa rfl) <| zS rfl (jz rfl rfl g14) <| zS rfl (lu (E := Enc.byte) aa (by kernel_rfl) rfl rfl g15 e17) <| ap rfl rfl (aW rfl vf rfl (pg F x16 none x18 x19 e20) ?_);refine zS rfl (ag (av := .tup _) rfl) <| zS rfl (aI (av := slE _ _ _) rfl rfl) <| zS rfl (aI (av := .v _) rfl rfl) <| zS rfl (am (av := slE _ _ _) rfl) <| za rfl <| ai <| af ?_;obtain ⟨g21, H⟩ := az H;obtain ⟨x22, e23, H⟩ := bb H;refine ab ?_;show AR _ _ _ _ _ [0, 1, 2, 3, 4, 5, 6, 7, 8, 9] _;refine zS rfl (ag (av := slE _ _ _) rfl) <| zS rfl (aY (E := (cA Enc.str Enc.str)) bu (by kernel_rfl) rfl rfl g21 e23) <| zS rfl (co (n := 1) (by kernel_rfl) rfl (aj rfl)) <| zS rfl (aL ac rfl rfl) <| zS rfl (ag (av := slE _ _ _) rfl) <| zm rfl <| zS rfl (dm rfl rfl) <| za rfl <| zS rfl (am (av := slE _ _ _) rfl) <| za rfl <| ai <| aP ?_;obtain ⟨rfl, rfl, rfl⟩ := gz H;exact And.intro rfl (Exists.intro _ (Exists.intro _ ⟨bp rfl (.refl _) (.refl _) (.refl _), aO [] rfl, rfl, rfl⟩))
set_option maxRecDepth 100000 in
set_option maxHeartbeats 1000000 in
theorem qj (F : Nat) (a1 : List UInt8) (q2 : Option Nat) (a3 : List UInt8) (r4 : List (List UInt8)) (r5 : List (List UInt8)) (r6 : Int) (H : jV F a1 a3 = some (r4, r5, r6)) : ACalls Tryz.prog 15 [slE Enc.byte a1 q2, S a3] [] (Ret (.tup [slE Enc.str r4 none, slE (Enc.sl Enc.byte) r5 none, i64 r6]) []) := by
 unfold jV at H
 refine aw Tryz.func15 rfl rfl ?_;show AW _ _ 111 _ _ _;refine af <| ab ?_;show AR _ _ _ _ _ [0, 1, 2] _;refine za rfl <| za rfl <| za rfl <| ai <| af <| ab ?_;show AR _ _ _ _ _ [0, 1, 2] _;refine zS rfl (ag (av := slE _ _ _) rfl) <| zS rfl (bn aa au ac rfl) <| za rfl <| ai <| af ?_;obtain ⟨g7, H⟩ := az H;obtain ⟨x8, e9, H⟩ := bb H;obtain ⟨g10, H⟩ := az H;obtain ⟨x11, e12, H⟩ := bb H;refine ab ?_;show AR _ _ _ _ _ [0, 1, 2, 3] _;refine zm rfl <| zS rfl (cE rfl rfl g7 e9) <| zS rfl (cE rfl rfl g10 e12) <| za rfl <| ai <| af ?_;obtain ⟨g13, H⟩ := az H;obtain ⟨x14, e15, H⟩ := bb H;obtain ⟨g16, H⟩ := az H;obtain ⟨x17, e18, H⟩ := bb H;refine ab ?_;show AR _ _ _ _ _ [0, 1, 2, 3] _;refine zm rfl <| zS rfl (cE rfl rfl g13 e15) <| zS rfl (cE rfl rfl g16 e18) <| za rfl <| ai <| af <| ab ?_;show AR _ _ _ _ _ [0] _;refine za rfl <| ai ?_
 refine bL 10 1 9 rfl fun t19 => ?_
 show AW _ _ _ _ _ ⟨(10, slE Enc.str [] (some t19)) :: _, _, _⟩;refine af <| ab ?_;show AR _ _ _ _ _ [0] _;refine za rfl <| ai ?_
 refine bL 11 1 26 rfl fun t20 => ?_
 show AW _ _ _ _ _ ⟨(11, slE (Enc.sl Enc.byte) [] (some t20)) :: _, _, _⟩;refine af <| ab ?_;show AR _ _ _ _ _ [0] _;refine za rfl <| ai <| bx (X := (List (List UInt8)) × Nat × (List (List UInt8)) × Nat × Int) (fun (y59, t60, y61, t62, y63) => ⟨[(1, S a3), (7, S a1), (9, S x17), (10, slE Enc.str y59 (some t60)), (11, slE (Enc.sl Enc.byte) y61 (some t62)), (12, i64 y63)], [], [.tok t60 9, .tok t62 26]⟩) (fun (y59, t60, y61, t62, y63) => ek F a1 a3 x17 y59 y61 y63 = some (r4, r5, r6)) ?_ ?_
 ·refine aJ <| bE (X := Nat × (List (List UInt8)) × Nat × (List (List UInt8)) × Nat × Int) (fun (n27, y21, t22, y23, t24, y25) => ⟨[(1, S a3), (7, S a1), (8, S x11), (9, S x17), (10, slE Enc.str y21 (some t22)), (11, slE (Enc.sl Enc.byte) y23 (some t24)), (12, i64 y25)], [], [.tok t22 9, .tok t24 26]⟩) (fun (n27, y21, t22, y23, t24, y25) => fA F a1 a3 x11 x17 n27 (y21, y23, y25) = some (r4, r5, r6)) (fun (n27, y21, t22, y23, t24, y25) => n27) (F, [], t19, [], t20, 0) H (aU [1, 0] (.cons (.refl _) (.cons (.refl _) (.cons (.refl _) (.cons (.refl _) (.cons (.refl _) (.cons (.refl _) (.cons (.refl _) (.nil _)))))))) rfl) ?_;rintro ⟨n27, y21, t22, y23, t24, y25⟩ H;obtain ⟨n27, rfl, H⟩ := bX H;replace H : fB F a1 a3 x11 x17 (fA F a1 a3 x11 x17 n27) y21 y23 y25 = some (r4, r5, r6) := H
  unfold fB at H
  refine af <| af ?_;obtain ⟨g29, H⟩ := cb H;obtain ⟨g31, H⟩ := cb H;obtain ⟨g32, H⟩ := cb H;obtain ⟨x33, e34, H⟩ := bb H;refine ab ?_;show AR _ _ _ _ _ [0, 1, 2, 3, 4, 5, 6, 7, 8, 9, 10, 11, 12, 13, 14, 15, 16, 17, 18, 19, 20, 21, 22] _;refine zS rfl (ag (av := slE _ _ _) rfl) <| zS rfl (aH aC rfl) <| zS rfl (dd rfl rfl) <| zm rfl <| aQ (l := [12, 13, 14, 15, 16, 17, 18, 19, 20, 21, 22]) 39 (B ((decide ((y23.length : Int) ≤ 8)) && (decide (y25 + (x11.length : Int) ≤ (a1.length : Int))))) (fun K => ?_) ?_
  ·rcases ah (decide ((y23.length : Int) ≤ 8)) with h28 | h28
   ·refine zM h28 rfl <| zM h28 rfl <| zU h28 rfl (aX ac rfl) <| zU h28 rfl (bk rfl rfl (g29 h28)) <| zM h28 rfl <| zU h28 rfl (aX ac rfl) <| zU h28 rfl (dd rfl rfl) <| zS rfl (ax (av := .v _) rfl h28 rfl) ?_;exact K _ 7 _ (an (cc h28)) rfl rfl
   ·refine zF h28 rfl <| zF h28 rfl <| zF h28 rfl <| zF h28 rfl <| zF h28 rfl <| zF h28 rfl <| zF h28 rfl <| zS rfl (ay (av := .v _) rfl h28 rfl) ?_;exact K _ 7 _ (an (cd h28)) rfl rfl
  refine zm rfl <| aQ (l := []) 50 (B (((decide ((y23.length : Int) ≤ 8)) && (decide (y25 + (x11.length : Int) ≤ (a1.length : Int)))) && (decide (x33 = x11)))) (fun K => ?_) ?_
  ·rcases ah ((decide ((y23.length : Int) ≤ 8)) && (decide (y25 + (x11.length : Int) ≤ (a1.length : Int)))) with h30 | h30
   ·refine zM h30 rfl <| zM h30 rfl <| zM h30 rfl <| zM h30 rfl <| zU h30 rfl (aX ac rfl) <| zU h30 rfl (bk rfl rfl (g31 h30)) <| zU h30 rfl (dU ac rfl rfl rfl (g32 h30) e34) <| zM h30 rfl <| zU h30 rfl (lr rfl rfl) <| zS rfl (ax (av := .v _) rfl h30 rfl) ?_;exact K _ 9 _ (an (cc h30)) rfl rfl
   ·refine zF h30 rfl <| zF h30 rfl <| zF h30 rfl <| zF h30 rfl <| zF h30 rfl <| zF h30 rfl <| zF h30 rfl <| zF h30 rfl <| zF h30 rfl <| zS rfl (ay (av := .v _) rfl h30 rfl) ?_;exact K _ 9 _ (an (cd h30)) rfl rfl
  refine ai <| aD rfl (fun c35 => ?_) (fun c35 => ?_)
  ·replace H := aZ c35 H;refine aF <| aJ <| af ?_;obtain ⟨g36, H⟩ := az H;refine ab ?_;show AR _ _ _ _ _ [0, 1, 2, 3, 4] _;refine zm rfl <| zm rfl <| zS rfl (aX ac rfl) <| zS rfl (bk rfl rfl g36) <| za rfl <| ai <| af ?_;obtain ⟨g37, H⟩ := az H;obtain ⟨x38, e39, H⟩ := bb H;obtain ⟨x40, e41, H⟩ := cT H;refine ab ?_;show AR _ _ _ _ _ [0, 1, 2, 3, 4, 5] _;refine zm rfl <| zm rfl <| zS rfl (cE rfl rfl g37 e39) <| zm rfl <| ap rfl rfl (aW rfl pL rfl (py F a1 x38 (y25 + (x11.length : Int)) x40 e41) ?_);refine za rfl <| ai <| af <| af <| ab ?_;show AR _ _ _ _ _ [0, 1] _;refine zm rfl <| zS rfl (bB rfl rfl) <| ai <| aD rfl (fun c42 => ?_) (fun c42 => ?_)
   ·replace H := aZ c42 H;refine af <| ab ?_;show AR _ _ _ _ _ [0, 1, 2] _;refine za rfl <| za rfl <| za rfl <| ai <| aP ?_;obtain ⟨rfl, rfl, rfl⟩ := gz H;exact And.intro rfl (Exists.intro _ (Exists.intro _ ⟨bp rfl (.nil _) (.nil _) (.refl _), aO [] rfl, rfl, rfl⟩))
   ·replace H := ba c42 H;refine aF <| af ?_;obtain ⟨g43, H⟩ := az H;obtain ⟨x44, e45, H⟩ := bb H;obtain ⟨x46, x47, x48, e49, H⟩ := kj H;refine ab ?_;show AR _ _ _ _ _ [0, 1, 2, 3, 4, 5, 6, 7, 8, 9, 10, 11] _;refine zm rfl <| zm rfl <| zm rfl <| zS rfl (dU ac rfl rfl rfl g43 e45) <| ap rfl rfl (aW rfl vv rfl (sy F x44 x46 x47 x48 e49) ?_);refine zS rfl (ag (av := .tup _) rfl) <| zS rfl (aI (av := .v _) rfl rfl) <| zS rfl (aI (av := slE _ _ _) rfl rfl) <| zS rfl (aI (av := .v _) rfl rfl) <| za rfl <| zS rfl (am (av := slE _ _ _) rfl) <| za rfl <| ai <| af <| af <| ab ?_;show AR _ _ _ _ _ [0, 1] _;refine zm rfl <| zS rfl (cx rfl) <| ai <| aD rfl (fun c50 => ?_) (fun c50 => ?_)
    ·replace H := aZ c50 H;refine af <| ab ?_;show AR _ _ _ _ _ [0, 1, 2] _;refine za rfl <| za rfl <| za rfl <| ai <| aP ?_;obtain ⟨rfl, rfl, rfl⟩ := gz H;exact And.intro rfl (Exists.intro _ (Exists.intro _ ⟨bp rfl (.nil _) (.nil _) (.refl _), aO [] rfl, rfl, rfl⟩))
    ·replace H := ba c50 H;refine aF <| af ?_;obtain ⟨g52, H⟩ := az H;obtain ⟨x53, e54, H⟩ := bb H;refine ab ?_;show AR _ _ _ _ _ [0, 1, 2, 3, 4] _;refine zS rfl (ag (av := slE _ _ _) rfl) <| zm rfl <| zR rfl (bh (E := Enc.str) (bytes := 16) (xs := [.tmp 74]) (l := ([x46] : List (List UInt8))) aA (by kernel_rfl) rfl rfl (by decide) rfl rfl) <| zX rfl (bA (E := Enc.str) (bytes := 16) 0 aA aA rfl (by kernel_rfl) rfl rfl rfl rfl g52 e54) ?_;rintro _ _ ⟨t51, rfl, rfl⟩;refine zS rfl (am (av := slE _ _ _) rfl) <| ai <| af ?_;obtain ⟨g56, H⟩ := az H;obtain ⟨x57, e58, H⟩ := bb H;refine ab ?_;show AR _ _ _ _ _ [0, 1, 2, 3, 4] _;refine zS rfl (ag (av := slE _ _ _) rfl) <| zS rfl (ag (av := slE _ _ _) rfl) <| zR rfl (bh (E := (Enc.sl Enc.byte)) (bytes := 24) (xs := [.tmp 78]) (l := ([x47] : List (List UInt8))) aC (by kernel_rfl) rfl rfl (by decide) rfl rfl) <| zX rfl (bA (E := (Enc.sl Enc.byte)) (bytes := 24) 1 aC aC rfl (by kernel_rfl) rfl rfl rfl rfl g56 e58) ?_;rintro _ _ ⟨t55, rfl, rfl⟩;refine zS rfl (am (av := slE _ _ _) rfl) <| ai <| ab ?_;show AR _ _ _ _ _ [0, 1] _;refine zm rfl <| za rfl <| ai ?_;exact Exists.intro (n27, x53, t51, x57, t55, x40) ⟨H, Nat.lt_succ_self _, aU [0, 0] (.cons (.refl _) (.cons (.refl _) (.cons (.refl _) (.cons (.refl _) (.cons (.refl _) (.cons (.refl _) (.cons (.refl _) (.nil _)))))))) rfl⟩
  ·replace H := ba c35 H;refine bz ?_;exact Exists.intro (y21, t22, y23, t24, y25) ⟨H, aU [0, 0] (.cons (.refl _) (.cons (.refl _) (.cons (.refl _) (.cons (.refl _) (.cons (.refl _) (.cons (.refl _) (.nil _))))))) rfl⟩
 rintro ⟨y59, t60, y61, t62, y63⟩ H;replace H : ek F a1 a3 x17 y59 y61 y63 = some (r4, r5, r6) := H
 unfold ek at H
 refine af ?_;obtain ⟨x65, x66, x67, e68, H⟩ := kj H;refine ab ?_;show AR _ _ _ _ _ [0, 1, 2, 3, 4, 5, 6, 7, 8, 9] _;refine zS rfl (ag (av := slE _ _ _) rfl) <| zS rfl (ag (av := slE _ _ _) rfl) <| ap rfl rfl (aW rfl vU rfl (rl F y59 (some t60) y61 (some t62) x65 x66 x67 e68) ?_);refine zS rfl (ag (av := .tup _) rfl) <| zS rfl (aI (av := slE _ _ _) rfl rfl) <| zS rfl (aI (av := .v _) rfl rfl) <| zS rfl (aI (av := .v _) rfl rfl) <| zS rfl (am (av := slE _ _ _) rfl) <| za rfl <| za rfl <| ai <| af <| af ?_;obtain ⟨g69, H⟩ := az H;obtain ⟨x70, e71, H⟩ := bb H;refine ab ?_;show AR _ _ _ _ _ [0, 1, 2, 3, 4, 5, 6, 7, 8, 9, 10, 11, 12, 13, 14, 15, 16, 17, 18, 19] _;refine zm rfl <| zm rfl <| zS rfl (kR ac rfl rfl g69 e71) <| zm rfl <| zS rfl (eb rfl rfl) <| zm rfl <| aQ (l := [9, 10, 11, 12, 13, 14, 15, 16, 17, 18, 19]) 97 (B ((!decide (x70 = x17)) || (!decide (x67 = 0)))) (fun K => ?_) ?_
 ·rcases ah (!decide (x70 = x17)) with h72 | h72
  ·refine zF h72 rfl <| zF h72 rfl <| zS rfl (ax (av := .v _) rfl h72 rfl) ?_;exact K _ 2 _ (an (dC h72)) rfl rfl
  ·refine zM h72 rfl <| zU h72 rfl (dv rfl rfl) <| zS rfl (ay (av := .v _) rfl h72 rfl) ?_;exact K _ 2 _ (an (dD h72)) rfl rfl
 refine zm rfl <| aQ (l := [14, 15, 16, 17, 18, 19]) 102 (B (((!decide (x70 = x17)) || (!decide (x67 = 0))) || (!decide (x66 = a3)))) (fun K => ?_) ?_
 ·rcases ah ((!decide (x70 = x17)) || (!decide (x67 = 0))) with h73 | h73
  ·refine zF h73 rfl <| zF h73 rfl <| zF h73 rfl <| zS rfl (ax (av := .v _) rfl h73 rfl) ?_;exact K _ 3 _ (an (dC h73)) rfl rfl
  ·refine zM h73 rfl <| zM h73 rfl <| zU h73 rfl (eb rfl rfl) <| zS rfl (ay (av := .v _) rfl h73 rfl) ?_;exact K _ 3 _ (an (dD h73)) rfl rfl
 refine zm rfl <| aQ (l := []) 108 (B ((((!decide (x70 = x17)) || (!decide (x67 = 0))) || (!decide (x66 = a3))) || (!decide (x65 = a1)))) (fun K => ?_) ?_
 ·rcases ah (((!decide (x70 = x17)) || (!decide (x67 = 0))) || (!decide (x66 = a3))) with h74 | h74
  ·refine zF h74 rfl <| zF h74 rfl <| zF h74 rfl <| zF h74 rfl <| zS rfl (ax (av := .v _) rfl h74 rfl) ?_;exact K _ 4 _ (an (dC h74)) rfl rfl
  ·refine zU h74 rfl (ag (av := slE _ _ _) rfl) <| zU h74 rfl (bn aa au ac rfl) <| zM h74 rfl <| zU h74 rfl (eb rfl rfl) <| zS rfl (ay (av := .v _) rfl h74 rfl) ?_;exact K _ 4 _ (an (dD h74)) rfl rfl
 refine ai <| aD rfl (fun c75 => ?_) (fun c75 => ?_)
 ·replace H := aZ c75 H;refine af <| ab ?_;show AR _ _ _ _ _ [0, 1, 2] _;refine za rfl <| za rfl <| za rfl <| ai <| aP ?_;obtain ⟨rfl, rfl, rfl⟩ := gz H;exact And.intro rfl (Exists.intro _ (Exists.intro _ ⟨bp rfl (.nil _) (.nil _) (.refl _), aO [] rfl, rfl, rfl⟩))
 ·replace H := ba c75 H;refine aF <| af <| ab ?_;show AR _ _ _ _ _ [0, 1, 2, 3, 4] _;refine zS rfl (ag (av := slE _ _ _) rfl) <| zS rfl (ag (av := slE _ _ _) rfl) <| zS rfl (am (av := slE _ _ _) rfl) <| zS rfl (am (av := slE _ _ _) rfl) <| za rfl <| ai <| aP ?_;obtain ⟨rfl, rfl, rfl⟩ := gz H;exact And.intro rfl (Exists.intro _ (Exists.intro _ ⟨bp rfl (.tok _ _ _) (.tok _ _ _) (.refl _), aO [] rfl, rfl, rfl⟩))
end Go.Proofs.YtdaafnaokdigbaaGreatDoor
namespace Go.Pv
def ej (F : Nat) (a1 : List UInt8) (a3 : List UInt8) : Option Bool :=
bnd (kf F) fun x5 =>
bif ((!x5) || (decide (2000 < (a1.length : Int)))) || (decide (100 < (a3.length : Int))) then
  some x5
else
  nV (jI F a1 a3) fun x10 x11 x12 =>
  nV (jV F a1 a3) fun x14 x15 x16 =>
  bnd (kO F x10 x11 x14 x15) fun x18 =>
  some (x18 && (decide (x12 = x16)))
end Go.Pv
namespace Go.Proofs.YtdaafnaokdigbaaGreatDoor
open Go.RowKit Go.Av Go.Pv
theorem oM : ∀ (args : Array Value) (w : World), (callFunc 8 args).run Tryz.prog w = .ok (.enter 8 args) w := fun _ _ => by kernel_rfl
theorem nS : ∀ (args : Array Value) (w : World), (callFunc 14 args).run Tryz.prog w = .ok (.enter 14 args) w := fun _ _ => by kernel_rfl
theorem nR : ∀ (args : Array Value) (w : World), (callFunc 15 args).run Tryz.prog w = .ok (.enter 15 args) w := fun _ _ => by kernel_rfl
theorem nQ : ∀ (args : Array Value) (w : World), (callFunc 16 args).run Tryz.prog w = .ok (.enter 16 args) w := fun _ _ => by kernel_rfl
set_option maxRecDepth 100000 in
set_option maxHeartbeats 1000000 in
theorem ni (F : Nat) (a1 : List UInt8) (q2 : Option Nat) (a3 : List UInt8) (r4 : Bool) (H : ej F a1 a3 = some r4) : ACalls Tryz.prog 4 [slE Enc.byte a1 q2, S a3] [] (Ret (B r4) []) := by
 unfold ej at H
 refine aw Tryz.func4 rfl rfl ?_;show AW _ _ 52 _ _ _;refine af <| ab ?_;show AR _ _ _ _ _ [0] _;refine za rfl <| ai <| af ?_;obtain ⟨x5, e6, H⟩ := cT H;refine ab ?_;show AR _ _ _ _ _ [0, 1] _;refine ap rfl rfl (aW rfl oM rfl (qt F x5 e6) ?_);refine za rfl <| ai <| af <| af <| ab ?_;show AR _ _ _ _ _ [0, 1, 2, 3, 4, 5, 6, 7, 8, 9, 10, 11] _;refine zm rfl <| zS rfl (cx rfl) <| zm rfl <| aQ (l := [7, 8, 9, 10, 11]) 20 (B ((!x5) || (decide (2000 < (a1.length : Int))))) (fun K => ?_) ?_
 ·rcases ah (!x5) with h7 | h7
  ·refine zF h7 rfl <| zF h7 rfl <| zF h7 rfl <| zS rfl (ax (av := .v _) rfl h7 rfl) ?_;exact K _ 3 _ (an (dC h7)) rfl rfl
  ·refine zU h7 rfl (ag (av := slE _ _ _) rfl) <| zU h7 rfl (aH aa rfl) <| zU h7 rfl (cN rfl rfl) <| zS rfl (ay (av := .v _) rfl h7 rfl) ?_;exact K _ 3 _ (an (dD h7)) rfl rfl
 refine zm rfl <| aQ (l := []) 25 (B (((!x5) || (decide (2000 < (a1.length : Int)))) || (decide (100 < (a3.length : Int))))) (fun K => ?_) ?_
 ·rcases ah ((!x5) || (decide (2000 < (a1.length : Int)))) with h8 | h8
  ·refine zF h8 rfl <| zF h8 rfl <| zF h8 rfl <| zS rfl (ax (av := .v _) rfl h8 rfl) ?_;exact K _ 3 _ (an (dC h8)) rfl rfl
  ·refine zM h8 rfl <| zU h8 rfl (aX ac rfl) <| zU h8 rfl (cN rfl rfl) <| zS rfl (ay (av := .v _) rfl h8 rfl) ?_;exact K _ 3 _ (an (dD h8)) rfl rfl
 refine ai <| aD rfl (fun c9 => ?_) (fun c9 => ?_)
 ·replace H := aZ c9 H;refine af <| ab ?_;show AR _ _ _ _ _ [0, 1] _;refine zm rfl <| za rfl <| ai <| aP ?_;obtain rfl := ak H;exact And.intro rfl (Exists.intro _ (Exists.intro _ ⟨aV rfl (.refl _), aO [] rfl, rfl, rfl⟩))
 ·replace H := ba c9 H;refine aF <| af ?_;obtain ⟨x10, x11, x12, e13, H⟩ := kj H;refine ab ?_;show AR _ _ _ _ _ [0, 1, 2, 3, 4, 5, 6, 7, 8, 9] _;refine zS rfl (ag (av := slE _ _ _) rfl) <| zm rfl <| ap rfl rfl (aW rfl nS rfl (nv F a1 q2 a3 x10 x11 x12 e13) ?_);refine zS rfl (ag (av := .tup _) rfl) <| zS rfl (aI (av := slE _ _ _) rfl rfl) <| zS rfl (aI (av := slE _ _ _) rfl rfl) <| zS rfl (aI (av := .v _) rfl rfl) <| zS rfl (am (av := slE _ _ _) rfl) <| zS rfl (am (av := slE _ _ _) rfl) <| za rfl <| ai <| af ?_;obtain ⟨x14, x15, x16, e17, H⟩ := kj H;refine ab ?_;show AR _ _ _ _ _ [0, 1, 2, 3, 4, 5, 6, 7, 8, 9] _;refine zS rfl (ag (av := slE _ _ _) rfl) <| zm rfl <| ap rfl rfl (aW rfl nR rfl (qj F a1 q2 a3 x14 x15 x16 e17) ?_);refine zS rfl (ag (av := .tup _) rfl) <| zS rfl (aI (av := slE _ _ _) rfl rfl) <| zS rfl (aI (av := slE _ _ _) rfl rfl) <| zS rfl (aI (av := .v _) rfl rfl) <| zS rfl (am (av := slE _ _ _) rfl) <| zS rfl (am (av := slE _ _ _) rfl) <| za rfl <| ai <| af ?_;obtain ⟨x18, e19, H⟩ := cT H;refine ab ?_;show AR _ _ _ _ _ [0, 1, 2, 3, 4, 5] _
  refine zS rfl (ag (av := slE _ _ _) rfl) <| zS rfl (ag (av := slE _ _ _) rfl) <| zS rfl (ag (av := slE _ _ _) rfl) <| zS rfl (ag (av := slE _ _ _) rfl) <| ap rfl rfl (aW rfl nQ rfl (rr F x10 none x11 none x14 none x15 none x18 e19) ?_);refine za rfl <| ai <| af <| ab ?_;show AR _ _ _ _ _ [0, 1, 2, 3, 4, 5, 6] _;refine zm rfl <| zm rfl <| aQ (l := [6]) 51 (B (x18 && (decide (x12 = x16)))) (fun K => ?_) ?_
  ·rcases ah x18 with h20 | h20
   ·refine zM h20 rfl <| zM h20 rfl <| zU h20 rfl (dm rfl rfl) <| zS rfl (ax (av := .v _) rfl h20 rfl) ?_;exact K _ 3 _ (an (cc h20)) rfl rfl
   ·refine zF h20 rfl <| zF h20 rfl <| zF h20 rfl <| zS rfl (ay (av := .v _) rfl h20 rfl) ?_;exact K _ 3 _ (an (cd h20)) rfl rfl
  refine za rfl <| ai <| aP ?_;obtain rfl := ak H;exact And.intro rfl (Exists.intro _ (Exists.intro _ ⟨aV rfl (.refl _), aO [] rfl, rfl, rfl⟩))
end Go.Proofs.YtdaafnaokdigbaaGreatDoor
namespace Go.Hd
open Go.Pv Go.Av
abbrev Bs := List UInt8
def sp (c : UInt8) : Bs → List Bs
  | [] => [[]]
  | b :: r => if b = c then [] :: sp c r else match sp c r with
    | [] => [[b]]
    | p :: ps => (b :: p) :: ps
theorem sp_ne (c : UInt8) (s : Bs) : sp c s ≠ [] := by
  cases s with
  | nil => simp [sp]
  | cons b r => unfold sp; split; simp; split <;> simp
theorem mA (b c : UInt8) (l : Bs) : Go.Lib.index (b :: l) [c] = if b = c then 0 else if Go.Lib.index l [c] = -1 then -1 else Go.Lib.index l [c] + 1 := by
  by_cases h : b = c
  · subst h; simp [Go.Lib.index]
  · simp [Go.Lib.index, h, Ne.symm h]
def lw (cur : Bs) : List Bs → List Bs
  | [] => [cur]
  | p :: ps => (cur ++ p) :: ps
theorem sp_cons_ne {b c : UInt8} (h : ¬ b = c) (r : Bs) : sp c (b :: r) = lw [b] (sp c r) := by
  simp only [sp, h, if_false]
  cases sp c r <;> rfl
theorem sp_cons_eq (c : UInt8) (r : Bs) : sp c (c :: r) = [] :: sp c r := by simp [sp]
theorem xp (a b : Bs) (l : List Bs) : lw a (lw b l) = lw (a ++ b) l := by cases l <;> simp [lw]
theorem tN {l : List Bs} (h : l ≠ []) : lw [] l = l := by cases l <;> simp_all [lw]
theorem qR (c : UInt8) : ∀ (s : Bs), Go.Lib.splitK [c] 0 (s.count c) s = sp c s
  | [] => rfl
  | b :: l => by
    have ih := qR c l
    have hi := mA b c l
    have hge := Go.Lib.index_ge l [c]
    by_cases h : b = c
    · subst h
      rw [List.count_cons_self, sp_cons_eq, Go.Lib.splitK, hi]
      simp [ih]
    · rw [List.count_cons_of_ne h, sp_cons_ne h, ← ih]
      cases hk : l.count c with
      | zero => simp [Go.Lib.splitK, lw]
      | succ k =>
        rw [Go.Lib.splitK, Go.Lib.splitK, hi]
        simp only [h, if_false]
        by_cases hm : Go.Lib.index l [c] = -1
        · simp [hm, lw]
        · obtain ⟨j, hj⟩ := Int.eq_ofNat_of_zero_le (show 0 ≤ Go.Lib.index l [c] by omega)
          have h2 : ¬ (Go.Lib.index l [c] + 1 = -1) := by omega
          have h3 : (Go.Lib.index l [c] + 1).toNat = j + 1 := by omega
          have h4 : (Go.Lib.index l [c]).toNat = j := by omega
          simp [hm, h2, h3, h4, lw]
theorem wW (s : Bs) (c : UInt8) : Go.Lib.split s [c] = sp c s := by
  unfold Go.Lib.split
  rw [Go.Lib.count_one, qR]
theorem qS (c : UInt8) (s : Bs) : (sp c s).length ≤ s.length + 1 := by
  induction s with
  | nil => simp [sp]
  | cons b r ih =>
    by_cases h : b = c
    · subst h; rw [sp_cons_eq]; simp; omega
    · rw [sp_cons_ne h]
      cases hs : sp c r with
      | nil => simp [lw]
      | cons p ps => rw [hs] at ih; simp [lw] at ih ⊢; omega
theorem tK (c : UInt8) (s : Bs) : Str.total (sp c s) + (sp c s).length = s.length + 1 := by
  induction s with
  | nil => simp [sp, Str.total]
  | cons b r ih =>
    by_cases h : b = c
    · subst h; rw [sp_cons_eq]; simp [Str.total]; omega
    · rw [sp_cons_ne h]
      cases hs : sp c r with
      | nil => exact absurd hs (sp_ne c r)
      | cons p ps => rw [hs] at ih; simp [lw, Str.total] at ih ⊢; omega
theorem uz (s : Bs) (c : UInt8) (hs : s.length ≤ 1000000) : ∀ (n : Nat) (l : List Bs) (f i : Nat), s.length + 1 - i < n → i ≤ s.length → f ≤ i → l.length ≤ i →
    cU s c n (l, (f : Int), (i : Int)) = some (l ++ lw ((s.take i).drop f) (sp c (s.drop i))) := by
  intro n
  induction n with
  | zero => intro l f i h; omega
  | succ n ih =>
    intro l f i hn hi hf hl;show dH s c (cU s c n) l (f : Int) (i : Int) = _
    unfold dH eu
    by_cases h : i < s.length
    · have hd : s.drop i = s[i] :: s.drop (i + 1) := ar h
      have hne : decide ((i : Int) = (s.length : Int)) = false := decide_eq_false (by omega)
      simp (disch := omega) only [bT, hne, Bool.not_false, lx, bJ, aM, bP h, Bool.false_or]
      rw [hd]
      by_cases hc : s[i] = c
      · simp (disch := (first | omega | (simp; omega))) only [hc, decide_true, cond_true, kz, lm, bc, bl, bg]
        rw [ih _ _ _ (by omega) (by omega) (by omega) (by simp; omega)]
        rw [aE (show (s.take (i + 1)).length ≤ i + 1 by simp; omega), tN (sp_ne _ _), sp_cons_eq]
        simp [lw]
      · simp (disch := (first | omega | (simp; omega))) only [hc, decide_false, cond_false, bl, bg]
        rw [ih _ _ _ (by omega) (by omega) (by omega) (by omega), sp_cons_ne hc, xp]
        rw [List.take_succ_eq_append_getElem h, List.drop_append_of_le_length (by simp; omega)]
    · have hi2 : i = s.length := by omega
      subst hi2
      have hyes : decide ((s.length : Int) = (s.length : Int)) = true := decide_eq_true rfl
      simp (disch := (first | omega | (simp; omega))) only [bT, hyes, Bool.not_true, dZ, aM, Bool.true_or, cond_true, kz, lm, bc, bl, bg, List.drop_length]
      obtain ⟨m, rfl⟩ : ∃ m, n = m + 1 := ⟨n - 1, by omega⟩;show dH s c (cU s c m) _ _ ((s.length + 1 : Nat) : Int) = _
      unfold dH fL
      have h1 : ¬ (((s.length + 1 : Nat) : Int) ≤ (s.length : Int)) := by omega
      rw [bF h1]
      simp [sp, lw]
theorem pj (F : Nat) (s : Bs) (c : UInt8) (hs : s.length ≤ 1000000) (hF : s.length + 1 < F) : kb F s c = some (sp c s) := by
  have := uz s c hs F [] 0 0 (by omega) (by omega) (by omega) (by simp)
  rw [show kb F s c = cU s c F ([], ((0 : Nat) : Int), ((0 : Nat) : Int)) from rfl, this]
  simp [tN (sp_ne _ _)]
end Go.Hd
namespace Go.Hd
open Go.Pv Go.Av
theorem cR (p : UInt8 → Bool) (h : ∀ k : Fin 256, p (UInt8.ofNat k.val) = true) (b : UInt8) : p b = true := by
  have := h ⟨b.toNat, b.toNat_lt⟩
  simpa using this
theorem jD (x : Int) (h0 : 0 ≤ x) (h1 : x < 18446744073709551616) : IntKind.u64.wrap x = x := by
  have : IntKind.u64.wrap x = x % 18446744073709551616 := rfl
  rw [this]; omega
theorem bvn (n : Nat) (h : n < 2 ^ 64) : (BitVec.ofInt 64 (n : Int)).toNat = n := by
  rw [BitVec.ofInt_natCast, BitVec.toNat_ofNat]; exact Nat.mod_eq_of_lt h
theorem sn (a b k : Nat) (ha : a * 2 ^ k < 2 ^ 64) (hb : b < 2 ^ k) (hk : b < 2 ^ 64) : (BitVec.ofInt IntKind.u64.bits ((a * 2 ^ k : Nat) : Int) ||| BitVec.ofInt IntKind.u64.bits (b : Int)).toNat = a * 2 ^ k + b := by
  show (BitVec.ofInt 64 ((a * 2 ^ k : Nat) : Int) ||| BitVec.ofInt 64 (b : Int)).toNat = _
  rw [BitVec.toNat_or, bvn _ ha, bvn _ hk, ← Nat.shiftLeft_eq, Nat.shiftLeft_add_eq_or_of_lt hb]
theorem and_63 (a : Nat) (ha : a < 2 ^ 64) : (BitVec.ofInt IntKind.u64.bits (a : Int) &&& BitVec.ofInt IntKind.u64.bits 63).toNat = a % 64 := by
  show (BitVec.ofInt 64 (a : Int) &&& BitVec.ofInt 64 ((63 : Nat) : Int)).toNat = _
  rw [BitVec.toNat_and, bvn _ ha, bvn _ (by decide)]
  exact Nat.and_two_pow_sub_one_eq_mod a 6
def q3 (a b c : Nat) : Nat := a * 65536 + b * 256 + c
def ch (n : Nat) : UInt8 := b64_k1.getD n default
theorem val3 (a b c : UInt8) : IntKind.u64.wrap ((BitVec.ofInt IntKind.u64.bits (IntKind.u64.wrap ((BitVec.ofInt IntKind.u64.bits (IntKind.u64.wrap ((IntKind.u64.wrap (a.toNat : Int)) * 2 ^ min (Int.toNat 16) IntKind.u64.bits)) ||| BitVec.ofInt IntKind.u64.bits (IntKind.u64.wrap ((IntKind.u64.wrap (b.toNat : Int)) * 2 ^ min (Int.toNat 8) IntKind.u64.bits))).toNat)) ||| BitVec.ofInt IntKind.u64.bits (IntKind.u64.wrap (c.toNat : Int))).toNat) = (q3 a.toNat b.toNat c.toNat : Int) := by
  have ha := a.toNat_lt
  have hb := b.toNat_lt
  have hc := c.toNat_lt
  have e16 : (2 : Int) ^ min (Int.toNat 16) IntKind.u64.bits = 65536 := by decide +kernel
  have e8 : (2 : Int) ^ min (Int.toNat 8) IntKind.u64.bits = 256 := by decide +kernel
  rw [e16, e8, jD a.toNat (by omega) (by omega), jD b.toNat (by omega) (by omega), jD c.toNat (by omega) (by omega)]
  rw [jD ((a.toNat : Int) * 65536) (by omega) (by omega), jD ((b.toNat : Int) * 256) (by omega) (by omega)]
  have e1 : (a.toNat : Int) * 65536 = ((a.toNat * 2 ^ 16 : Nat) : Int) := by omega
  have e2 : (b.toNat : Int) * 256 = ((b.toNat * 256 : Nat) : Int) := by omega
  rw [e1, e2, sn a.toNat (b.toNat * 256) 16 (by omega) (by omega) (by omega)]
  rw [jD ((a.toNat * 2 ^ 16 + b.toNat * 256 : Nat) : Int) (by omega) (by omega)]
  have e3 : a.toNat * 2 ^ 16 + b.toNat * 256 = (a.toNat * 256 + b.toNat) * 2 ^ 8 := by omega
  rw [e3, sn (a.toNat * 256 + b.toNat) c.toNat 8 (by omega) (by omega) (by omega)]
  rw [jD (((a.toNat * 256 + b.toNat) * 2 ^ 8 + c.toNat : Nat) : Int) (by omega) (by omega)]
  unfold q3; omega
theorem idx6 (s : Nat) (v : Nat) (hv : v < 16777216) (hs : s ≤ 18) : IntKind.u64.wrap ((BitVec.ofInt IntKind.u64.bits (Int.fdiv (v : Int) (2 ^ min s IntKind.u64.bits)) &&& BitVec.ofInt IntKind.u64.bits 63).toNat) = ((v / 2 ^ s % 64 : Nat) : Int) := by
  have e : min s IntKind.u64.bits = s := by show min s 64 = s; omega
  have e2 : Int.fdiv (v : Int) (2 ^ s) = ((v / 2 ^ s : Nat) : Int) := by
    have : ((2 : Int) ^ s) = ((2 ^ s : Nat) : Int) := by simp
    rw [this, Int.fdiv_eq_ediv_of_nonneg _ (Int.natCast_nonneg _)]; rfl
  have h1 : v / 2 ^ s ≤ v := Nat.div_le_self _ _
  rw [e, e2, and_63 _ (by omega), jD _ (by omega) (by omega)]
theorem wg : b64_k1.length = 64 := by decide +kernel
theorem rk_eq : headr_k1 = b64_k1 := by decide +kernel
theorem at_ch (n : Nat) : at_ b64_k1 (n : Int) = ch n := by
  unfold at_ ch; rw [Int.toNat_natCast]
def four (a b c : UInt8) : Bs := let v := q3 a.toNat b.toNat c.toNat; [ch (v / 262144), ch (v / 4096 % 64), ch (v / 64 % 64), ch (v % 64)]
def enc : Bs → Bs
  | a :: b :: c :: r => four a b c ++ enc r
  | [a, b] => (four a b 0).take 3 ++ [61]
  | [a] => (four a 0 0).take 2 ++ [61, 61]
  | [] => []
theorem pb : ∀ s : Bs, (enc s).length ≤ 2 * s.length + 2
  | a :: b :: c :: r => by
    have := pb r
    simp [enc, four]; omega
  | [a, b] => by simp [enc, four]
  | [a] => by simp [enc, four]
  | [] => by simp [enc]
theorem q3_lt (a b c : UInt8) : q3 a.toNat b.toNat c.toNat < 16777216 := by
  have ha := a.toNat_lt
  have hb := b.toNat_lt
  have hc := c.toNat_lt
  unfold q3; omega
theorem pT (F : Nat) (s : Bs) (a b c : UInt8) (hs : s.length ≤ 3) (h : cpyB [0, 0, 0] s = [a, b, c]) :
    jM F s = some (ch (q3 a.toNat b.toNat c.toNat / 262144), bif decide ((s.length : Int) < 1) then 61 else ch (q3 a.toNat b.toNat c.toNat / 4096 % 64), bif decide ((s.length : Int) < 2) then 61 else ch (q3 a.toNat b.toNat c.toNat / 64 % 64), bif decide ((s.length : Int) < 3) then 61 else ch (q3 a.toNat b.toNat c.toNat % 64)) := by
  have hq := q3_lt a b c
  unfold jM
  rw [ns hs, aM, h]
  have g0 : ([a, b, c].getD 0 0) = a := rfl
  have g1 : ([a, b, c].getD 1 0) = b := rfl
  have g2 : ([a, b, c].getD 2 0) = c := rfl
  unfold gq gr gt gu jw
  rw [g0, g1, g2, val3]
  have d16 : (decide ((0 : Int) ≤ 16)) = true := rfl
  have i18 := idx6 (Int.toNat 18) _ hq (by decide)
  have i12 := idx6 (Int.toNat 12) _ hq (by decide)
  have i6 := idx6 (Int.toNat 6) _ hq (by decide)
  have i0 := idx6 (Int.toNat 0) _ hq (by decide)
  rw [i18, i12, i6, i0]
  have k : ∀ n : Nat, bQ ((n % 64 : Nat) : Int) b64_k1.length = true := fun n => by rw [wg]; exact decide_eq_true (by omega)
  have e18 : q3 a.toNat b.toNat c.toNat / 2 ^ Int.toNat 18 % 64 = q3 a.toNat b.toNat c.toNat / 262144 := by
    show q3 a.toNat b.toNat c.toNat / 262144 % 64 = _; omega
  have e12 : q3 a.toNat b.toNat c.toNat / 2 ^ Int.toNat 12 % 64 = q3 a.toNat b.toNat c.toNat / 4096 % 64 := rfl
  have e6 : q3 a.toNat b.toNat c.toNat / 2 ^ Int.toNat 6 % 64 = q3 a.toNat b.toNat c.toNat / 64 % 64 := rfl
  have e0 : q3 a.toNat b.toNat c.toNat / 2 ^ Int.toNat 0 % 64 = q3 a.toNat b.toNat c.toNat % 64 := by
    show q3 a.toNat b.toNat c.toNat / 1 % 64 = _; omega
  have k2 : bQ ((q3 a.toNat b.toNat c.toNat / 262144 : Nat) : Int) b64_k1.length = true := by rw [wg]; exact decide_eq_true (by omega)
  simp (disch := first | omega | decide) only [ns, k, oT, aM, at_ch, e18, e12, e6, e0, k2]
  rw [bF (by omega)]
  by_cases h1 : (s.length : Int) < 1
  · simp (disch := omega) only [bT]
  · by_cases h2 : (s.length : Int) < 2
    · simp (disch := omega) only [bT, bF]
    · by_cases h3 : (s.length : Int) < 3
      · simp (disch := omega) only [bT, bF]
      · simp (disch := omega) only [bF]
theorem raw_loop (F : Nat) : ∀ (n : Nat) (s out : Bs), s.length < n → out.length + 4 * s.length + 10 ≤ 100000000 → jK F n (s, out) = some (out ++ enc s) := by
  intro n
  induction n with
  | zero => intro s out h; omega
  | succ n ih =>
    intro s out hn hl;show kS F (jK F n) s out = _
    unfold kS
    have key : ∀ (p r g : Bs) (a b c : UInt8) (x y z w : UInt8), s = p ++ r → (min 3 (s.length : Int)) = (p.length : Int) → 1 ≤ p.length → p.length ≤ 3 → cpyB [0, 0, 0] p = [a, b, c] →
        jM F p = some (x, y, z, w) → enc s = [x, y, z, w] ++ enc r →
        (bif decide (0 < (s.length : Int)) then grd (gA (min 3 (s.length : Int)) s.length) <| lt (to_ s (min 3 (s.length : Int))) fun x14 => bnd4 (jM F x14) fun x16 x17 x18 x19 => grd (okW out ([x16, x17, x18, x19] : List UInt8)) <| lt (out ++ ([x16, x17, x18, x19] : List UInt8)) fun x23 => grd (gA (min 3 (s.length : Int)) s.length) <| lt (jA s (min 3 (s.length : Int))) fun x27 => jK F n (x27, x23) else jJ out) = some (out ++ enc s) := by
      intro p r g a b c x y z w hs hm h1 h3 hc hg he
      have hlen : s.length = p.length + r.length := by rw [hs]; simp
      rw [bT (by omega), dI (by omega), aM, hm, kw]
      have e1 : s.take p.length = p := by rw [hs]; simp
      have e2 : s.drop p.length = r := by rw [hs]; simp
      rw [e1, hg]
      show grd (okW out [x, y, z, w]) _ = _
      rw [grd_W (by simp; omega), aM, dI (by omega), aM, eE, e2, ih _ _ (by omega) (by simp; omega), he]
      simp
    match s with
    | a :: b :: c :: r =>
      refine key [a, b, c] r [] a b c _ _ _ _ rfl (by simp; omega) (by simp) (by simp) rfl (pT F _ a b c (by simp) rfl) ?_
      rw [bF (by simp), bF (by simp), bF (by simp)]; rfl
    | [a, b] =>
      refine key [a, b] [] [] a b 0 _ _ _ _ rfl (by simp; try omega) (by simp) (by simp) rfl (pT F _ a b 0 (by simp) rfl) ?_
      rw [bF (by simp), bF (by simp), bT (by simp)]; rfl
    | [a] =>
      refine key [a] [] [] a 0 0 _ _ _ _ rfl (by simp; try omega) (by simp) (by simp) rfl (pT F _ a 0 0 (by simp) rfl) ?_
      rw [bF (by simp), bT (by simp), bT (by simp)]; rfl
    | [] =>
      rw [bF (by simp)]
      unfold jJ
      rw [grd_W (by simp at hl ⊢; omega)]; simp [enc]
theorem Raw_eq (F : Nat) (s : Bs) (hF : s.length < F) (hs : s.length ≤ 1000000) : nJ F s = some (enc s) := by
  have := raw_loop F F s [] hF (by simp; omega)
  rw [List.nil_append] at this
  exact this
theorem sj (n : Nat) : at_ headr_k1 (n : Int) = ch n := by rw [rk_eq]; exact at_ch n
theorem rk_len : headr_k1.length = 64 := by rw [rk_eq]; exact wg
theorem okc (n : Nat) (h : n < 64) : bQ (n : Int) headr_k1.length = true := by rw [rk_len]; exact decide_eq_true (by omega)
def gb (s : Bs) (i : Nat) : UInt8 := s.getD i 0
theorem j4_eq (s out : Bs) (i v : Nat) (rec8 : (Bs × Int) → Option Bs) (hs : s.length ≤ 1000000) (hi : i < s.length) (hv : v < 16777216) (ho : out.length ≤ 100000000) :
    gh s out (i : Int) rec8 (v : Int) = rec8 (out ++ [ch (v / 262144), ch (v / 4096 % 64), bif decide (i + 1 < s.length) then ch (v / 64 % 64) else 61, bif decide (i + 2 < s.length) then ch (v % 64) else 61], ((i + 3 : Nat) : Int)) := by
  unfold gh
  have a1 : ((v : Int) / 262144) = ((v / 262144 : Nat) : Int) := by omega
  have a2 : ((v : Int) / 4096 % 64) = ((v / 4096 % 64 : Nat) : Int) := by omega
  have a3 : ((v : Int) / 64 % 64) = ((v / 64 % 64 : Nat) : Int) := by omega
  have a4 : ((v : Int) % 64) = ((v % 64 : Nat) : Int) := by omega
  have a5 : ((i : Int) + 3) = ((i + 3 : Nat) : Int) := by omega
  have hq : ∀ n : Nat, bQ ((n % 64 : Nat) : Int) headr_k1.length = true := fun n => okc _ (by omega)
  rw [ec (by omega), a1, okc _ (by omega), oT, aM, sj, ec (by omega), ec (by omega), a2, hq, oT, aM, sj, bc (by simp; omega), aM, bl (by omega)]
  unfold gi gj
  by_cases h1 : i + 1 < s.length
  · rw [bT (show (i : Int) + 1 < s.length by omega), bT h1, ec (by omega), ec (by omega), a3, hq, oT, aM, sj, bc (by simp; omega), aM, bl (by omega)]
    by_cases h2 : i + 2 < s.length
    · rw [bT (show (i : Int) + 2 < s.length by omega), bT h2, ec (by omega), a4, hq, oT, aM, sj, bc (by simp; omega), aM, bl (by omega), a5]
      simp
    · rw [bF (show ¬ (i : Int) + 2 < s.length by omega), bF h2, bc (by simp; omega), aM, bl (by omega), a5]
      simp
  · rw [bF (show ¬ (i : Int) + 1 < s.length by omega), bF h1, bc (by simp; omega), aM, bl (by omega)]
    rw [bF (show ¬ (i : Int) + 2 < s.length by omega), bF (show ¬ i + 2 < s.length by omega), bc (by simp; omega), aM, bl (by omega), a5]
    simp
theorem rL1s (s out : Bs) (i : Int) (m : Nat) (rec8 : (Bs × Int) → Option Bs) (x : Int × Int) : cM s out i rec8 (m + 1) x = eL s out i rec8 (cM s out i rec8 m) x.1 x.2 := rfl
theorem sd (s out : Bs) (i j v m : Nat) (rec8 : (Bs × Int) → Option Bs) (hs : s.length ≤ 1000000) (hi : i < s.length) (hj : j < i + 3) (hv : v < 16777216) :
    cM s out (i : Int) rec8 (m + 1) ((v : Int), (j : Int)) = cM s out (i : Int) rec8 m (((256 * v + (gb s j).toNat : Nat) : Int), ((j + 1 : Nat) : Int)) := by
  show eL s out (i : Int) rec8 (cM s out (i : Int) rec8 m) (v : Int) (j : Int) = _
  unfold eL gg
  rw [bl (by omega), bT (by omega), bl (by omega)]
  by_cases h : j < s.length
  · have h8 := s[j].toNat_lt
    rw [bT (by omega), bJ (by omega), aM, bP h, bl (by omega), bl (by omega)]
    have : gb s j = s[j] := by simp [gb, h]
    rw [this]; rfl
  · rw [bF (by omega), bl (by omega)]
    have : gb s j = 0 := by simp [gb, List.getD, List.getElem?_eq_none (show s.length ≤ j by omega)]
    rw [this]; rfl
theorem in_three (s out : Bs) (i m : Nat) (rec8 : (Bs × Int) → Option Bs) (hs : s.length ≤ 1000000) (hi : i < s.length) :
    cM s out (i : Int) rec8 (m + 3) (((0 : Nat) : Int), (i : Int)) = cM s out (i : Int) rec8 m (((q3 (gb s i).toNat (gb s (i + 1)).toNat (gb s (i + 2)).toNat : Nat) : Int), ((i + 3 : Nat) : Int)) := by
  have h0 := (gb s i).toNat_lt
  have h1 := (gb s (i + 1)).toNat_lt
  have h2 := (gb s (i + 2)).toNat_lt
  refine (sd s out i i 0 (m + 2) rec8 hs hi (by omega) (by omega)).trans <| (sd s out i (i + 1) (256 * 0 + (gb s i).toNat) (m + 1) rec8 hs hi (by omega) (by omega)).trans <| (sd s out i (i + 2) (256 * (256 * 0 + (gb s i).toNat) + (gb s (i + 1)).toNat) m rec8 hs hi (by omega) (by omega)).trans ?_
  have e : 256 * (256 * (256 * 0 + (gb s i).toNat) + (gb s (i + 1)).toNat) + (gb s (i + 2)).toNat = q3 (gb s i).toNat (gb s (i + 1)).toNat (gb s (i + 2)).toNat := by unfold q3; omega
  rw [e]
theorem enc_drop (s : Bs) (i : Nat) (h : i < s.length) : enc (s.drop i) = [ch (q3 (gb s i).toNat (gb s (i + 1)).toNat (gb s (i + 2)).toNat / 262144), ch (q3 (gb s i).toNat (gb s (i + 1)).toNat (gb s (i + 2)).toNat / 4096 % 64), bif decide (i + 1 < s.length) then ch (q3 (gb s i).toNat (gb s (i + 1)).toNat (gb s (i + 2)).toNat / 64 % 64) else 61, bif decide (i + 2 < s.length) then ch (q3 (gb s i).toNat (gb s (i + 1)).toNat (gb s (i + 2)).toNat % 64) else 61] ++ enc (s.drop (i + 3)) := by
  have g : ∀ k, gb s (i + k) = (s.drop i).getD k 0 := by intro k; simp [gb, List.getD]
  have g0 := g 0
  have g1 := g 1
  have g2 := g 2
  have hl : (s.drop i).length = s.length - i := by simp
  have hd : s.drop (i + 3) = (s.drop i).drop 3 := by simp
  rw [Nat.add_zero] at g0
  rw [g0, g1, g2, hd]
  match hm : s.drop i with
  | a :: b :: c :: r => rw [hm] at hl; simp at hl; rw [bT (by omega), bT (by omega)]; rfl
  | [a, b] => rw [hm] at hl; simp at hl; rw [bT (by omega), bF (by omega)]; rfl
  | [a] => rw [hm] at hl; simp at hl; rw [bF (by omega), bF (by omega)]; rfl
  | [] => rw [hm] at hl; simp at hl; omega
theorem xa (F : Nat) (hF : 4 ≤ F) (s : Bs) (hs : s.length ≤ 1000000) : ∀ (n i : Nat) (out : Bs), s.length - i < n → i ≤ s.length + 3 → out.length ≤ 4 * i → cf F s n (out, (i : Int)) = some (out ++ enc (s.drop i)) := by
  intro n
  induction n with
  | zero => intro i out h; omega
  | succ n ih =>
    intro i out hn hi ho;show jd F s (cf F s n) out (i : Int) = _
    unfold jd
    by_cases h : i < s.length
    · obtain ⟨m, rfl⟩ : ∃ m, F = m + 4 := ⟨F - 4, by omega⟩
      have hq := q3_lt (gb s i) (gb s (i + 1)) (gb s (i + 2))
      rw [bT (by omega)]
      have h3 := in_three s out i (m + 1) (cf (m + 4) s n) hs h
      refine h3.trans ?_
      rw [rL1s]
      unfold eL
      rw [bl (by omega), bF (by omega), j4_eq s out i _ _ hs h (by omega) (by omega), ih _ _ (by omega) (by omega) (by simp; omega), enc_drop s i h, List.append_assoc]
    · have hd : s.drop i = [] := aE (by omega)
      rw [bF (by omega), hd]
      unfold jc; simp [enc]
theorem wx (F : Nat) (s : Bs) (hF : s.length + 4 < F) (hs : s.length ≤ 1000000) : lD F s = some (enc s) := by
  have := xa F (by omega) s hs F 0 [] (by omega) (by omega) (by simp)
  rw [List.nil_append, List.drop_zero] at this
  exact this
end Go.Hd
