/-
  Texts in one (only what XmlNested needs): XmlBW, XmlLP, XmlLW, LXmlNestedP, LXmlNestedW, XmA, RefEP, PnTrim, PnPlainE, PnLoose, PnNum, PnSign, PnGone, PnLooseEq, PnLooseB, PnApp, XmP, XmQ, XmS, XmT, XmL, XmN, XmNe.
-/
import Derived.Test.YteokdkimegepoaaGreatDoorZXmlNested3
import Derived.Test.YteokdkimegepoaaGreatDoorShelf
import Derived.Lib.ItoaNum
import Derived.Lib.IndexLaws
import Derived.Test.YteokdkimegepoaaGreatDoorChecked
import Derived.Lib.IndexMore
import Derived.Laws.RangeAny
set_option linter.unusedVariables false
set_option linter.unusedSimpArgs false
namespace Go.Proofs.YteokdkimegepoaaGreatDoor
open Go.RowKit Go.Av Go.Pv
theorem sA : ∀ (args : Array Value) (w : World), (callFunc 25 args).run Tryz.prog w = .ok (.enter 25 args) w := fun _ _ => by kernel_rfl
theorem sz : ∀ (args : Array Value) (w : World), (callFunc 26 args).run Tryz.prog w = .ok (.enter 26 args) w := fun _ _ => by kernel_rfl
theorem sy : ∀ (args : Array Value) (w : World), (callFunc 27 args).run Tryz.prog w = .ok (.enter 27 args) w := fun _ _ => by kernel_rfl
theorem su : ∀ (args : Array Value) (w : World), (callFunc 36 args).run Tryz.prog w = .ok (.enter 36 args) w := fun _ _ => by kernel_rfl
theorem sq : ∀ (args : Array Value) (w : World), (callFunc 63 args).run Tryz.prog w = .ok (.enter 63 args) w := fun _ _ => by kernel_rfl
set_option maxRecDepth 100000 in
set_option maxHeartbeats 1000000 in
theorem qI (F : Nat) (a1 : List ((List UInt8) × List UInt8)) (q2 : Option Nat) (a3 : List ((List UInt8) × List UInt8)) (q4 : Option Nat) (r5 : Bool) (H : nd F a1 a3 = some r5) : ACalls Tryz.prog 27 [slE (ab Enc.str Enc.str) a1 q2, slE (ab Enc.str Enc.str) a3 q4] [] (Ret (B r5) []) := by
 unfold nd at H
 refine aw Tryz.func27 rfl rfl ?_;show AW _ _ 26 _ _ _;refine ac <| aa ?_;show AR _ _ _ _ _ [0] _;refine za rfl <| ai <| ac <| ac <| aa ?_;show AR _ _ _ _ _ [0, 1, 2, 3, 4] _;refine zS rfl (ag (av := slE _ _ _) rfl) <| zS rfl (aO aM rfl) <| zS rfl (ag (av := slE _ _ _) rfl) <| zS rfl (aO aM rfl) <| zS rfl (gm rfl rfl) <| ai <| ax rfl (fun c6 => ?_) (fun c6 => ?_)
 ·replace H := aW c6 H;refine ac <| aa ?_;show AR _ _ _ _ _ [0] _;refine za rfl <| ai <| aI ?_;obtain rfl := al H;exact And.intro rfl (Exists.intro _ (Exists.intro _ ⟨aC rfl (.refl _), aH [] rfl, rfl, rfl⟩))
 ·replace H := aX c6 H;refine aB <| bR (X := Unit) (fun _ => ⟨[], [], []⟩) (fun _ => hP = some r5) ?_ ?_
  ·refine ac <| aa ?_;show AR _ _ _ _ _ [0, 1, 2] _;refine zS rfl (ag (av := slE _ _ _) rfl) <| zS rfl (aO aM rfl) <| zm rfl <| ai <| aP <| cW (X := Nat × Int) (fun (n9, y7) => ⟨[(0, slE (ab Enc.str Enc.str) a1 q2), (1, slE (ab Enc.str Enc.str) a3 q4), (12, i64 (a1.length : Int)), (13, i64 y7)], [], []⟩) (fun (n9, y7) => jD a1 a3 n9 y7 = some r5) (fun (n9, y7) => n9) (F, 0) H (be [] (.cons (.refl _) (.cons (.refl _) (.cons (.refl _) (.cons (.refl _) (.nil _))))) rfl) ?_;rintro ⟨n9, y7⟩ H;obtain ⟨n9, rfl, H⟩ := eu H;replace H : jE a1 a3 (jD a1 a3 n9) y7 = some r5 := H
   unfold jE at H
   refine ac <| aa ?_;show AR _ _ _ _ _ [0] _;refine zS rfl (bZ rfl rfl) <| ai <| ac <| ax rfl (fun c10 => ?_) (fun c10 => ?_)
   ·replace H := aW c10 H;refine aB <| ac <| aP <| ac <| aa ?_;show AR _ _ _ _ _ [0, 1] _;refine zm rfl <| za rfl <| ai <| ac ?_;obtain ⟨g11, H⟩ := aV H;obtain ⟨x12, e13, H⟩ := bK H;obtain ⟨g14, H⟩ := aV H;obtain ⟨x15, e16, H⟩ := bK H;refine bE (by kernel_rfl) ?_;show AI _ _ _ _ _ 9 (Array.replicate 9 false) _;refine zk 0 rfl (ag (av := slE _ _ _) rfl) ?_;show AI _ _ _ _ _ _ #[true, false, false, false, false, false, false, false, false] _;refine zk 1 rfl (mv rfl) ?_;show AI _ _ _ _ _ _ #[true, true, false, false, false, false, false, false, false] _;refine zk 2 rfl (bw (E := (ab Enc.str Enc.str)) aM (by kernel_rfl) rfl rfl g11 e13) ?_;show AI _ _ _ _ _ _ #[true, true, true, false, false, false, false, false, false] _;refine zk 3 rfl (ca bV rfl (n := 2) (by kernel_rfl) rfl (af rfl)) ?_;show AI _ _ _ _ _ _ #[true, true, true, true, false, false, false, false, false] _;refine zk 4 rfl (ag (av := slE _ _ _) rfl) ?_;show AI _ _ _ _ _ _ #[true, true, true, true, true, false, false, false, false] _;refine zk 5 rfl (mv rfl) ?_;show AI _ _ _ _ _ _ #[true, true, true, true, true, true, false, false, false] _;refine zk 6 rfl (bw (E := (ab Enc.str Enc.str)) aM (by kernel_rfl) rfl rfl g14 e16) ?_;show AI _ _ _ _ _ _ #[true, true, true, true, true, true, true, false, false] _;refine zk 7 rfl (ca bV rfl (n := 2) (by kernel_rfl) rfl (af rfl)) ?_
    show AI _ _ _ _ _ _ #[true, true, true, true, true, true, true, true, false] _;refine zk 8 rfl (km (r := (decide (x12.1 = x15.1)) && (decide (x12.2 = x15.2))) (.inr rfl) bV (by kernel_rfl) (by kernel_rfl) (by kernel_rfl) rfl rfl rfl (by simp only [List.all_cons, List.all_nil, id, ry, Bool.and_true])) ?_;show AI _ _ _ _ _ _ #[true, true, true, true, true, true, true, true, true] _;refine co rfl <| ax rfl (fun c17 => ?_) (fun c17 => ?_)
    ·replace H := aW c17 H;refine ac <| aa ?_;show AR _ _ _ _ _ [0] _;refine za rfl <| ai <| aI ?_;obtain rfl := al H;exact And.intro rfl (Exists.intro _ (Exists.intro _ ⟨aC rfl (.refl _), aH [] rfl, rfl, rfl⟩))
    ·replace H := aX c17 H;refine aB ?_;obtain ⟨g18, H⟩ := aV H;refine aa ?_;show AR _ _ _ _ _ [0, 1] _;refine zS rfl (eI rfl rfl g18) <| zm rfl <| ai ?_;exact Exists.intro (n9, y7 + 1) ⟨H, Nat.lt_succ_self _, be [] (.cons (.refl _) (.cons (.refl _) (.cons (.refl _) (.cons (.refl _) (.nil _))))) rfl⟩
   ·replace H := aX c10 H;refine cA ?_;exact Exists.intro () ⟨H, be [] (.nil _) rfl⟩
  rintro _ H;replace H : hP = some r5 := H
  unfold hP at H
  refine ac <| aa ?_;show AR _ _ _ _ _ [0] _;refine za rfl <| ai <| aI ?_;obtain rfl := al H;exact And.intro rfl (Exists.intro _ (Exists.intro _ ⟨aC rfl (.refl _), aH [] rfl, rfl, rfl⟩))
set_option maxRecDepth 100000 in
set_option maxHeartbeats 1000000 in
theorem qG (F : Nat) (a1 : Int) (a2 : List UInt8) (a3 : List UInt8) (a4 : List ((List UInt8) × List UInt8)) (a5 : Int) (a6 : List UInt8) (a7 : List UInt8) (a8 : List ((List UInt8) × List UInt8)) (r9 : Bool) (H : nb F a1 a2 a3 a4 a5 a6 a7 a8 = some r9) : ACalls Tryz.prog 26 [.agg [i64 a1, S a2, S a3, slE (ab Enc.str Enc.str) a4 none], .agg [i64 a5, S a6, S a7, slE (ab Enc.str Enc.str) a8 none]] [] (Ret (B r9) []) := by
 unfold nb at H
 refine aw Tryz.func26 rfl rfl ?_;show AW _ _ 31 _ _ _;refine ac <| aa ?_;show AR _ _ _ _ _ [0, 1, 2] _;refine zR rfl (lx rfl (.inr ⟨_, rfl⟩)) <| zR rfl (lx rfl (.inr ⟨_, rfl⟩)) <| za rfl <| ai <| ac ?_;obtain ⟨x13, e14, H⟩ := eL H;refine aa ?_;show AR _ _ _ _ _ [0, 1, 2, 3, 4, 5, 6, 7, 8, 9, 10, 11, 12, 13, 14, 15, 16, 17, 18, 19, 20, 21, 22, 23, 24, 25, 26] _;refine zS rfl (aN (n := 0) (by kernel_rfl) rfl (af rfl)) <| zS rfl (aL bD rfl rfl) <| zS rfl (aN (n := 0) (by kernel_rfl) rfl (af rfl)) <| zS rfl (aL bD rfl rfl) <| zS rfl (bH rfl rfl) <| zm rfl <| aY (l := [12, 13, 14, 15, 16, 17, 18, 19, 20, 21, 22, 23, 24, 25, 26]) 16 (B ((decide (a1 = a5)) && (decide (a2 = a6)))) (fun K => ?_) ?_
 ·rcases ak (decide (a1 = a5)) with h10 | h10
  ·refine zU h10 rfl (aN (n := 1) (by kernel_rfl) rfl (af rfl)) <| zU h10 rfl (aL ah rfl rfl) <| zU h10 rfl (aN (n := 1) (by kernel_rfl) rfl (af rfl)) <| zU h10 rfl (aL ah rfl rfl) <| zU h10 rfl (eo rfl rfl) <| zS rfl (aE (av := .v _) rfl h10 rfl) ?_;exact K _ 5 _ (ay (cx h10)) rfl rfl
  ·refine zF h10 rfl <| zF h10 rfl <| zF h10 rfl <| zF h10 rfl <| zF h10 rfl <| zS rfl (aF (av := .v _) rfl h10 rfl) ?_;exact K _ 5 _ (ay (cy h10)) rfl rfl
 refine zm rfl <| aY (l := [19, 20, 21, 22, 23, 24, 25, 26]) 23 (B (((decide (a1 = a5)) && (decide (a2 = a6))) && (decide (a3 = a7)))) (fun K => ?_) ?_
 ·rcases ak ((decide (a1 = a5)) && (decide (a2 = a6))) with h11 | h11
  ·refine zU h11 rfl (aN (n := 2) (by kernel_rfl) rfl (af rfl)) <| zU h11 rfl (aL ah rfl rfl) <| zU h11 rfl (aN (n := 2) (by kernel_rfl) rfl (af rfl)) <| zU h11 rfl (aL ah rfl rfl) <| zU h11 rfl (eo rfl rfl) <| zS rfl (aE (av := .v _) rfl h11 rfl) ?_;exact K _ 5 _ (ay (cx h11)) rfl rfl
  ·refine zF h11 rfl <| zF h11 rfl <| zF h11 rfl <| zF h11 rfl <| zF h11 rfl <| zS rfl (aF (av := .v _) rfl h11 rfl) ?_;exact K _ 5 _ (ay (cy h11)) rfl rfl
 refine zm rfl <| aY (l := [26]) 30 (B ((((decide (a1 = a5)) && (decide (a2 = a6))) && (decide (a3 = a7))) && x13)) (fun K => ?_) ?_
 ·rcases ak (((decide (a1 = a5)) && (decide (a2 = a6))) && (decide (a3 = a7))) with h12 | h12
  ·refine zU h12 rfl (aN (n := 3) (by kernel_rfl) rfl (af rfl)) <| zU h12 rfl (aL aM rfl rfl) <| zU h12 rfl (aN (n := 3) (by kernel_rfl) rfl (af rfl)) <| zU h12 rfl (aL aM rfl rfl) <| zT h12 rfl (aG rfl sy rfl (qI F a4 none a8 none x13 (e14 h12)) ?_);refine zS rfl (aE (av := .v _) rfl h12 rfl) ?_;exact K _ 5 _ (ay (cx h12)) rfl rfl
  ·refine zF h12 rfl <| zF h12 rfl <| zF h12 rfl <| zF h12 rfl <| zF h12 rfl <| zS rfl (aF (av := .v _) rfl h12 rfl) ?_;exact K _ 5 _ (ay (cy h12)) rfl rfl
 refine za rfl <| ai <| aI ?_;obtain rfl := al H;exact And.intro rfl (Exists.intro _ (Exists.intro _ ⟨aC rfl (.refl _), aH [] rfl, rfl, rfl⟩))
set_option maxRecDepth 100000 in
set_option maxHeartbeats 1000000 in
theorem mF (F : Nat) (a1 : List (Int × (List UInt8) × (List UInt8) × List ((List UInt8) × List UInt8))) (q2 : Option Nat) (a3 : List (Int × (List UInt8) × (List UInt8) × List ((List UInt8) × List UInt8))) (q4 : Option Nat) (r5 : Bool) (H : iW F a1 a3 = some r5) : ACalls Tryz.prog 25 [slE (ab Enc.int (ab Enc.str (ab Enc.str (Enc.sl (ab Enc.str Enc.str))))) a1 q2, slE (ab Enc.int (ab Enc.str (ab Enc.str (Enc.sl (ab Enc.str Enc.str))))) a3 q4, .v (.func (.func 26) #[] #[])] [] (Ret (B r5) []) := by
 unfold iW at H
 refine aw Tryz.func25 rfl rfl ?_;show AW _ _ 32 _ _ _;refine ac <| aa ?_;show AR _ _ _ _ _ [0] _;refine za rfl <| ai <| ac <| ac <| aa ?_;show AR _ _ _ _ _ [0, 1, 2, 3, 4] _;refine zS rfl (ag (av := slE _ _ _) rfl) <| zS rfl (aO au rfl) <| zS rfl (ag (av := slE _ _ _) rfl) <| zS rfl (aO au rfl) <| zS rfl (gm rfl rfl) <| ai <| ax rfl (fun c6 => ?_) (fun c6 => ?_)
 ·replace H := aW c6 H;refine ac <| aa ?_;show AR _ _ _ _ _ [0] _;refine za rfl <| ai <| aI ?_;obtain rfl := al H;exact And.intro rfl (Exists.intro _ (Exists.intro _ ⟨aC rfl (.refl _), aH [] rfl, rfl, rfl⟩))
 ·replace H := aX c6 H;refine aB <| bR (X := Unit) (fun _ => ⟨[], [], []⟩) (fun _ => eX = some r5) ?_ ?_
  ·refine ac <| aa ?_;show AR _ _ _ _ _ [0, 1, 2] _;refine zS rfl (ag (av := slE _ _ _) rfl) <| zS rfl (aO au rfl) <| zm rfl <| ai <| aP <| cW (X := Nat × Int) (fun (n9, y7) => ⟨[(1, slE (ab Enc.int (ab Enc.str (ab Enc.str (Enc.sl (ab Enc.str Enc.str))))) a3 q4), (2, .v (.func (.func 26) #[] #[])), (15, slE (ab Enc.int (ab Enc.str (ab Enc.str (Enc.sl (ab Enc.str Enc.str))))) a1 q2), (16, i64 (a1.length : Int)), (17, i64 y7)], [], []⟩) (fun (n9, y7) => gt F a1 a3 n9 y7 = some r5) (fun (n9, y7) => n9) (F, 0) H (be [] (.cons (.refl _) (.cons (.refl _) (.cons (.refl _) (.cons (.refl _) (.cons (.refl _) (.nil _)))))) rfl) ?_;rintro ⟨n9, y7⟩ H;obtain ⟨n9, rfl, H⟩ := eu H;replace H : gu F a1 a3 (gt F a1 a3 n9) y7 = some r5 := H
   unfold gu at H
   refine ac <| aa ?_;show AR _ _ _ _ _ [0] _;refine zS rfl (bZ rfl rfl) <| ai <| ac <| ax rfl (fun c10 => ?_) (fun c10 => ?_)
   ·replace H := aW c10 H;refine aB <| ac <| aP <| ac ?_;obtain ⟨g11, H⟩ := aV H;obtain ⟨x12, e13, H⟩ := bK H;refine aa ?_;show AR _ _ _ _ _ [0, 1, 2, 3, 4, 5] _;refine zm rfl <| zS rfl (bw (E := (ab Enc.int (ab Enc.str (ab Enc.str (Enc.sl (ab Enc.str Enc.str)))))) au (by kernel_rfl) rfl rfl g11 e13) <| zS rfl (ca cP rfl (n := 4) (by kernel_rfl) rfl (af rfl)) <| zX rfl (dK (zs := [.int .i64 0, .string ⟨#[]⟩, .string ⟨#[]⟩, .slice none 0 0]) (by kernel_rfl)) ?_;rintro _ _ ⟨o14, rfl, rfl⟩;refine za rfl <| s0 rfl rfl (cI (i := 0) (vs := [i64 x12.1, S x12.2.1, S x12.2.2.1, slE (ab Enc.str Enc.str) x12.2.2.2 none]) (by kernel_rfl) rfl rfl (by simp [cd, slE]) rfl (af rfl)) <| AR.freezeCp 8 0 rfl rfl ?_;show AR _ _ _ _ _ _ ⟨_, _, []⟩;refine ai <| ac ?_;obtain ⟨g15, H⟩ := aV H;obtain ⟨x16, e17, H⟩ := bK H;refine aa ?_;show AR _ _ _ _ _ [0, 1, 2, 3, 4, 5] _;refine zS rfl (ag (av := slE _ _ _) rfl) <| zm rfl <| zS rfl (bw (E := (ab Enc.int (ab Enc.str (ab Enc.str (Enc.sl (ab Enc.str Enc.str)))))) au (by kernel_rfl) rfl rfl g15 e17) <| zS rfl (ca cP rfl (n := 4) (by kernel_rfl) rfl (af rfl)) <| zX rfl (dK (zs := [.int .i64 0, .string ⟨#[]⟩, .string ⟨#[]⟩, .slice none 0 0]) (by kernel_rfl)) ?_;rintro _ _ ⟨o18, rfl, rfl⟩
    refine s0 rfl rfl (cI (i := 0) (vs := [i64 x16.1, S x16.2.1, S x16.2.2.1, slE (ab Enc.str Enc.str) x16.2.2.2 none]) (by kernel_rfl) rfl rfl (by simp [cd, slE]) rfl (af rfl)) <| AR.freezeCp 9 0 rfl rfl ?_;show AR _ _ _ _ _ _ ⟨_, _, []⟩;refine ai <| ac ?_;obtain ⟨x19, e20, H⟩ := ew H;refine aa ?_;show AR _ _ _ _ _ [0, 1, 2, 3, 4] _;refine zm rfl <| zS rfl (ca cP rfl (n := 4) (by kernel_rfl) rfl (af rfl)) <| zS rfl (ca cP rfl (n := 4) (by kernel_rfl) rfl (af rfl)) <| am rfl rfl (AO.callFp rfl (.inr ⟨rfl, rfl, rfl⟩) sz rfl (qG F x12.1 x12.2.1 x12.2.2.1 x12.2.2.2 x16.1 x16.2.1 x16.2.2.1 x16.2.2.2 x19 e20) ?_);refine zS rfl (ci rfl) <| ai <| ax rfl (fun c21 => ?_) (fun c21 => ?_)
    ·replace H := aW c21 H;refine ac <| aa ?_;show AR _ _ _ _ _ [0] _;refine za rfl <| ai <| aI ?_;obtain rfl := al H;exact And.intro rfl (Exists.intro _ (Exists.intro _ ⟨aC rfl (.refl _), aH [] rfl, rfl, rfl⟩))
    ·replace H := aX c21 H;refine aB ?_;obtain ⟨g22, H⟩ := aV H;refine aa ?_;show AR _ _ _ _ _ [0, 1] _;refine zS rfl (eI rfl rfl g22) <| zm rfl <| ai ?_;exact Exists.intro (n9, y7 + 1) ⟨H, Nat.lt_succ_self _, be [] (.cons (.refl _) (.cons (.refl _) (.cons (.refl _) (.cons (.refl _) (.cons (.refl _) (.nil _)))))) rfl⟩
   ·replace H := aX c10 H;refine cA ?_;exact Exists.intro () ⟨H, be [] (.nil _) rfl⟩
  rintro _ H;replace H : eX = some r5 := H
  unfold eX at H
  refine ac <| aa ?_;show AR _ _ _ _ _ [0] _;refine za rfl <| ai <| aI ?_;obtain rfl := al H;exact And.intro rfl (Exists.intro _ (Exists.intro _ ⟨aC rfl (.refl _), aH [] rfl, rfl, rfl⟩))
set_option maxRecDepth 100000 in
set_option maxHeartbeats 1000000 in
theorem rR (F : Nat) (a1 : List (Int × (List UInt8) × (List UInt8) × List ((List UInt8) × List UInt8))) (q2 : Option Nat) (a3 : List (Int × (List UInt8) × (List UInt8) × List ((List UInt8) × List UInt8))) (q4 : Option Nat) (r5 : Bool) (H : pn F a1 a3 = some r5) : ACalls Tryz.prog 13 [slE (ab Enc.int (ab Enc.str (ab Enc.str (Enc.sl (ab Enc.str Enc.str))))) a1 q2, slE (ab Enc.int (ab Enc.str (ab Enc.str (Enc.sl (ab Enc.str Enc.str))))) a3 q4] [] (Ret (B r5) []) := by
 unfold pn at H
 refine aw Tryz.func13 rfl rfl ?_;show AW _ _ 8 _ _ _;refine ac <| aa ?_;show AR _ _ _ _ _ [0] _;refine za rfl <| ai <| ac ?_;obtain ⟨x6, e7, H⟩ := ew H;refine aa ?_;show AR _ _ _ _ _ [0, 1, 2, 3] _;refine zS rfl (ag (av := slE _ _ _) rfl) <| zS rfl (ag (av := slE _ _ _) rfl) <| am rfl rfl (aG rfl sA rfl (mF F a1 q2 a3 q4 x6 e7) ?_);refine za rfl <| ai <| aI ?_;obtain rfl := al H;exact And.intro rfl (Exists.intro _ (Exists.intro _ ⟨aC rfl (.refl _), aH [] rfl, rfl, rfl⟩))
set_option maxRecDepth 100000 in
set_option maxHeartbeats 1000000 in
theorem oW (F : Nat) (a1 : List UInt8) (a2 : UInt8) (r3 : Int) (H : kx F a1 a2 = some r3) : ACalls Tryz.prog 63 [S a1, u8 a2] [] (Ret (i64 r3) []) := by
 unfold kx at H
 refine aw Tryz.func63 rfl rfl ?_;show AW _ _ 19 _ _ _;refine ac <| aa ?_;show AR _ _ _ _ _ [0] _;refine za rfl <| ai <| bR (X := Unit) (fun _ => ⟨[], [], []⟩) (fun _ => ga = some r3) ?_ ?_
 ·refine ac ?_;obtain ⟨g4, H⟩ := aV H;refine aa ?_;show AR _ _ _ _ _ [0, 1, 2, 3] _;refine zm rfl <| zS rfl (bu ah rfl) <| zS rfl (nq rfl rfl g4) <| za rfl <| ai <| aP <| cW (X := Nat × Int) (fun (n7, y5) => ⟨[(0, S a1), (1, u8 a2), (5, i64 y5)], [], []⟩) (fun (n7, y5) => ig a1 a2 n7 y5 = some r3) (fun (n7, y5) => n7) (F, (a1.length : Int) - 1) H (be [] (.cons (.refl _) (.cons (.refl _) (.cons (.refl _) (.nil _)))) rfl) ?_;rintro ⟨n7, y5⟩ H;obtain ⟨n7, rfl, H⟩ := eu H;replace H : ii a1 a2 (ig a1 a2 n7) y5 = some r3 := H
  unfold ii at H
  refine ac <| ac <| aa ?_;show AR _ _ _ _ _ [0, 1] _;refine zm rfl <| zS rfl (er rfl rfl) <| ai <| ax rfl (fun c8 => ?_) (fun c8 => ?_)
  ·replace H := aW c8 H;refine aB <| ac <| aP <| ac ?_;obtain ⟨g9, H⟩ := aV H;obtain ⟨x10, e11, H⟩ := bK H;refine aa ?_;show AR _ _ _ _ _ [0, 1, 2, 3, 4] _;refine zm rfl <| zm rfl <| zS rfl (bm ah rfl rfl g9 e11) <| zm rfl <| zS rfl (gY (a := x10) (b := a2) rfl rfl) <| ai <| ax rfl (fun c12 => ?_) (fun c12 => ?_)
   ·replace H := aW c12 H;refine ac <| aa ?_;show AR _ _ _ _ _ [0, 1] _;refine zm rfl <| za rfl <| ai <| aI ?_;obtain rfl := al H;exact And.intro rfl (Exists.intro _ (Exists.intro _ ⟨aC rfl (.refl _), aH [] rfl, rfl, rfl⟩))
   ·replace H := aX c12 H;refine aB ?_;obtain ⟨g13, H⟩ := aV H;refine aa ?_;show AR _ _ _ _ _ [0, 1, 2] _;refine zm rfl <| zS rfl (nq rfl rfl g13) <| za rfl <| ai ?_;exact Exists.intro (n7, y5 - 1) ⟨H, Nat.lt_succ_self _, be [] (.cons (.refl _) (.cons (.refl _) (.cons (.refl _) (.nil _)))) rfl⟩
  ·replace H := aX c8 H;refine cA ?_;exact Exists.intro () ⟨H, be [] (.nil _) rfl⟩
 rintro _ H;replace H : ga = some r3 := H
 unfold ga at H
 refine ac <| aa ?_;show AR _ _ _ _ _ [0] _;refine za rfl <| ai <| aI ?_;obtain rfl := al H;exact And.intro rfl (Exists.intro _ (Exists.intro _ ⟨aC rfl (.refl _), aH [] rfl, rfl, rfl⟩))
set_option maxRecDepth 100000 in
set_option maxHeartbeats 1000000 in
theorem ko (F : Nat) (a1 : List UInt8) (a2 : UInt8) (r3 : Int) (H : fP F a1 a2 = some r3) : ACalls Tryz.prog 36 [S a1, u8 a2] [] (Ret (i64 r3) []) := by
 unfold fP at H
 refine aw Tryz.func36 rfl rfl ?_;show AW _ _ 8 _ _ _;refine ac <| aa ?_;show AR _ _ _ _ _ [0] _;refine za rfl <| ai <| ac ?_;obtain ⟨x4, e5, H⟩ := ew H;refine aa ?_;show AR _ _ _ _ _ [0, 1, 2, 3] _;refine zm rfl <| zm rfl <| am rfl rfl (aG rfl sq rfl (oW F a1 a2 x4 e5) ?_);refine za rfl <| ai <| aI ?_;obtain rfl := al H;exact And.intro rfl (Exists.intro _ (Exists.intro _ ⟨aC rfl (.refl _), aH [] rfl, rfl, rfl⟩))
set_option maxRecDepth 100000 in
set_option maxHeartbeats 1000000 in
theorem qH (F : Nat) (a1 : List UInt8) (r2 : List UInt8) (H : nc F a1 = some r2) : ACalls Tryz.prog 19 [S a1] [] (Ret (S r2) []) := by
 unfold nc at H
 refine aw Tryz.func19 rfl rfl ?_;show AW _ _ 8 _ _ _;refine ac <| aa ?_;show AR _ _ _ _ _ [0] _;refine za rfl <| ai <| ac ?_;obtain ⟨x3, e4, H⟩ := ew H;obtain ⟨g5, H⟩ := aV H;obtain ⟨g6, H⟩ := aV H;obtain ⟨x7, e8, H⟩ := bK H;refine aa ?_;show AR _ _ _ _ _ [0, 1, 2, 3, 4, 5] _;refine zm rfl <| zm rfl <| am rfl rfl (aG rfl su rfl (ko F a1 58 x3 e4) ?_);refine zS rfl (eI rfl rfl g5) <| zS rfl (dE ah rfl rfl g6 e8) <| za rfl <| ai <| aI ?_;obtain rfl := al H;exact And.intro rfl (Exists.intro _ (Exists.intro _ ⟨aC rfl (.refl _), aH [] rfl, rfl, rfl⟩))
end Go.Proofs.YteokdkimegepoaaGreatDoor
namespace Go.Pv
def gc : Option Bool :=
some true
def gb (y7 : Int) (rec8 : Int → Option Bool) : Option Bool :=
grd (okI (y7 + 1)) <|
rec8 (y7 + 1)
def io (a1 : List (Int × (List UInt8) × (List UInt8) × List ((List UInt8) × List UInt8))) (a3 : List (Int × (List UInt8) × (List UInt8) × List ((List UInt8) × List UInt8))) (y7 : Int) (rec8 : Int → Option Bool) (rec40 : Int → Option Bool) (y39 : Int) : Option Bool :=
grd (cD y7 a1.length) <|
lt (at_ a1 y7) fun x43 =>
bif decide (y39 < (x43.2.2.2.length : Int)) then
  grd (cD y7 a1.length) <|
  lt (at_ a1 y7) fun x47 =>
  grd (cD y39 x47.2.2.2.length) <|
  lt (at_ x47.2.2.2 y39) fun x50 =>
  grd (cD y7 a3.length) <|
  lt (at_ a3 y7) fun x53 =>
  grd (cD y39 x53.2.2.2.length) <|
  lt (at_ x53.2.2.2 y39) fun x56 =>
  bif !((decide (x50.1 = x56.1)) && (decide (x50.2 = x56.2))) then
    some false
  else
    grd (okI (y39 + 1)) <|
    rec40 (y39 + 1)
else
  gb y7 rec8
def ik (a1 : List (Int × (List UInt8) × (List UInt8) × List ((List UInt8) × List UInt8))) (a3 : List (Int × (List UInt8) × (List UInt8) × List ((List UInt8) × List UInt8))) (y7 : Int) (rec8 : Int → Option Bool) (n : Nat) : Int → Option Bool :=
  loop (fun rec x => io a1 a3 y7 rec8 rec x) n
def im (F : Nat) (a1 : List (Int × (List UInt8) × (List UInt8) × List ((List UInt8) × List UInt8))) (a3 : List (Int × (List UInt8) × (List UInt8) × List ((List UInt8) × List UInt8))) (rec8 : Int → Option Bool) (y7 : Int) : Option Bool :=
bif decide (y7 < (a1.length : Int)) then
  grd (cD y7 a1.length) <|
  lt (at_ a1 y7) fun x12 =>
  grd (cD y7 a3.length) <|
  lt (at_ a3 y7) fun x15 =>
  ee (!(!decide (x12.1 = x15.1))) (cD y7 a1.length) <|
  lt (at_ a1 y7) fun x19 =>
  ee (!(!decide (x12.1 = x15.1))) (cD y7 a3.length) <|
  lt (at_ a3 y7) fun x22 =>
  ee (!((!decide (x12.1 = x15.1)) || (!decide (x19.2.1 = x22.2.1)))) (cD y7 a1.length) <|
  lt (at_ a1 y7) fun x26 =>
  ee (!((!decide (x12.1 = x15.1)) || (!decide (x19.2.1 = x22.2.1)))) (cD y7 a3.length) <|
  lt (at_ a3 y7) fun x29 =>
  ee (!(((!decide (x12.1 = x15.1)) || (!decide (x19.2.1 = x22.2.1))) || (!decide (x26.2.2.1 = x29.2.2.1)))) (cD y7 a1.length) <|
  lt (at_ a1 y7) fun x33 =>
  ee (!(((!decide (x12.1 = x15.1)) || (!decide (x19.2.1 = x22.2.1))) || (!decide (x26.2.2.1 = x29.2.2.1)))) (cD y7 a3.length) <|
  lt (at_ a3 y7) fun x36 =>
  bif (((!decide (x12.1 = x15.1)) || (!decide (x19.2.1 = x22.2.1))) || (!decide (x26.2.2.1 = x29.2.2.1))) || (!decide ((x33.2.2.2.length : Int) = (x36.2.2.2.length : Int))) then
    some false
  else
    ik a1 a3 y7 rec8 F 0
else
  gc
def cX (F : Nat) (a1 : List (Int × (List UInt8) × (List UInt8) × List ((List UInt8) × List UInt8))) (a3 : List (Int × (List UInt8) × (List UInt8) × List ((List UInt8) × List UInt8))) (n : Nat) : Int → Option Bool :=
  loop (fun rec x => im F a1 a3 rec x) n
def kA (F : Nat) (a1 : List (Int × (List UInt8) × (List UInt8) × List ((List UInt8) × List UInt8))) (a3 : List (Int × (List UInt8) × (List UInt8) × List ((List UInt8) × List UInt8))) : Option Bool :=
bif !decide ((a1.length : Int) = (a3.length : Int)) then
  some false
else
  cX F a1 a3 F 0
def hZ (F : Nat) : Option Bool :=
gD (gM F ([60, 97, 32, 98, 61, 34, 49, 34, 62, 120, 38, 97, 109, 112, 59, 60] ++ [99, 47, 62, 60, 47, 97, 62] : List UInt8)) fun x3 x4 =>
bnd (kA F x3 ([(0, ([97] : List UInt8), ([] : List UInt8), ([(([98] : List UInt8), ([49] : List UInt8))] : List ((List UInt8) × List UInt8))), (2, ([] : List UInt8), ([120, 38] : List UInt8), ([] : List ((List UInt8) × List UInt8))), (0, ([99] : List UInt8), ([] : List UInt8), ([] : List ((List UInt8) × List UInt8))), (1, ([99] : List UInt8), ([] : List UInt8), ([] : List ((List UInt8) × List UInt8))), (1, ([97] : List UInt8), ([] : List UInt8), ([] : List ((List UInt8) × List UInt8)))] : List (Int × (List UInt8) × (List UInt8) × List ((List UInt8) × List UInt8)))) fun x6 =>
iV ((decide (x4 = 0)) && x6) (jU F ([97, 58, 98] : List UInt8)) fun x10 =>
iV (((decide (x4 = 0)) && x6) && x10) (nc F ([97, 58, 98] : List UInt8)) fun x13 =>
iV ((((decide (x4 = 0)) && x6) && x10) && (decide (x13 = ([98] : List UInt8)))) (pn F x3 ([(0, ([97] : List UInt8), ([] : List UInt8), ([(([98] : List UInt8), ([49] : List UInt8))] : List ((List UInt8) × List UInt8))), (2, ([] : List UInt8), ([120, 38] : List UInt8), ([] : List ((List UInt8) × List UInt8))), (0, ([99] : List UInt8), ([] : List UInt8), ([] : List ((List UInt8) × List UInt8))), (1, ([99] : List UInt8), ([] : List UInt8), ([] : List ((List UInt8) × List UInt8))), (1, ([97] : List UInt8), ([] : List UInt8), ([] : List ((List UInt8) × List UInt8)))] : List (Int × (List UInt8) × (List UInt8) × List ((List UInt8) × List UInt8)))) fun x16 =>
some (((((decide (x4 = 0)) && x6) && x10) && (decide (x13 = ([98] : List UInt8)))) && x16)
end Go.Pv
namespace Go.Proofs.YteokdkimegepoaaGreatDoor
open Go.RowKit Go.Av Go.Pv
theorem sM : ∀ (args : Array Value) (w : World), (callFunc 10 args).run Tryz.prog w = .ok (.enter 10 args) w := fun _ _ => by kernel_rfl
theorem sK : ∀ (args : Array Value) (w : World), (callFunc 12 args).run Tryz.prog w = .ok (.enter 12 args) w := fun _ _ => by kernel_rfl
theorem sI : ∀ (args : Array Value) (w : World), (callFunc 13 args).run Tryz.prog w = .ok (.enter 13 args) w := fun _ _ => by kernel_rfl
theorem sC : ∀ (args : Array Value) (w : World), (callFunc 18 args).run Tryz.prog w = .ok (.enter 18 args) w := fun _ _ => by kernel_rfl
theorem sB : ∀ (args : Array Value) (w : World), (callFunc 19 args).run Tryz.prog w = .ok (.enter 19 args) w := fun _ _ => by kernel_rfl
set_option maxRecDepth 100000 in
set_option maxHeartbeats 1000000 in
theorem oX (F : Nat) (a1 : List (Int × (List UInt8) × (List UInt8) × List ((List UInt8) × List UInt8))) (q2 : Option Nat) (a3 : List (Int × (List UInt8) × (List UInt8) × List ((List UInt8) × List UInt8))) (q4 : Option Nat) (r5 : Bool) (H : kA F a1 a3 = some r5) : ACalls Tryz.prog 12 [slE (ab Enc.int (ab Enc.str (ab Enc.str (Enc.sl (ab Enc.str Enc.str))))) a1 q2, slE (ab Enc.int (ab Enc.str (ab Enc.str (Enc.sl (ab Enc.str Enc.str))))) a3 q4] [] (Ret (B r5) []) := by
 unfold kA at H
 refine aw Tryz.func12 rfl rfl ?_;show AW _ _ 97 _ _ _;refine ac <| aa ?_;show AR _ _ _ _ _ [0] _;refine za rfl <| ai <| ac <| ac <| aa ?_;show AR _ _ _ _ _ [0, 1, 2, 3, 4] _;refine zS rfl (ag (av := slE _ _ _) rfl) <| zS rfl (aO au rfl) <| zS rfl (ag (av := slE _ _ _) rfl) <| zS rfl (aO au rfl) <| zS rfl (gm rfl rfl) <| ai <| ax rfl (fun c6 => ?_) (fun c6 => ?_)
 ·replace H := aW c6 H;refine ac <| aa ?_;show AR _ _ _ _ _ [0] _;refine za rfl <| ai <| aI ?_;obtain rfl := al H;exact And.intro rfl (Exists.intro _ (Exists.intro _ ⟨aC rfl (.refl _), aH [] rfl, rfl, rfl⟩))
 ·replace H := aX c6 H;refine aB <| bR (X := Unit) (fun _ => ⟨[], [], []⟩) (fun _ => gc = some r5) ?_ ?_
  ·refine ac <| aa ?_;show AR _ _ _ _ _ [0] _;refine za rfl <| ai <| aP <| cW (X := Nat × Int) (fun (n9, y7) => ⟨[(0, slE (ab Enc.int (ab Enc.str (ab Enc.str (Enc.sl (ab Enc.str Enc.str))))) a1 q2), (1, slE (ab Enc.int (ab Enc.str (ab Enc.str (Enc.sl (ab Enc.str Enc.str))))) a3 q4), (5, i64 y7)], [], []⟩) (fun (n9, y7) => cX F a1 a3 n9 y7 = some r5) (fun (n9, y7) => n9) (F, 0) H (be [] (.cons (.refl _) (.cons (.refl _) (.cons (.refl _) (.nil _)))) rfl) ?_;rintro ⟨n9, y7⟩ H;obtain ⟨n9, rfl, H⟩ := eu H;replace H : im F a1 a3 (cX F a1 a3 n9) y7 = some r5 := H
   unfold im at H
   refine ac <| ac <| aa ?_;show AR _ _ _ _ _ [0, 1, 2, 3] _;refine zm rfl <| zS rfl (ag (av := slE _ _ _) rfl) <| zS rfl (aO au rfl) <| zS rfl (bZ rfl rfl) <| ai <| ax rfl (fun c10 => ?_) (fun c10 => ?_)
   ·replace H := aW c10 H;refine aB <| bR (X := Unit) (fun _ => ⟨[(0, slE (ab Enc.int (ab Enc.str (ab Enc.str (Enc.sl (ab Enc.str Enc.str))))) a1 q2), (1, slE (ab Enc.int (ab Enc.str (ab Enc.str (Enc.sl (ab Enc.str Enc.str))))) a3 q4), (5, i64 y7)], [], []⟩) (fun _ => gb y7 (cX F a1 a3 n9) = some r5) ?_ ?_
    ·refine aP <| ac <| ac ?_;obtain ⟨g11, H⟩ := aV H;obtain ⟨x12, e13, H⟩ := bK H;obtain ⟨g14, H⟩ := aV H;obtain ⟨x15, e16, H⟩ := bK H;obtain ⟨g18, H⟩ := cr H;obtain ⟨x19, e20, H⟩ := bK H;obtain ⟨g21, H⟩ := cr H;obtain ⟨x22, e23, H⟩ := bK H;obtain ⟨g25, H⟩ := cr H;obtain ⟨x26, e27, H⟩ := bK H;obtain ⟨g28, H⟩ := cr H;obtain ⟨x29, e30, H⟩ := bK H;obtain ⟨g32, H⟩ := cr H;obtain ⟨x33, e34, H⟩ := bK H;obtain ⟨g35, H⟩ := cr H;obtain ⟨x36, e37, H⟩ := bK H;refine bE (by kernel_rfl) ?_;show AI _ _ _ _ _ 52 (Array.replicate 52 false) _;refine zk 0 rfl (ag (av := slE _ _ _) rfl) ?_;show AI _ _ _ _ _ _ #[true, false, false, false, false, false, false, false, false, false, false, false, false, false, false, false, false, false, false, false, false, false, false, false, false, false, false, false, false, false, false, false, false, false, false, false, false, false, false, false, false, false, false, false, false, false, false, false, false, false, false, false] _;refine zk 1 rfl (mv rfl) ?_;show AI _ _ _ _ _ _ #[true, true, false, false, false, false, false, false, false, false, false, false, false, false, false, false, false, false, false, false, false, false, false, false, false, false, false, false, false, false, false, false, false, false, false, false, false, false, false, false, false, false, false, false, false, false, false, false, false, false, false, false] _
     refine zk 2 rfl (bw (E := (ab Enc.int (ab Enc.str (ab Enc.str (Enc.sl (ab Enc.str Enc.str)))))) au (by kernel_rfl) rfl rfl g11 e13) ?_;show AI _ _ _ _ _ _ #[true, true, true, false, false, false, false, false, false, false, false, false, false, false, false, false, false, false, false, false, false, false, false, false, false, false, false, false, false, false, false, false, false, false, false, false, false, false, false, false, false, false, false, false, false, false, false, false, false, false, false, false] _;refine zk 3 rfl (aN (n := 0) (by kernel_rfl) rfl (af rfl)) ?_;show AI _ _ _ _ _ _ #[true, true, true, true, false, false, false, false, false, false, false, false, false, false, false, false, false, false, false, false, false, false, false, false, false, false, false, false, false, false, false, false, false, false, false, false, false, false, false, false, false, false, false, false, false, false, false, false, false, false, false, false] _;refine zk 4 rfl (aL bD rfl rfl) ?_;show AI _ _ _ _ _ _ #[true, true, true, true, true, false, false, false, false, false, false, false, false, false, false, false, false, false, false, false, false, false, false, false, false, false, false, false, false, false, false, false, false, false, false, false, false, false, false, false, false, false, false, false, false, false, false, false, false, false, false, false] _;refine zk 5 rfl (ag (av := slE _ _ _) rfl) ?_
     show AI _ _ _ _ _ _ #[true, true, true, true, true, true, false, false, false, false, false, false, false, false, false, false, false, false, false, false, false, false, false, false, false, false, false, false, false, false, false, false, false, false, false, false, false, false, false, false, false, false, false, false, false, false, false, false, false, false, false, false] _;refine zk 6 rfl (mv rfl) ?_;show AI _ _ _ _ _ _ #[true, true, true, true, true, true, true, false, false, false, false, false, false, false, false, false, false, false, false, false, false, false, false, false, false, false, false, false, false, false, false, false, false, false, false, false, false, false, false, false, false, false, false, false, false, false, false, false, false, false, false, false] _;refine zk 7 rfl (bw (E := (ab Enc.int (ab Enc.str (ab Enc.str (Enc.sl (ab Enc.str Enc.str)))))) au (by kernel_rfl) rfl rfl g14 e16) ?_;show AI _ _ _ _ _ _ #[true, true, true, true, true, true, true, true, false, false, false, false, false, false, false, false, false, false, false, false, false, false, false, false, false, false, false, false, false, false, false, false, false, false, false, false, false, false, false, false, false, false, false, false, false, false, false, false, false, false, false, false] _;refine zk 8 rfl (aN (n := 0) (by kernel_rfl) rfl (af rfl)) ?_
     show AI _ _ _ _ _ _ #[true, true, true, true, true, true, true, true, true, false, false, false, false, false, false, false, false, false, false, false, false, false, false, false, false, false, false, false, false, false, false, false, false, false, false, false, false, false, false, false, false, false, false, false, false, false, false, false, false, false, false, false] _;refine zk 9 rfl (aL bD rfl rfl) ?_;show AI _ _ _ _ _ _ #[true, true, true, true, true, true, true, true, true, true, false, false, false, false, false, false, false, false, false, false, false, false, false, false, false, false, false, false, false, false, false, false, false, false, false, false, false, false, false, false, false, false, false, false, false, false, false, false, false, false, false, false] _;refine zk 10 rfl (gm rfl rfl) ?_;show AI _ _ _ _ _ _ #[true, true, true, true, true, true, true, true, true, true, true, false, false, false, false, false, false, false, false, false, false, false, false, false, false, false, false, false, false, false, false, false, false, false, false, false, false, false, false, false, false, false, false, false, false, false, false, false, false, false, false, false] _;refine zk 11 rfl (mv rfl) ?_
     show AI _ _ _ _ _ _ #[true, true, true, true, true, true, true, true, true, true, true, true, false, false, false, false, false, false, false, false, false, false, false, false, false, false, false, false, false, false, false, false, false, false, false, false, false, false, false, false, false, false, false, false, false, false, false, false, false, false, false, false] _;refine AI.meet 28 #[true, true, true, true, true, true, true, true, true, true, true, true, true, true, true, true, true, true, true, true, true, true, true, true, false, false, false, false, false, false, false, false, false, false, false, false, false, false, false, false, false, false, false, false, false, false, false, false, false, false, false, false] 41 (B ((!decide (x12.1 = x15.1)) || (!decide (x19.2.1 = x22.2.1)))) (fun K23 => ?_) ?_
     ·refine jP (t := 29) rfl (fun h17 => ?_) (fun h17 => ?_)
      ·refine bg (i := 12) rfl rfl (by kernel_rfl) (by kernel_rfl) (by kernel_rfl) rfl rfl rfl (fun _ _ h => h) h17 ?_;show AI _ _ _ _ _ _ #[true, true, true, true, true, true, true, true, true, true, true, true, true, false, false, false, false, false, false, false, false, false, false, false, false, false, false, false, false, false, false, false, false, false, false, false, false, false, false, false, false, false, false, false, false, false, false, false, false, false, false, false] _;refine bg (i := 13) rfl rfl (by kernel_rfl) (by kernel_rfl) (by kernel_rfl) rfl rfl rfl (fun _ _ h => h) h17 ?_;show AI _ _ _ _ _ _ #[true, true, true, true, true, true, true, true, true, true, true, true, true, true, false, false, false, false, false, false, false, false, false, false, false, false, false, false, false, false, false, false, false, false, false, false, false, false, false, false, false, false, false, false, false, false, false, false, false, false, false, false] _;refine bg (i := 14) rfl rfl (by kernel_rfl) (by kernel_rfl) (by kernel_rfl) rfl rfl rfl (fun _ _ h => h) h17 ?_;show AI _ _ _ _ _ _ #[true, true, true, true, true, true, true, true, true, true, true, true, true, true, true, false, false, false, false, false, false, false, false, false, false, false, false, false, false, false, false, false, false, false, false, false, false, false, false, false, false, false, false, false, false, false, false, false, false, false, false, false] _;refine bg (i := 15) rfl rfl (by kernel_rfl) (by kernel_rfl) (by kernel_rfl) rfl rfl rfl (fun _ _ h => h) h17 ?_
       show AI _ _ _ _ _ _ #[true, true, true, true, true, true, true, true, true, true, true, true, true, true, true, true, false, false, false, false, false, false, false, false, false, false, false, false, false, false, false, false, false, false, false, false, false, false, false, false, false, false, false, false, false, false, false, false, false, false, false, false] _;refine bg (i := 16) rfl rfl (by kernel_rfl) (by kernel_rfl) (by kernel_rfl) rfl rfl rfl (fun _ _ h => h) h17 ?_;show AI _ _ _ _ _ _ #[true, true, true, true, true, true, true, true, true, true, true, true, true, true, true, true, true, false, false, false, false, false, false, false, false, false, false, false, false, false, false, false, false, false, false, false, false, false, false, false, false, false, false, false, false, false, false, false, false, false, false, false] _;refine bg (i := 17) rfl rfl (by kernel_rfl) (by kernel_rfl) (by kernel_rfl) rfl rfl rfl (fun _ _ h => h) h17 ?_;show AI _ _ _ _ _ _ #[true, true, true, true, true, true, true, true, true, true, true, true, true, true, true, true, true, true, false, false, false, false, false, false, false, false, false, false, false, false, false, false, false, false, false, false, false, false, false, false, false, false, false, false, false, false, false, false, false, false, false, false] _;refine bg (i := 18) rfl rfl (by kernel_rfl) (by kernel_rfl) (by kernel_rfl) rfl rfl rfl (fun _ _ h => h) h17 ?_
       show AI _ _ _ _ _ _ #[true, true, true, true, true, true, true, true, true, true, true, true, true, true, true, true, true, true, true, false, false, false, false, false, false, false, false, false, false, false, false, false, false, false, false, false, false, false, false, false, false, false, false, false, false, false, false, false, false, false, false, false] _;refine bg (i := 19) rfl rfl (by kernel_rfl) (by kernel_rfl) (by kernel_rfl) rfl rfl rfl (fun _ _ h => h) h17 ?_;show AI _ _ _ _ _ _ #[true, true, true, true, true, true, true, true, true, true, true, true, true, true, true, true, true, true, true, true, false, false, false, false, false, false, false, false, false, false, false, false, false, false, false, false, false, false, false, false, false, false, false, false, false, false, false, false, false, false, false, false] _;refine bg (i := 20) rfl rfl (by kernel_rfl) (by kernel_rfl) (by kernel_rfl) rfl rfl rfl (fun _ _ h => h) h17 ?_;show AI _ _ _ _ _ _ #[true, true, true, true, true, true, true, true, true, true, true, true, true, true, true, true, true, true, true, true, true, false, false, false, false, false, false, false, false, false, false, false, false, false, false, false, false, false, false, false, false, false, false, false, false, false, false, false, false, false, false, false] _;refine bg (i := 21) rfl rfl (by kernel_rfl) (by kernel_rfl) (by kernel_rfl) rfl rfl rfl (fun _ _ h => h) h17 ?_
       show AI _ _ _ _ _ _ #[true, true, true, true, true, true, true, true, true, true, true, true, true, true, true, true, true, true, true, true, true, true, false, false, false, false, false, false, false, false, false, false, false, false, false, false, false, false, false, false, false, false, false, false, false, false, false, false, false, false, false, false] _;refine bg (i := 22) rfl rfl (by kernel_rfl) (by kernel_rfl) (by kernel_rfl) rfl rfl rfl (fun _ _ h => h) h17 ?_;show AI _ _ _ _ _ _ #[true, true, true, true, true, true, true, true, true, true, true, true, true, true, true, true, true, true, true, true, true, true, true, false, false, false, false, false, false, false, false, false, false, false, false, false, false, false, false, false, false, false, false, false, false, false, false, false, false, false, false, false] _;refine zk 23 rfl (cU (av' := B ((!decide (x12.1 = x15.1)) || (!decide (x19.2.1 = x22.2.1)))) (aE (av := .v _) rfl h17 rfl) (ay (jw h17))) ?_;show AI _ _ _ _ _ _ #[true, true, true, true, true, true, true, true, true, true, true, true, true, true, true, true, true, true, true, true, true, true, true, true, false, false, false, false, false, false, false, false, false, false, false, false, false, false, false, false, false, false, false, false, false, false, false, false, false, false, false, false] _;exact K23 _ 11 rfl rfl
      ·refine bf (i := 12) rfl rfl (by kernel_rfl) (by kernel_rfl) (by kernel_rfl) rfl rfl rfl (fun _ _ h => h) h17 (ag (av := slE _ _ _) rfl) ?_;show AI _ _ _ _ _ _ #[true, true, true, true, true, true, true, true, true, true, true, true, true, false, false, false, false, false, false, false, false, false, false, false, false, false, false, false, false, false, false, false, false, false, false, false, false, false, false, false, false, false, false, false, false, false, false, false, false, false, false, false] _;refine bf (i := 13) rfl rfl (by kernel_rfl) (by kernel_rfl) (by kernel_rfl) rfl rfl rfl (fun _ _ h => h) h17 (mv rfl) ?_;show AI _ _ _ _ _ _ #[true, true, true, true, true, true, true, true, true, true, true, true, true, true, false, false, false, false, false, false, false, false, false, false, false, false, false, false, false, false, false, false, false, false, false, false, false, false, false, false, false, false, false, false, false, false, false, false, false, false, false, false] _;refine bf (i := 14) rfl rfl (by kernel_rfl) (by kernel_rfl) (by kernel_rfl) rfl rfl rfl (fun _ _ h => h) h17 (bw (E := (ab Enc.int (ab Enc.str (ab Enc.str (Enc.sl (ab Enc.str Enc.str)))))) au (by kernel_rfl) rfl rfl (g18 (nf h17)) e20) ?_
       show AI _ _ _ _ _ _ #[true, true, true, true, true, true, true, true, true, true, true, true, true, true, true, false, false, false, false, false, false, false, false, false, false, false, false, false, false, false, false, false, false, false, false, false, false, false, false, false, false, false, false, false, false, false, false, false, false, false, false, false] _;refine bf (i := 15) rfl rfl (by kernel_rfl) (by kernel_rfl) (by kernel_rfl) rfl rfl rfl (fun _ _ h => h) h17 (aN (n := 1) (by kernel_rfl) rfl (af rfl)) ?_;show AI _ _ _ _ _ _ #[true, true, true, true, true, true, true, true, true, true, true, true, true, true, true, true, false, false, false, false, false, false, false, false, false, false, false, false, false, false, false, false, false, false, false, false, false, false, false, false, false, false, false, false, false, false, false, false, false, false, false, false] _;refine bf (i := 16) rfl rfl (by kernel_rfl) (by kernel_rfl) (by kernel_rfl) rfl rfl rfl (fun _ _ h => h) h17 (aL ah rfl rfl) ?_;show AI _ _ _ _ _ _ #[true, true, true, true, true, true, true, true, true, true, true, true, true, true, true, true, true, false, false, false, false, false, false, false, false, false, false, false, false, false, false, false, false, false, false, false, false, false, false, false, false, false, false, false, false, false, false, false, false, false, false, false] _
       refine bf (i := 17) rfl rfl (by kernel_rfl) (by kernel_rfl) (by kernel_rfl) rfl rfl rfl (fun _ _ h => h) h17 (ag (av := slE _ _ _) rfl) ?_;show AI _ _ _ _ _ _ #[true, true, true, true, true, true, true, true, true, true, true, true, true, true, true, true, true, true, false, false, false, false, false, false, false, false, false, false, false, false, false, false, false, false, false, false, false, false, false, false, false, false, false, false, false, false, false, false, false, false, false, false] _;refine bf (i := 18) rfl rfl (by kernel_rfl) (by kernel_rfl) (by kernel_rfl) rfl rfl rfl (fun _ _ h => h) h17 (mv rfl) ?_;show AI _ _ _ _ _ _ #[true, true, true, true, true, true, true, true, true, true, true, true, true, true, true, true, true, true, true, false, false, false, false, false, false, false, false, false, false, false, false, false, false, false, false, false, false, false, false, false, false, false, false, false, false, false, false, false, false, false, false, false] _;refine bf (i := 19) rfl rfl (by kernel_rfl) (by kernel_rfl) (by kernel_rfl) rfl rfl rfl (fun _ _ h => h) h17 (bw (E := (ab Enc.int (ab Enc.str (ab Enc.str (Enc.sl (ab Enc.str Enc.str)))))) au (by kernel_rfl) rfl rfl (g21 (nf h17)) e23) ?_
       show AI _ _ _ _ _ _ #[true, true, true, true, true, true, true, true, true, true, true, true, true, true, true, true, true, true, true, true, false, false, false, false, false, false, false, false, false, false, false, false, false, false, false, false, false, false, false, false, false, false, false, false, false, false, false, false, false, false, false, false] _;refine bf (i := 20) rfl rfl (by kernel_rfl) (by kernel_rfl) (by kernel_rfl) rfl rfl rfl (fun _ _ h => h) h17 (aN (n := 1) (by kernel_rfl) rfl (af rfl)) ?_;show AI _ _ _ _ _ _ #[true, true, true, true, true, true, true, true, true, true, true, true, true, true, true, true, true, true, true, true, true, false, false, false, false, false, false, false, false, false, false, false, false, false, false, false, false, false, false, false, false, false, false, false, false, false, false, false, false, false, false, false] _;refine bf (i := 21) rfl rfl (by kernel_rfl) (by kernel_rfl) (by kernel_rfl) rfl rfl rfl (fun _ _ h => h) h17 (aL ah rfl rfl) ?_;show AI _ _ _ _ _ _ #[true, true, true, true, true, true, true, true, true, true, true, true, true, true, true, true, true, true, true, true, true, true, false, false, false, false, false, false, false, false, false, false, false, false, false, false, false, false, false, false, false, false, false, false, false, false, false, false, false, false, false, false] _;refine bf (i := 22) rfl rfl (by kernel_rfl) (by kernel_rfl) (by kernel_rfl) rfl rfl rfl (fun _ _ h => h) h17 (jW rfl rfl) ?_
       show AI _ _ _ _ _ _ #[true, true, true, true, true, true, true, true, true, true, true, true, true, true, true, true, true, true, true, true, true, true, true, false, false, false, false, false, false, false, false, false, false, false, false, false, false, false, false, false, false, false, false, false, false, false, false, false, false, false, false, false] _;refine zk 23 rfl (cU (av' := B ((!decide (x12.1 = x15.1)) || (!decide (x19.2.1 = x22.2.1)))) (aF (av := .v _) rfl h17 rfl) (ay (jx h17))) ?_;show AI _ _ _ _ _ _ #[true, true, true, true, true, true, true, true, true, true, true, true, true, true, true, true, true, true, true, true, true, true, true, true, false, false, false, false, false, false, false, false, false, false, false, false, false, false, false, false, false, false, false, false, false, false, false, false, false, false, false, false] _;exact K23 _ 11 rfl rfl
     refine zk 24 rfl (mv rfl) ?_;show AI _ _ _ _ _ _ #[true, true, true, true, true, true, true, true, true, true, true, true, true, true, true, true, true, true, true, true, true, true, true, true, true, false, false, false, false, false, false, false, false, false, false, false, false, false, false, false, false, false, false, false, false, false, false, false, false, false, false, false] _;refine AI.meet 15 #[true, true, true, true, true, true, true, true, true, true, true, true, true, true, true, true, true, true, true, true, true, true, true, true, true, true, true, true, true, true, true, true, true, true, true, true, true, false, false, false, false, false, false, false, false, false, false, false, false, false, false, false] 54 (B (((!decide (x12.1 = x15.1)) || (!decide (x19.2.1 = x22.2.1))) || (!decide (x26.2.2.1 = x29.2.2.1)))) (fun K36 => ?_) ?_
     ·refine jP (t := 42) rfl (fun h24 => ?_) (fun h24 => ?_)
      ·refine bg (i := 25) rfl rfl (by kernel_rfl) (by kernel_rfl) (by kernel_rfl) rfl rfl rfl (fun _ _ h => h) h24 ?_;show AI _ _ _ _ _ _ #[true, true, true, true, true, true, true, true, true, true, true, true, true, true, true, true, true, true, true, true, true, true, true, true, true, true, false, false, false, false, false, false, false, false, false, false, false, false, false, false, false, false, false, false, false, false, false, false, false, false, false, false] _;refine bg (i := 26) rfl rfl (by kernel_rfl) (by kernel_rfl) (by kernel_rfl) rfl rfl rfl (fun _ _ h => h) h24 ?_;show AI _ _ _ _ _ _ #[true, true, true, true, true, true, true, true, true, true, true, true, true, true, true, true, true, true, true, true, true, true, true, true, true, true, true, false, false, false, false, false, false, false, false, false, false, false, false, false, false, false, false, false, false, false, false, false, false, false, false, false] _;refine bg (i := 27) rfl rfl (by kernel_rfl) (by kernel_rfl) (by kernel_rfl) rfl rfl rfl (fun _ _ h => h) h24 ?_;show AI _ _ _ _ _ _ #[true, true, true, true, true, true, true, true, true, true, true, true, true, true, true, true, true, true, true, true, true, true, true, true, true, true, true, true, false, false, false, false, false, false, false, false, false, false, false, false, false, false, false, false, false, false, false, false, false, false, false, false] _;refine bg (i := 28) rfl rfl (by kernel_rfl) (by kernel_rfl) (by kernel_rfl) rfl rfl rfl (fun _ _ h => h) h24 ?_
       show AI _ _ _ _ _ _ #[true, true, true, true, true, true, true, true, true, true, true, true, true, true, true, true, true, true, true, true, true, true, true, true, true, true, true, true, true, false, false, false, false, false, false, false, false, false, false, false, false, false, false, false, false, false, false, false, false, false, false, false] _;refine bg (i := 29) rfl rfl (by kernel_rfl) (by kernel_rfl) (by kernel_rfl) rfl rfl rfl (fun _ _ h => h) h24 ?_;show AI _ _ _ _ _ _ #[true, true, true, true, true, true, true, true, true, true, true, true, true, true, true, true, true, true, true, true, true, true, true, true, true, true, true, true, true, true, false, false, false, false, false, false, false, false, false, false, false, false, false, false, false, false, false, false, false, false, false, false] _;refine bg (i := 30) rfl rfl (by kernel_rfl) (by kernel_rfl) (by kernel_rfl) rfl rfl rfl (fun _ _ h => h) h24 ?_;show AI _ _ _ _ _ _ #[true, true, true, true, true, true, true, true, true, true, true, true, true, true, true, true, true, true, true, true, true, true, true, true, true, true, true, true, true, true, true, false, false, false, false, false, false, false, false, false, false, false, false, false, false, false, false, false, false, false, false, false] _;refine bg (i := 31) rfl rfl (by kernel_rfl) (by kernel_rfl) (by kernel_rfl) rfl rfl rfl (fun _ _ h => h) h24 ?_
       show AI _ _ _ _ _ _ #[true, true, true, true, true, true, true, true, true, true, true, true, true, true, true, true, true, true, true, true, true, true, true, true, true, true, true, true, true, true, true, true, false, false, false, false, false, false, false, false, false, false, false, false, false, false, false, false, false, false, false, false] _;refine bg (i := 32) rfl rfl (by kernel_rfl) (by kernel_rfl) (by kernel_rfl) rfl rfl rfl (fun _ _ h => h) h24 ?_;show AI _ _ _ _ _ _ #[true, true, true, true, true, true, true, true, true, true, true, true, true, true, true, true, true, true, true, true, true, true, true, true, true, true, true, true, true, true, true, true, true, false, false, false, false, false, false, false, false, false, false, false, false, false, false, false, false, false, false, false] _;refine bg (i := 33) rfl rfl (by kernel_rfl) (by kernel_rfl) (by kernel_rfl) rfl rfl rfl (fun _ _ h => h) h24 ?_;show AI _ _ _ _ _ _ #[true, true, true, true, true, true, true, true, true, true, true, true, true, true, true, true, true, true, true, true, true, true, true, true, true, true, true, true, true, true, true, true, true, true, false, false, false, false, false, false, false, false, false, false, false, false, false, false, false, false, false, false] _;refine bg (i := 34) rfl rfl (by kernel_rfl) (by kernel_rfl) (by kernel_rfl) rfl rfl rfl (fun _ _ h => h) h24 ?_
       show AI _ _ _ _ _ _ #[true, true, true, true, true, true, true, true, true, true, true, true, true, true, true, true, true, true, true, true, true, true, true, true, true, true, true, true, true, true, true, true, true, true, true, false, false, false, false, false, false, false, false, false, false, false, false, false, false, false, false, false] _;refine bg (i := 35) rfl rfl (by kernel_rfl) (by kernel_rfl) (by kernel_rfl) rfl rfl rfl (fun _ _ h => h) h24 ?_;show AI _ _ _ _ _ _ #[true, true, true, true, true, true, true, true, true, true, true, true, true, true, true, true, true, true, true, true, true, true, true, true, true, true, true, true, true, true, true, true, true, true, true, true, false, false, false, false, false, false, false, false, false, false, false, false, false, false, false, false] _;refine zk 36 rfl (cU (av' := B (((!decide (x12.1 = x15.1)) || (!decide (x19.2.1 = x22.2.1))) || (!decide (x26.2.2.1 = x29.2.2.1)))) (aE (av := .v _) rfl h24 rfl) (ay (jw h24))) ?_;show AI _ _ _ _ _ _ #[true, true, true, true, true, true, true, true, true, true, true, true, true, true, true, true, true, true, true, true, true, true, true, true, true, true, true, true, true, true, true, true, true, true, true, true, true, false, false, false, false, false, false, false, false, false, false, false, false, false, false, false] _;exact K36 _ 11 rfl rfl
      ·refine bf (i := 25) rfl rfl (by kernel_rfl) (by kernel_rfl) (by kernel_rfl) rfl rfl rfl (fun _ _ h => h) h24 (ag (av := slE _ _ _) rfl) ?_;show AI _ _ _ _ _ _ #[true, true, true, true, true, true, true, true, true, true, true, true, true, true, true, true, true, true, true, true, true, true, true, true, true, true, false, false, false, false, false, false, false, false, false, false, false, false, false, false, false, false, false, false, false, false, false, false, false, false, false, false] _;refine bf (i := 26) rfl rfl (by kernel_rfl) (by kernel_rfl) (by kernel_rfl) rfl rfl rfl (fun _ _ h => h) h24 (mv rfl) ?_;show AI _ _ _ _ _ _ #[true, true, true, true, true, true, true, true, true, true, true, true, true, true, true, true, true, true, true, true, true, true, true, true, true, true, true, false, false, false, false, false, false, false, false, false, false, false, false, false, false, false, false, false, false, false, false, false, false, false, false, false] _;refine bf (i := 27) rfl rfl (by kernel_rfl) (by kernel_rfl) (by kernel_rfl) rfl rfl rfl (fun _ _ h => h) h24 (bw (E := (ab Enc.int (ab Enc.str (ab Enc.str (Enc.sl (ab Enc.str Enc.str)))))) au (by kernel_rfl) rfl rfl (g25 (nf h24)) e27) ?_
       show AI _ _ _ _ _ _ #[true, true, true, true, true, true, true, true, true, true, true, true, true, true, true, true, true, true, true, true, true, true, true, true, true, true, true, true, false, false, false, false, false, false, false, false, false, false, false, false, false, false, false, false, false, false, false, false, false, false, false, false] _;refine bf (i := 28) rfl rfl (by kernel_rfl) (by kernel_rfl) (by kernel_rfl) rfl rfl rfl (fun _ _ h => h) h24 (aN (n := 2) (by kernel_rfl) rfl (af rfl)) ?_;show AI _ _ _ _ _ _ #[true, true, true, true, true, true, true, true, true, true, true, true, true, true, true, true, true, true, true, true, true, true, true, true, true, true, true, true, true, false, false, false, false, false, false, false, false, false, false, false, false, false, false, false, false, false, false, false, false, false, false, false] _;refine bf (i := 29) rfl rfl (by kernel_rfl) (by kernel_rfl) (by kernel_rfl) rfl rfl rfl (fun _ _ h => h) h24 (aL ah rfl rfl) ?_;show AI _ _ _ _ _ _ #[true, true, true, true, true, true, true, true, true, true, true, true, true, true, true, true, true, true, true, true, true, true, true, true, true, true, true, true, true, true, false, false, false, false, false, false, false, false, false, false, false, false, false, false, false, false, false, false, false, false, false, false] _;refine bf (i := 30) rfl rfl (by kernel_rfl) (by kernel_rfl) (by kernel_rfl) rfl rfl rfl (fun _ _ h => h) h24 (ag (av := slE _ _ _) rfl) ?_
       show AI _ _ _ _ _ _ #[true, true, true, true, true, true, true, true, true, true, true, true, true, true, true, true, true, true, true, true, true, true, true, true, true, true, true, true, true, true, true, false, false, false, false, false, false, false, false, false, false, false, false, false, false, false, false, false, false, false, false, false] _;refine bf (i := 31) rfl rfl (by kernel_rfl) (by kernel_rfl) (by kernel_rfl) rfl rfl rfl (fun _ _ h => h) h24 (mv rfl) ?_;show AI _ _ _ _ _ _ #[true, true, true, true, true, true, true, true, true, true, true, true, true, true, true, true, true, true, true, true, true, true, true, true, true, true, true, true, true, true, true, true, false, false, false, false, false, false, false, false, false, false, false, false, false, false, false, false, false, false, false, false] _;refine bf (i := 32) rfl rfl (by kernel_rfl) (by kernel_rfl) (by kernel_rfl) rfl rfl rfl (fun _ _ h => h) h24 (bw (E := (ab Enc.int (ab Enc.str (ab Enc.str (Enc.sl (ab Enc.str Enc.str)))))) au (by kernel_rfl) rfl rfl (g28 (nf h24)) e30) ?_;show AI _ _ _ _ _ _ #[true, true, true, true, true, true, true, true, true, true, true, true, true, true, true, true, true, true, true, true, true, true, true, true, true, true, true, true, true, true, true, true, true, false, false, false, false, false, false, false, false, false, false, false, false, false, false, false, false, false, false, false] _
       refine bf (i := 33) rfl rfl (by kernel_rfl) (by kernel_rfl) (by kernel_rfl) rfl rfl rfl (fun _ _ h => h) h24 (aN (n := 2) (by kernel_rfl) rfl (af rfl)) ?_;show AI _ _ _ _ _ _ #[true, true, true, true, true, true, true, true, true, true, true, true, true, true, true, true, true, true, true, true, true, true, true, true, true, true, true, true, true, true, true, true, true, true, false, false, false, false, false, false, false, false, false, false, false, false, false, false, false, false, false, false] _;refine bf (i := 34) rfl rfl (by kernel_rfl) (by kernel_rfl) (by kernel_rfl) rfl rfl rfl (fun _ _ h => h) h24 (aL ah rfl rfl) ?_;show AI _ _ _ _ _ _ #[true, true, true, true, true, true, true, true, true, true, true, true, true, true, true, true, true, true, true, true, true, true, true, true, true, true, true, true, true, true, true, true, true, true, true, false, false, false, false, false, false, false, false, false, false, false, false, false, false, false, false, false] _;refine bf (i := 35) rfl rfl (by kernel_rfl) (by kernel_rfl) (by kernel_rfl) rfl rfl rfl (fun _ _ h => h) h24 (jW rfl rfl) ?_;show AI _ _ _ _ _ _ #[true, true, true, true, true, true, true, true, true, true, true, true, true, true, true, true, true, true, true, true, true, true, true, true, true, true, true, true, true, true, true, true, true, true, true, true, false, false, false, false, false, false, false, false, false, false, false, false, false, false, false, false] _
       refine zk 36 rfl (cU (av' := B (((!decide (x12.1 = x15.1)) || (!decide (x19.2.1 = x22.2.1))) || (!decide (x26.2.2.1 = x29.2.2.1)))) (aF (av := .v _) rfl h24 rfl) (ay (jx h24))) ?_;show AI _ _ _ _ _ _ #[true, true, true, true, true, true, true, true, true, true, true, true, true, true, true, true, true, true, true, true, true, true, true, true, true, true, true, true, true, true, true, true, true, true, true, true, true, false, false, false, false, false, false, false, false, false, false, false, false, false, false, false] _;exact K36 _ 11 rfl rfl
     refine zk 37 rfl (mv rfl) ?_;show AI _ _ _ _ _ _ #[true, true, true, true, true, true, true, true, true, true, true, true, true, true, true, true, true, true, true, true, true, true, true, true, true, true, true, true, true, true, true, true, true, true, true, true, true, true, false, false, false, false, false, false, false, false, false, false, false, false, false, false] _;refine AI.meet 0 #[true, true, true, true, true, true, true, true, true, true, true, true, true, true, true, true, true, true, true, true, true, true, true, true, true, true, true, true, true, true, true, true, true, true, true, true, true, true, true, true, true, true, true, true, true, true, true, true, true, true, true, true] 69 (B ((((!decide (x12.1 = x15.1)) || (!decide (x19.2.1 = x22.2.1))) || (!decide (x26.2.2.1 = x29.2.2.1))) || (!decide ((x33.2.2.2.length : Int) = (x36.2.2.2.length : Int))))) (fun K51 => ?_) ?_
     ·refine jP (t := 55) rfl (fun h31 => ?_) (fun h31 => ?_)
      ·refine bg (i := 38) rfl rfl (by kernel_rfl) (by kernel_rfl) (by kernel_rfl) rfl rfl rfl (fun _ _ h => h) h31 ?_;show AI _ _ _ _ _ _ #[true, true, true, true, true, true, true, true, true, true, true, true, true, true, true, true, true, true, true, true, true, true, true, true, true, true, true, true, true, true, true, true, true, true, true, true, true, true, true, false, false, false, false, false, false, false, false, false, false, false, false, false] _;refine bg (i := 39) rfl rfl (by kernel_rfl) (by kernel_rfl) (by kernel_rfl) rfl rfl rfl (fun _ _ h => h) h31 ?_;show AI _ _ _ _ _ _ #[true, true, true, true, true, true, true, true, true, true, true, true, true, true, true, true, true, true, true, true, true, true, true, true, true, true, true, true, true, true, true, true, true, true, true, true, true, true, true, true, false, false, false, false, false, false, false, false, false, false, false, false] _;refine bg (i := 40) rfl rfl (by kernel_rfl) (by kernel_rfl) (by kernel_rfl) rfl rfl rfl (fun _ _ h => h) h31 ?_;show AI _ _ _ _ _ _ #[true, true, true, true, true, true, true, true, true, true, true, true, true, true, true, true, true, true, true, true, true, true, true, true, true, true, true, true, true, true, true, true, true, true, true, true, true, true, true, true, true, false, false, false, false, false, false, false, false, false, false, false] _;refine bg (i := 41) rfl rfl (by kernel_rfl) (by kernel_rfl) (by kernel_rfl) rfl rfl rfl (fun _ _ h => h) h31 ?_
       show AI _ _ _ _ _ _ #[true, true, true, true, true, true, true, true, true, true, true, true, true, true, true, true, true, true, true, true, true, true, true, true, true, true, true, true, true, true, true, true, true, true, true, true, true, true, true, true, true, true, false, false, false, false, false, false, false, false, false, false] _;refine bg (i := 42) rfl rfl (by kernel_rfl) (by kernel_rfl) (by kernel_rfl) rfl rfl rfl (fun _ _ h => h) h31 ?_;show AI _ _ _ _ _ _ #[true, true, true, true, true, true, true, true, true, true, true, true, true, true, true, true, true, true, true, true, true, true, true, true, true, true, true, true, true, true, true, true, true, true, true, true, true, true, true, true, true, true, true, false, false, false, false, false, false, false, false, false] _;refine bg (i := 43) rfl rfl (by kernel_rfl) (by kernel_rfl) (by kernel_rfl) rfl rfl rfl (fun _ _ h => h) h31 ?_;show AI _ _ _ _ _ _ #[true, true, true, true, true, true, true, true, true, true, true, true, true, true, true, true, true, true, true, true, true, true, true, true, true, true, true, true, true, true, true, true, true, true, true, true, true, true, true, true, true, true, true, true, false, false, false, false, false, false, false, false] _;refine bg (i := 44) rfl rfl (by kernel_rfl) (by kernel_rfl) (by kernel_rfl) rfl rfl rfl (fun _ _ h => h) h31 ?_
       show AI _ _ _ _ _ _ #[true, true, true, true, true, true, true, true, true, true, true, true, true, true, true, true, true, true, true, true, true, true, true, true, true, true, true, true, true, true, true, true, true, true, true, true, true, true, true, true, true, true, true, true, true, false, false, false, false, false, false, false] _;refine bg (i := 45) rfl rfl (by kernel_rfl) (by kernel_rfl) (by kernel_rfl) rfl rfl rfl (fun _ _ h => h) h31 ?_;show AI _ _ _ _ _ _ #[true, true, true, true, true, true, true, true, true, true, true, true, true, true, true, true, true, true, true, true, true, true, true, true, true, true, true, true, true, true, true, true, true, true, true, true, true, true, true, true, true, true, true, true, true, true, false, false, false, false, false, false] _;refine bg (i := 46) rfl rfl (by kernel_rfl) (by kernel_rfl) (by kernel_rfl) rfl rfl rfl (fun _ _ h => h) h31 ?_;show AI _ _ _ _ _ _ #[true, true, true, true, true, true, true, true, true, true, true, true, true, true, true, true, true, true, true, true, true, true, true, true, true, true, true, true, true, true, true, true, true, true, true, true, true, true, true, true, true, true, true, true, true, true, true, false, false, false, false, false] _;refine bg (i := 47) rfl rfl (by kernel_rfl) (by kernel_rfl) (by kernel_rfl) rfl rfl rfl (fun _ _ h => h) h31 ?_
       show AI _ _ _ _ _ _ #[true, true, true, true, true, true, true, true, true, true, true, true, true, true, true, true, true, true, true, true, true, true, true, true, true, true, true, true, true, true, true, true, true, true, true, true, true, true, true, true, true, true, true, true, true, true, true, true, false, false, false, false] _;refine bg (i := 48) rfl rfl (by kernel_rfl) (by kernel_rfl) (by kernel_rfl) rfl rfl rfl (fun _ _ h => h) h31 ?_;show AI _ _ _ _ _ _ #[true, true, true, true, true, true, true, true, true, true, true, true, true, true, true, true, true, true, true, true, true, true, true, true, true, true, true, true, true, true, true, true, true, true, true, true, true, true, true, true, true, true, true, true, true, true, true, true, true, false, false, false] _;refine bg (i := 49) rfl rfl (by kernel_rfl) (by kernel_rfl) (by kernel_rfl) rfl rfl rfl (fun _ _ h => h) h31 ?_;show AI _ _ _ _ _ _ #[true, true, true, true, true, true, true, true, true, true, true, true, true, true, true, true, true, true, true, true, true, true, true, true, true, true, true, true, true, true, true, true, true, true, true, true, true, true, true, true, true, true, true, true, true, true, true, true, true, true, false, false] _;refine bg (i := 50) rfl rfl (by kernel_rfl) (by kernel_rfl) (by kernel_rfl) rfl rfl rfl (fun _ _ h => h) h31 ?_
       show AI _ _ _ _ _ _ #[true, true, true, true, true, true, true, true, true, true, true, true, true, true, true, true, true, true, true, true, true, true, true, true, true, true, true, true, true, true, true, true, true, true, true, true, true, true, true, true, true, true, true, true, true, true, true, true, true, true, true, false] _;refine zk 51 rfl (cU (av' := B ((((!decide (x12.1 = x15.1)) || (!decide (x19.2.1 = x22.2.1))) || (!decide (x26.2.2.1 = x29.2.2.1))) || (!decide ((x33.2.2.2.length : Int) = (x36.2.2.2.length : Int))))) (aE (av := .v _) rfl h31 rfl) (ay (jw h31))) ?_;show AI _ _ _ _ _ _ #[true, true, true, true, true, true, true, true, true, true, true, true, true, true, true, true, true, true, true, true, true, true, true, true, true, true, true, true, true, true, true, true, true, true, true, true, true, true, true, true, true, true, true, true, true, true, true, true, true, true, true, true] _;exact K51 _ 13 rfl rfl
      ·refine bf (i := 38) rfl rfl (by kernel_rfl) (by kernel_rfl) (by kernel_rfl) rfl rfl rfl (fun _ _ h => h) h31 (ag (av := slE _ _ _) rfl) ?_;show AI _ _ _ _ _ _ #[true, true, true, true, true, true, true, true, true, true, true, true, true, true, true, true, true, true, true, true, true, true, true, true, true, true, true, true, true, true, true, true, true, true, true, true, true, true, true, false, false, false, false, false, false, false, false, false, false, false, false, false] _;refine bf (i := 39) rfl rfl (by kernel_rfl) (by kernel_rfl) (by kernel_rfl) rfl rfl rfl (fun _ _ h => h) h31 (mv rfl) ?_;show AI _ _ _ _ _ _ #[true, true, true, true, true, true, true, true, true, true, true, true, true, true, true, true, true, true, true, true, true, true, true, true, true, true, true, true, true, true, true, true, true, true, true, true, true, true, true, true, false, false, false, false, false, false, false, false, false, false, false, false] _;refine bf (i := 40) rfl rfl (by kernel_rfl) (by kernel_rfl) (by kernel_rfl) rfl rfl rfl (fun _ _ h => h) h31 (bw (E := (ab Enc.int (ab Enc.str (ab Enc.str (Enc.sl (ab Enc.str Enc.str)))))) au (by kernel_rfl) rfl rfl (g32 (nf h31)) e34) ?_
       show AI _ _ _ _ _ _ #[true, true, true, true, true, true, true, true, true, true, true, true, true, true, true, true, true, true, true, true, true, true, true, true, true, true, true, true, true, true, true, true, true, true, true, true, true, true, true, true, true, false, false, false, false, false, false, false, false, false, false, false] _;refine bf (i := 41) rfl rfl (by kernel_rfl) (by kernel_rfl) (by kernel_rfl) rfl rfl rfl (fun _ _ h => h) h31 (aN (n := 3) (by kernel_rfl) rfl (af rfl)) ?_;show AI _ _ _ _ _ _ #[true, true, true, true, true, true, true, true, true, true, true, true, true, true, true, true, true, true, true, true, true, true, true, true, true, true, true, true, true, true, true, true, true, true, true, true, true, true, true, true, true, true, false, false, false, false, false, false, false, false, false, false] _;refine bf (i := 42) rfl rfl (by kernel_rfl) (by kernel_rfl) (by kernel_rfl) rfl rfl rfl (fun _ _ h => h) h31 (aL aM rfl rfl) ?_;show AI _ _ _ _ _ _ #[true, true, true, true, true, true, true, true, true, true, true, true, true, true, true, true, true, true, true, true, true, true, true, true, true, true, true, true, true, true, true, true, true, true, true, true, true, true, true, true, true, true, true, false, false, false, false, false, false, false, false, false] _;refine bf (i := 43) rfl rfl (by kernel_rfl) (by kernel_rfl) (by kernel_rfl) rfl rfl rfl (fun _ _ h => h) h31 (aO aM rfl) ?_
       show AI _ _ _ _ _ _ #[true, true, true, true, true, true, true, true, true, true, true, true, true, true, true, true, true, true, true, true, true, true, true, true, true, true, true, true, true, true, true, true, true, true, true, true, true, true, true, true, true, true, true, true, false, false, false, false, false, false, false, false] _;refine bf (i := 44) rfl rfl (by kernel_rfl) (by kernel_rfl) (by kernel_rfl) rfl rfl rfl (fun _ _ h => h) h31 (ag (av := slE _ _ _) rfl) ?_;show AI _ _ _ _ _ _ #[true, true, true, true, true, true, true, true, true, true, true, true, true, true, true, true, true, true, true, true, true, true, true, true, true, true, true, true, true, true, true, true, true, true, true, true, true, true, true, true, true, true, true, true, true, false, false, false, false, false, false, false] _;refine bf (i := 45) rfl rfl (by kernel_rfl) (by kernel_rfl) (by kernel_rfl) rfl rfl rfl (fun _ _ h => h) h31 (mv rfl) ?_;show AI _ _ _ _ _ _ #[true, true, true, true, true, true, true, true, true, true, true, true, true, true, true, true, true, true, true, true, true, true, true, true, true, true, true, true, true, true, true, true, true, true, true, true, true, true, true, true, true, true, true, true, true, true, false, false, false, false, false, false] _;refine bf (i := 46) rfl rfl (by kernel_rfl) (by kernel_rfl) (by kernel_rfl) rfl rfl rfl (fun _ _ h => h) h31 (bw (E := (ab Enc.int (ab Enc.str (ab Enc.str (Enc.sl (ab Enc.str Enc.str)))))) au (by kernel_rfl) rfl rfl (g35 (nf h31)) e37) ?_
       show AI _ _ _ _ _ _ #[true, true, true, true, true, true, true, true, true, true, true, true, true, true, true, true, true, true, true, true, true, true, true, true, true, true, true, true, true, true, true, true, true, true, true, true, true, true, true, true, true, true, true, true, true, true, true, false, false, false, false, false] _;refine bf (i := 47) rfl rfl (by kernel_rfl) (by kernel_rfl) (by kernel_rfl) rfl rfl rfl (fun _ _ h => h) h31 (aN (n := 3) (by kernel_rfl) rfl (af rfl)) ?_;show AI _ _ _ _ _ _ #[true, true, true, true, true, true, true, true, true, true, true, true, true, true, true, true, true, true, true, true, true, true, true, true, true, true, true, true, true, true, true, true, true, true, true, true, true, true, true, true, true, true, true, true, true, true, true, true, false, false, false, false] _;refine bf (i := 48) rfl rfl (by kernel_rfl) (by kernel_rfl) (by kernel_rfl) rfl rfl rfl (fun _ _ h => h) h31 (aL aM rfl rfl) ?_;show AI _ _ _ _ _ _ #[true, true, true, true, true, true, true, true, true, true, true, true, true, true, true, true, true, true, true, true, true, true, true, true, true, true, true, true, true, true, true, true, true, true, true, true, true, true, true, true, true, true, true, true, true, true, true, true, true, false, false, false] _;refine bf (i := 49) rfl rfl (by kernel_rfl) (by kernel_rfl) (by kernel_rfl) rfl rfl rfl (fun _ _ h => h) h31 (aO aM rfl) ?_
       show AI _ _ _ _ _ _ #[true, true, true, true, true, true, true, true, true, true, true, true, true, true, true, true, true, true, true, true, true, true, true, true, true, true, true, true, true, true, true, true, true, true, true, true, true, true, true, true, true, true, true, true, true, true, true, true, true, true, false, false] _;refine bf (i := 50) rfl rfl (by kernel_rfl) (by kernel_rfl) (by kernel_rfl) rfl rfl rfl (fun _ _ h => h) h31 (gm rfl rfl) ?_;show AI _ _ _ _ _ _ #[true, true, true, true, true, true, true, true, true, true, true, true, true, true, true, true, true, true, true, true, true, true, true, true, true, true, true, true, true, true, true, true, true, true, true, true, true, true, true, true, true, true, true, true, true, true, true, true, true, true, true, false] _;refine zk 51 rfl (cU (av' := B ((((!decide (x12.1 = x15.1)) || (!decide (x19.2.1 = x22.2.1))) || (!decide (x26.2.2.1 = x29.2.2.1))) || (!decide ((x33.2.2.2.length : Int) = (x36.2.2.2.length : Int))))) (aF (av := .v _) rfl h31 rfl) (ay (jx h31))) ?_;show AI _ _ _ _ _ _ #[true, true, true, true, true, true, true, true, true, true, true, true, true, true, true, true, true, true, true, true, true, true, true, true, true, true, true, true, true, true, true, true, true, true, true, true, true, true, true, true, true, true, true, true, true, true, true, true, true, true, true, true] _;exact K51 _ 13 rfl rfl
     refine co rfl <| ax rfl (fun c38 => ?_) (fun c38 => ?_)
     ·replace H := aW c38 H;refine ac <| aa ?_;show AR _ _ _ _ _ [0] _;refine za rfl <| ai <| aI ?_;obtain rfl := al H;exact And.intro rfl (Exists.intro _ (Exists.intro _ ⟨aC rfl (.refl _), aH [] rfl, rfl, rfl⟩))
     ·replace H := aX c38 H;refine aB <| ac <| aa ?_;show AR _ _ _ _ _ [0] _;refine za rfl <| ai <| aP <| cW (X := Nat × Int) (fun (n41, y39) => ⟨[(0, slE (ab Enc.int (ab Enc.str (ab Enc.str (Enc.sl (ab Enc.str Enc.str))))) a1 q2), (1, slE (ab Enc.int (ab Enc.str (ab Enc.str (Enc.sl (ab Enc.str Enc.str))))) a3 q4), (5, i64 y7), (6, i64 y39)], [], []⟩) (fun (n41, y39) => ik a1 a3 y7 (cX F a1 a3 n9) n41 y39 = some r5) (fun (n41, y39) => n41) (F, 0) H (be [] (.cons (.refl _) (.cons (.refl _) (.cons (.refl _) (.cons (.refl _) (.nil _))))) rfl) ?_;rintro ⟨n41, y39⟩ H;obtain ⟨n41, rfl, H⟩ := eu H;replace H : io a1 a3 y7 (cX F a1 a3 n9) (ik a1 a3 y7 (cX F a1 a3 n9) n41) y39 = some r5 := H
      unfold io at H
      refine ac <| ac ?_;obtain ⟨g42, H⟩ := aV H;obtain ⟨x43, e44, H⟩ := bK H;refine aa ?_;show AR _ _ _ _ _ [0, 1, 2, 3, 4, 5, 6, 7] _;refine zm rfl <| zS rfl (ag (av := slE _ _ _) rfl) <| zm rfl <| zS rfl (bw (E := (ab Enc.int (ab Enc.str (ab Enc.str (Enc.sl (ab Enc.str Enc.str)))))) au (by kernel_rfl) rfl rfl g42 e44) <| zS rfl (aN (n := 3) (by kernel_rfl) rfl (af rfl)) <| zS rfl (aL aM rfl rfl) <| zS rfl (aO aM rfl) <| zS rfl (bZ rfl rfl) <| ai <| ax rfl (fun c45 => ?_) (fun c45 => ?_)
      ·replace H := aW c45 H;refine aB <| ac <| aP <| ac ?_;obtain ⟨g46, H⟩ := aV H;obtain ⟨x47, e48, H⟩ := bK H;obtain ⟨g49, H⟩ := aV H;obtain ⟨x50, e51, H⟩ := bK H;obtain ⟨g52, H⟩ := aV H;obtain ⟨x53, e54, H⟩ := bK H;obtain ⟨g55, H⟩ := aV H;obtain ⟨x56, e57, H⟩ := bK H;refine bE (by kernel_rfl) ?_;show AI _ _ _ _ _ 17 (Array.replicate 17 false) _;refine zk 0 rfl (ag (av := slE _ _ _) rfl) ?_;show AI _ _ _ _ _ _ #[true, false, false, false, false, false, false, false, false, false, false, false, false, false, false, false, false] _;refine zk 1 rfl (mv rfl) ?_;show AI _ _ _ _ _ _ #[true, true, false, false, false, false, false, false, false, false, false, false, false, false, false, false, false] _;refine zk 2 rfl (bw (E := (ab Enc.int (ab Enc.str (ab Enc.str (Enc.sl (ab Enc.str Enc.str)))))) au (by kernel_rfl) rfl rfl g46 e48) ?_;show AI _ _ _ _ _ _ #[true, true, true, false, false, false, false, false, false, false, false, false, false, false, false, false, false] _;refine zk 3 rfl (aN (n := 3) (by kernel_rfl) rfl (af rfl)) ?_;show AI _ _ _ _ _ _ #[true, true, true, true, false, false, false, false, false, false, false, false, false, false, false, false, false] _;refine zk 4 rfl (aL aM rfl rfl) ?_;show AI _ _ _ _ _ _ #[true, true, true, true, true, false, false, false, false, false, false, false, false, false, false, false, false] _;refine zk 5 rfl (mv rfl) ?_
       show AI _ _ _ _ _ _ #[true, true, true, true, true, true, false, false, false, false, false, false, false, false, false, false, false] _;refine zk 6 rfl (bw (E := (ab Enc.str Enc.str)) aM (by kernel_rfl) rfl rfl g49 e51) ?_;show AI _ _ _ _ _ _ #[true, true, true, true, true, true, true, false, false, false, false, false, false, false, false, false, false] _;refine zk 7 rfl (ca bV rfl (n := 2) (by kernel_rfl) rfl (af rfl)) ?_;show AI _ _ _ _ _ _ #[true, true, true, true, true, true, true, true, false, false, false, false, false, false, false, false, false] _;refine zk 8 rfl (ag (av := slE _ _ _) rfl) ?_;show AI _ _ _ _ _ _ #[true, true, true, true, true, true, true, true, true, false, false, false, false, false, false, false, false] _;refine zk 9 rfl (mv rfl) ?_;show AI _ _ _ _ _ _ #[true, true, true, true, true, true, true, true, true, true, false, false, false, false, false, false, false] _;refine zk 10 rfl (bw (E := (ab Enc.int (ab Enc.str (ab Enc.str (Enc.sl (ab Enc.str Enc.str)))))) au (by kernel_rfl) rfl rfl g52 e54) ?_;show AI _ _ _ _ _ _ #[true, true, true, true, true, true, true, true, true, true, true, false, false, false, false, false, false] _;refine zk 11 rfl (aN (n := 3) (by kernel_rfl) rfl (af rfl)) ?_;show AI _ _ _ _ _ _ #[true, true, true, true, true, true, true, true, true, true, true, true, false, false, false, false, false] _;refine zk 12 rfl (aL aM rfl rfl) ?_
       show AI _ _ _ _ _ _ #[true, true, true, true, true, true, true, true, true, true, true, true, true, false, false, false, false] _;refine zk 13 rfl (mv rfl) ?_;show AI _ _ _ _ _ _ #[true, true, true, true, true, true, true, true, true, true, true, true, true, true, false, false, false] _;refine zk 14 rfl (bw (E := (ab Enc.str Enc.str)) aM (by kernel_rfl) rfl rfl g55 e57) ?_;show AI _ _ _ _ _ _ #[true, true, true, true, true, true, true, true, true, true, true, true, true, true, true, false, false] _;refine zk 15 rfl (ca bV rfl (n := 2) (by kernel_rfl) rfl (af rfl)) ?_;show AI _ _ _ _ _ _ #[true, true, true, true, true, true, true, true, true, true, true, true, true, true, true, true, false] _;refine zk 16 rfl (km (r := (decide (x50.1 = x56.1)) && (decide (x50.2 = x56.2))) (.inr rfl) bV (by kernel_rfl) (by kernel_rfl) (by kernel_rfl) rfl rfl rfl (by simp only [List.all_cons, List.all_nil, id, ry, Bool.and_true])) ?_;show AI _ _ _ _ _ _ #[true, true, true, true, true, true, true, true, true, true, true, true, true, true, true, true, true] _;refine co rfl <| ax rfl (fun c58 => ?_) (fun c58 => ?_)
       ·replace H := aW c58 H;refine ac <| aa ?_;show AR _ _ _ _ _ [0] _;refine za rfl <| ai <| aI ?_;obtain rfl := al H;exact And.intro rfl (Exists.intro _ (Exists.intro _ ⟨aC rfl (.refl _), aH [] rfl, rfl, rfl⟩))
       ·replace H := aX c58 H;refine aB ?_;obtain ⟨g59, H⟩ := aV H;refine aa ?_;show AR _ _ _ _ _ [0, 1, 2] _;refine zm rfl <| zS rfl (eI rfl rfl g59) <| za rfl <| ai ?_;exact Exists.intro (n41, y39 + 1) ⟨H, Nat.lt_succ_self _, be [] (.cons (.refl _) (.cons (.refl _) (.cons (.refl _) (.cons (.refl _) (.nil _))))) rfl⟩
      ·replace H := aX c45 H;refine cA ?_;exact Exists.intro () ⟨H, be [] (.cons (.refl _) (.cons (.refl _) (.cons (.refl _) (.nil _)))) rfl⟩
    rintro _ H;replace H : gb y7 (cX F a1 a3 n9) = some r5 := H
    unfold gb at H
    obtain ⟨g61, H⟩ := aV H;refine aa ?_;show AR _ _ _ _ _ [0, 1, 2] _;refine zm rfl <| zS rfl (eI rfl rfl g61) <| za rfl <| ai ?_;exact Exists.intro (n9, y7 + 1) ⟨H, Nat.lt_succ_self _, be [] (.cons (.refl _) (.cons (.refl _) (.cons (.refl _) (.nil _)))) rfl⟩
   ·replace H := aX c10 H;refine cA ?_;exact Exists.intro () ⟨H, be [] (.nil _) rfl⟩
  rintro _ H;replace H : gc = some r5 := H
  unfold gc at H
  refine ac <| aa ?_;show AR _ _ _ _ _ [0] _;refine za rfl <| ai <| aI ?_;obtain rfl := al H;exact And.intro rfl (Exists.intro _ (Exists.intro _ ⟨aC rfl (.refl _), aH [] rfl, rfl, rfl⟩))
set_option maxRecDepth 100000 in
set_option maxHeartbeats 1000000 in
theorem nx (F : Nat) (r1 : Bool) (H : hZ F = some r1) : ACalls Tryz.prog 9 [] [] (Ret (B r1) []) := by
 unfold hZ at H
 refine aw Tryz.func9 rfl rfl ?_;show AW _ _ 39 _ _ _;refine ac <| aa ?_;show AR _ _ _ _ _ [0] _;refine za rfl <| ai <| ac ?_;obtain ⟨x3, x4, e5, H⟩ := cY H;refine aa ?_;show AR _ _ _ _ _ [0, 1, 2, 3, 4, 5, 6, 7] _;refine zX rfl (qQ (E := Enc.byte) (bytes := 1) (xs := [.const _, .const _, .const _, .const _, .const _, .const _, .const _, .const _, .const _, .const _, .const _, .const _, .const _, .const _, .const _, .const _] ++ [.const _, .const _, .const _, .const _, .const _, .const _, .const _]) (l := ([60, 97, 32, 98, 61, 34, 49, 34, 62, 120, 38, 97, 109, 112, 59, 60] ++ [99, 47, 62, 60, 47, 97, 62] : List UInt8)) aj (by kernel_rfl) rfl rfl (by decide) rfl rfl) ?_;rintro _ _ ⟨t2, rfl, rfl⟩;refine zR rfl (nE 0 aj dc rfl (by simp) rfl) <| am rfl rfl (aG rfl sM rfl (lK F ([60, 97, 32, 98, 61, 34, 49, 34, 62, 120, 38, 97, 109, 112, 59, 60] ++ [99, 47, 62, 60, 47, 97, 62] : List UInt8) (some t2) x3 x4 e5) ?_);refine zS rfl (ag (av := .tup _) rfl) <| zS rfl (aJ (av := slE _ _ _) rfl rfl) <| zS rfl (aJ (av := .v _) rfl rfl) <| zS rfl (aK (av := slE _ _ _) rfl) <| za rfl <| ai <| ac <| aa ?_;show AR _ _ _ _ _ [0, 1, 2, 3, 4, 5, 6, 7, 8] _
 refine zS rfl (eO (zs := [.string ⟨#[]⟩, .string ⟨#[]⟩]) (ps := [(0, 1), (1, 1)]) (cs := [S ([98] : List UInt8), S ([49] : List UInt8)]) (by kernel_rfl) rfl rfl) <| zR rfl (dy (E := (ab Enc.str Enc.str)) (bytes := 32) (zs := [.string ⟨#[]⟩, .string ⟨#[]⟩]) (l := ([(([98] : List UInt8), ([49] : List UInt8))] : List ((List UInt8) × List UInt8))) aM (by kernel_rfl) (by kernel_rfl) rfl rfl rfl rfl rfl) <| zS rfl (eO (zs := [.int .i64 0, .string ⟨#[]⟩, .string ⟨#[]⟩, .slice none 0 0]) (ps := [(0, 1), (1, 1), (2, 1), (3, 1)]) (cs := [i64 0, S ([97] : List UInt8), S ([] : List UInt8), slE (ab Enc.str Enc.str) ([(([98] : List UInt8), ([49] : List UInt8))] : List ((List UInt8) × List UInt8)) none]) (by kernel_rfl) rfl rfl) <| zS rfl (eO (zs := [.int .i64 0, .string ⟨#[]⟩, .string ⟨#[]⟩, .slice none 0 0]) (ps := [(0, 1), (1, 1), (2, 1), (3, 1)]) (cs := [i64 2, S ([] : List UInt8), S ([120, 38] : List UInt8), fp]) (by kernel_rfl) rfl rfl) <| zS rfl (eO (zs := [.int .i64 0, .string ⟨#[]⟩, .string ⟨#[]⟩, .slice none 0 0]) (ps := [(0, 1), (1, 1), (2, 1), (3, 1)]) (cs := [i64 0, S ([99] : List UInt8), S ([] : List UInt8), fp]) (by kernel_rfl) rfl rfl) <| zS rfl (eO (zs := [.int .i64 0, .string ⟨#[]⟩, .string ⟨#[]⟩, .slice none 0 0]) (ps := [(0, 1), (1, 1), (2, 1), (3, 1)]) (cs := [i64 1, S ([99] : List UInt8), S ([] : List UInt8), fp]) (by kernel_rfl) rfl rfl) <| zS rfl (eO (zs := [.int .i64 0, .string ⟨#[]⟩, .string ⟨#[]⟩, .slice none 0 0]) (ps := [(0, 1), (1, 1), (2, 1), (3, 1)]) (cs := [i64 1, S ([97] : List UInt8), S ([] : List UInt8), fp]) (by kernel_rfl) rfl rfl) <| zR rfl (dU (ds := [i64 2, S ([] : List UInt8), S ([120, 38] : List UInt8), slE (ab Enc.str Enc.str) ([] : List ((List UInt8) × List UInt8)) none]) 14 (.cons (.refl _) (.cons (.refl _) (.cons (.refl _) (.cons (.nil _) (.nil))))) (hc := rfl) <| dU (ds := [i64 0, S ([99] : List UInt8), S ([] : List UInt8), slE (ab Enc.str Enc.str) ([] : List ((List UInt8) × List UInt8)) none]) 15 (.cons (.refl _) (.cons (.refl _) (.cons (.refl _) (.cons (.nil _) (.nil))))) (hc := rfl) <| dU (ds := [i64 1, S ([99] : List UInt8), S ([] : List UInt8), slE (ab Enc.str Enc.str) ([] : List ((List UInt8) × List UInt8)) none]) 16 (.cons (.refl _) (.cons (.refl _) (.cons (.refl _) (.cons (.nil _) (.nil))))) (hc := rfl) <| dU (ds := [i64 1, S ([97] : List UInt8), S ([] : List UInt8), slE (ab Enc.str Enc.str) ([] : List ((List UInt8) × List UInt8)) none]) 17 (.cons (.refl _) (.cons (.refl _) (.cons (.refl _) (.cons (.nil _) (.nil))))) (hc := rfl) <| dy (E := (ab Enc.int (ab Enc.str (ab Enc.str (Enc.sl (ab Enc.str Enc.str)))))) (bytes := 64) (zs := [.int .i64 0, .string ⟨#[]⟩, .string ⟨#[]⟩, .slice none 0 0]) (l := ([(0, ([97] : List UInt8), ([] : List UInt8), ([(([98] : List UInt8), ([49] : List UInt8))] : List ((List UInt8) × List UInt8))), (2, ([] : List UInt8), ([120, 38] : List UInt8), ([] : List ((List UInt8) × List UInt8))), (0, ([99] : List UInt8), ([] : List UInt8), ([] : List ((List UInt8) × List UInt8))), (1, ([99] : List UInt8), ([] : List UInt8), ([] : List ((List UInt8) × List UInt8))), (1, ([97] : List UInt8), ([] : List UInt8), ([] : List ((List UInt8) × List UInt8)))] : List (Int × (List UInt8) × (List UInt8) × List ((List UInt8) × List UInt8)))) au (by kernel_rfl) (by kernel_rfl) rfl rfl rfl rfl rfl) <| zS rfl (aK (av := slE _ _ _) rfl) <| ai <| ac ?_
 obtain ⟨x6, e7, H⟩ := ew H;refine aa ?_;show AR _ _ _ _ _ [0, 1, 2, 3] _;refine zS rfl (ag (av := slE _ _ _) rfl) <| zS rfl (ag (av := slE _ _ _) rfl) <| am rfl rfl (aG rfl sK rfl (oX F x3 none ([(0, ([97] : List UInt8), ([] : List UInt8), ([(([98] : List UInt8), ([49] : List UInt8))] : List ((List UInt8) × List UInt8))), (2, ([] : List UInt8), ([120, 38] : List UInt8), ([] : List ((List UInt8) × List UInt8))), (0, ([99] : List UInt8), ([] : List UInt8), ([] : List ((List UInt8) × List UInt8))), (1, ([99] : List UInt8), ([] : List UInt8), ([] : List ((List UInt8) × List UInt8))), (1, ([97] : List UInt8), ([] : List UInt8), ([] : List ((List UInt8) × List UInt8)))] : List (Int × (List UInt8) × (List UInt8) × List ((List UInt8) × List UInt8))) none x6 e7) ?_);refine za rfl <| ai <| ac ?_;obtain ⟨x10, e11, H⟩ := eL H;obtain ⟨x13, e14, H⟩ := eL H;obtain ⟨x16, e17, H⟩ := eL H;refine aa ?_;show AR _ _ _ _ _ [0, 1, 2, 3, 4, 5, 6, 7, 8, 9, 10, 11, 12, 13, 14, 15, 16, 17] _;refine zm rfl <| zS rfl (bH rfl rfl) <| zm rfl <| aY (l := [5, 6, 7, 8, 9, 10, 11, 12, 13, 14, 15, 16, 17]) 26 (B ((decide (x4 = 0)) && x6)) (fun K => ?_) ?_
 ·rcases ak (decide (x4 = 0)) with h8 | h8
  ·refine zM h8 rfl <| zS rfl (aE (av := .v _) rfl h8 rfl) ?_;exact K _ 1 _ (ay (cx h8)) rfl rfl
  ·refine zF h8 rfl <| zS rfl (aF (av := .v _) rfl h8 rfl) ?_;exact K _ 1 _ (ay (cy h8)) rfl rfl
 refine zm rfl <| aY (l := [8, 9, 10, 11, 12, 13, 14, 15, 16, 17]) 29 (B (((decide (x4 = 0)) && x6) && x10)) (fun K => ?_) ?_
 ·rcases ak ((decide (x4 = 0)) && x6) with h9 | h9
  ·refine zT h9 rfl (aG rfl sC rfl (lw F ([97, 58, 98] : List UInt8) x10 (e11 h9)) ?_);refine zS rfl (aE (av := .v _) rfl h9 rfl) ?_;exact K _ 1 _ (ay (cx h9)) rfl rfl
  ·refine zF h9 rfl <| zS rfl (aF (av := .v _) rfl h9 rfl) ?_;exact K _ 1 _ (ay (cy h9)) rfl rfl
 refine zm rfl <| aY (l := [12, 13, 14, 15, 16, 17]) 33 (B ((((decide (x4 = 0)) && x6) && x10) && (decide (x13 = ([98] : List UInt8))))) (fun K => ?_) ?_
 ·rcases ak (((decide (x4 = 0)) && x6) && x10) with h12 | h12
  ·refine zT h12 rfl (aG rfl sB rfl (qH F ([97, 58, 98] : List UInt8) x13 (e14 h12)) ?_);refine zU h12 rfl (eo rfl rfl) <| zS rfl (aE (av := .v _) rfl h12 rfl) ?_;exact K _ 2 _ (ay (cx h12)) rfl rfl
  ·refine zF h12 rfl <| zF h12 rfl <| zS rfl (aF (av := .v _) rfl h12 rfl) ?_;exact K _ 2 _ (ay (cy h12)) rfl rfl
 refine zm rfl <| aY (l := [17]) 38 (B (((((decide (x4 = 0)) && x6) && x10) && (decide (x13 = ([98] : List UInt8)))) && x16)) (fun K => ?_) ?_
 ·rcases ak ((((decide (x4 = 0)) && x6) && x10) && (decide (x13 = ([98] : List UInt8)))) with h15 | h15
  ·refine zU h15 rfl (ag (av := slE _ _ _) rfl) <| zU h15 rfl (ag (av := slE _ _ _) rfl) <| zT h15 rfl (aG rfl sI rfl (rR F x3 none ([(0, ([97] : List UInt8), ([] : List UInt8), ([(([98] : List UInt8), ([49] : List UInt8))] : List ((List UInt8) × List UInt8))), (2, ([] : List UInt8), ([120, 38] : List UInt8), ([] : List ((List UInt8) × List UInt8))), (0, ([99] : List UInt8), ([] : List UInt8), ([] : List ((List UInt8) × List UInt8))), (1, ([99] : List UInt8), ([] : List UInt8), ([] : List ((List UInt8) × List UInt8))), (1, ([97] : List UInt8), ([] : List UInt8), ([] : List ((List UInt8) × List UInt8)))] : List (Int × (List UInt8) × (List UInt8) × List ((List UInt8) × List UInt8))) none x16 (e17 h15)) ?_);refine zS rfl (aE (av := .v _) rfl h15 rfl) ?_;exact K _ 3 _ (ay (cx h15)) rfl rfl
  ·refine zF h15 rfl <| zF h15 rfl <| zF h15 rfl <| zS rfl (aF (av := .v _) rfl h15 rfl) ?_;exact K _ 3 _ (ay (cy h15)) rfl rfl
 refine za rfl <| ai <| aI ?_;obtain rfl := al H;exact And.intro rfl (Exists.intro _ (Exists.intro _ ⟨aC rfl (.refl _), aH [] rfl, rfl, rfl⟩))
end Go.Proofs.YteokdkimegepoaaGreatDoor
namespace Go.Pv
def dh (x8 : List (Int × (List UInt8) × (List UInt8) × List ((List UInt8) × List UInt8))) (y51 : List (List UInt8)) : Option Bool :=
ee ((decide ((y51.length : Int) = 0)) && (decide (2 ≤ (x8.length : Int)))) (cD 0 x8.length) <|
lt (at_ x8 0) fun x57 =>
some (((decide ((y51.length : Int) = 0)) && (decide (2 ≤ (x8.length : Int)))) && (decide (x57.1 = 0)))
def bW (y15 : Int) (rec16 : ((List (List UInt8)) × Int) → Option Bool) (y46 : List (List UInt8)) : Option Bool :=
bif decide (20 < (y46.length : Int)) then
  some false
else
  grd (okI (y15 + 1)) <|
  rec16 (y46, y15 + 1)
def di (x8 : List (Int × (List UInt8) × (List UInt8) × List ((List UInt8) × List UInt8))) (rec16 : ((List (List UInt8)) × Int) → Option Bool) (y13 : List (List UInt8)) (y15 : Int) : Option Bool :=
bif decide (y15 < (x8.length : Int)) then
  grd (cD y15 x8.length) <|
  lt (at_ x8 y15) fun x20 =>
  bif (decide (0 < y15)) && (decide ((y13.length : Int) = 0)) then
    some false
  else
    bif decide (x20.1 = 0) then
      grd (gX (y13.length + ([x20.2.1] : List (List UInt8)).length)) <|
      lt (y13 ++ ([x20.2.1] : List (List UInt8))) fun x28 =>
      bW y15 rec16 x28
    else
      bif decide (x20.1 = 1) then
        ee (!(decide ((y13.length : Int) = 0))) (okI ((y13.length : Int) - 1)) <|
        ee (!(decide ((y13.length : Int) = 0))) (cD ((y13.length : Int) - 1) y13.length) <|
        lt (at_ y13 ((y13.length : Int) - 1)) fun x34 =>
        bif (decide ((y13.length : Int) = 0)) || (!decide (x34 = x20.2.1)) then
          some false
        else
          grd (okI ((y13.length : Int) - 1)) <|
          grd (hM ((y13.length : Int) - 1) y13.length) <|
          lt (to_ y13 ((y13.length : Int) - 1)) fun x39 =>
          grd (gX x39.length) <|
          bW y15 rec16 x39
      else
        bif ((!decide (x20.1 = 2)) || (decide (x20.2.2.1 = ([] : List UInt8)))) || (decide ((y13.length : Int) = 0)) then
          some false
        else
          bW y15 rec16 y13
else
  dh x8 y13
def bX (x8 : List (Int × (List UInt8) × (List UInt8) × List ((List UInt8) × List UInt8))) (n : Nat) : ((List (List UInt8)) × Int) → Option Bool :=
  loop (fun rec x => di x8 rec x.1 x.2) n
def eY (F : Nat) (a1 : List UInt8) : Option Bool :=
bnd (hZ F) fun x4 =>
bif (!x4) || (decide (2000 < (a1.length : Int))) then
  some x4
else
  gD (gM F a1) fun x8 x9 =>
  bif !decide (x9 = 0) then
    some (decide ((x8.length : Int) = 0))
  else
    bX x8 F ([], 0)
end Go.Pv
namespace Go.Proofs.YteokdkimegepoaaGreatDoor
open Go.RowKit Go.Av Go.Pv
theorem mM : ∀ (args : Array Value) (w : World), (callFunc 9 args).run Tryz.prog w = .ok (.enter 9 args) w := fun _ _ => by kernel_rfl
theorem ml : ∀ (args : Array Value) (w : World), (callFunc 10 args).run Tryz.prog w = .ok (.enter 10 args) w := fun _ _ => by kernel_rfl
set_option maxRecDepth 100000 in
set_option maxHeartbeats 1000000 in
theorem kF (F : Nat) (a1 : List UInt8) (q2 : Option Nat) (r3 : Bool) (H : eY F a1 = some r3) : ACalls Tryz.prog 4 [slE Enc.byte a1 q2] [] (Ret (B r3) []) := by
 unfold eY at H
 refine aw Tryz.func4 rfl rfl ?_;show AW _ _ 107 _ _ _;refine ac <| aa ?_;show AR _ _ _ _ _ [0] _;refine za rfl <| ai <| ac ?_;obtain ⟨x4, e5, H⟩ := ew H;refine aa ?_;show AR _ _ _ _ _ [0, 1] _;refine am rfl rfl (aG rfl mM rfl (nx F x4 e5) ?_);refine za rfl <| ai <| ac <| ac <| aa ?_;show AR _ _ _ _ _ [0, 1, 2, 3, 4, 5, 6] _;refine zm rfl <| zS rfl (ci rfl) <| zm rfl <| aY (l := []) 16 (B ((!x4) || (decide (2000 < (a1.length : Int))))) (fun K => ?_) ?_
 ·rcases ak (!x4) with h6 | h6
  ·refine zF h6 rfl <| zF h6 rfl <| zF h6 rfl <| zS rfl (aE (av := .v _) rfl h6 rfl) ?_;exact K _ 3 _ (ay (jw h6)) rfl rfl
  ·refine zU h6 rfl (ag (av := slE _ _ _) rfl) <| zU h6 rfl (aO aj rfl) <| zU h6 rfl (fO rfl rfl) <| zS rfl (aF (av := .v _) rfl h6 rfl) ?_;exact K _ 3 _ (ay (jx h6)) rfl rfl
 refine ai <| ax rfl (fun c7 => ?_) (fun c7 => ?_)
 ·replace H := aW c7 H;refine ac <| aa ?_;show AR _ _ _ _ _ [0, 1] _;refine zm rfl <| za rfl <| ai <| aI ?_;obtain rfl := al H;exact And.intro rfl (Exists.intro _ (Exists.intro _ ⟨aC rfl (.refl _), aH [] rfl, rfl, rfl⟩))
 ·replace H := aX c7 H;refine aB <| ac ?_;obtain ⟨x8, x9, e10, H⟩ := cY H;refine aa ?_;show AR _ _ _ _ _ [0, 1, 2, 3, 4, 5, 6] _;refine zS rfl (ag (av := slE _ _ _) rfl) <| am rfl rfl (aG rfl ml rfl (lK F a1 q2 x8 x9 e10) ?_);refine zS rfl (ag (av := .tup _) rfl) <| zS rfl (aJ (av := slE _ _ _) rfl rfl) <| zS rfl (aJ (av := .v _) rfl rfl) <| zS rfl (aK (av := slE _ _ _) rfl) <| za rfl <| ai <| ac <| ac <| aa ?_;show AR _ _ _ _ _ [0, 1] _;refine zm rfl <| zS rfl (gm rfl rfl) <| ai <| ax rfl (fun c11 => ?_) (fun c11 => ?_)
  ·replace H := aW c11 H;refine ac <| aa ?_;show AR _ _ _ _ _ [0, 1, 2, 3] _;refine zS rfl (ag (av := slE _ _ _) rfl) <| zS rfl (aO au rfl) <| zS rfl (bH rfl rfl) <| za rfl <| ai <| aI ?_;obtain rfl := al H;exact And.intro rfl (Exists.intro _ (Exists.intro _ ⟨aC rfl (.refl _), aH [] rfl, rfl, rfl⟩))
  ·replace H := aX c11 H;refine aB <| ac <| aa ?_;show AR _ _ _ _ _ [0] _;refine za rfl <| ai ?_
   refine kT 6 1 9 rfl fun t12 => ?_
   show AW _ _ _ _ _ ⟨(6, slE Enc.str [] (some t12)) :: _, _, _⟩;refine bR (X := (List (List UInt8)) × Nat) (fun (y51, t52) => ⟨[(4, slE (ab Enc.int (ab Enc.str (ab Enc.str (Enc.sl (ab Enc.str Enc.str))))) x8 none), (6, slE Enc.str y51 (some t52))], [], [.tok t52 9]⟩) (fun (y51, t52) => dh x8 y51 = some r3) ?_ ?_
   ·refine ac <| aa ?_;show AR _ _ _ _ _ [0] _;refine za rfl <| ai <| aP <| cW (X := Nat × (List (List UInt8)) × Nat × Int) (fun (n17, y13, t14, y15) => ⟨[(4, slE (ab Enc.int (ab Enc.str (ab Enc.str (Enc.sl (ab Enc.str Enc.str))))) x8 none), (6, slE Enc.str y13 (some t14)), (7, i64 y15)], [], [.tok t14 9]⟩) (fun (n17, y13, t14, y15) => bX x8 n17 (y13, y15) = some r3) (fun (n17, y13, t14, y15) => n17) (F, [], t12, 0) H (be [0] (.cons (.refl _) (.cons (.refl _) (.cons (.refl _) (.nil _)))) rfl) ?_;rintro ⟨n17, y13, t14, y15⟩ H;obtain ⟨n17, rfl, H⟩ := eu H;replace H : di x8 (bX x8 n17) y13 y15 = some r3 := H
    unfold di at H
    refine ac <| ac <| aa ?_;show AR _ _ _ _ _ [0, 1, 2, 3] _;refine zm rfl <| zS rfl (ag (av := slE _ _ _) rfl) <| zS rfl (aO au rfl) <| zS rfl (bZ rfl rfl) <| ai <| ax rfl (fun c18 => ?_) (fun c18 => ?_)
    ·replace H := aW c18 H;refine aB <| ac <| aP <| ac ?_;obtain ⟨g19, H⟩ := aV H;obtain ⟨x20, e21, H⟩ := bK H;refine aa ?_;show AR _ _ _ _ _ [0, 1, 2, 3, 4, 5] _;refine zS rfl (ag (av := slE _ _ _) rfl) <| zm rfl <| zS rfl (bw (E := (ab Enc.int (ab Enc.str (ab Enc.str (Enc.sl (ab Enc.str Enc.str)))))) au (by kernel_rfl) rfl rfl g19 e21) <| zS rfl (ca cP rfl (n := 4) (by kernel_rfl) rfl (af rfl)) <| zX rfl (dK (zs := [.int .i64 0, .string ⟨#[]⟩, .string ⟨#[]⟩, .slice none 0 0]) (by kernel_rfl)) ?_;rintro _ _ ⟨o22, rfl, rfl⟩;refine s0 rfl rfl (cI (i := 0) (vs := [i64 x20.1, S x20.2.1, S x20.2.2.1, slE (ab Enc.str Enc.str) x20.2.2.2 none]) (by kernel_rfl) rfl rfl (by simp [cd, slE]) rfl (af rfl)) <| AR.freezeCp 8 0 rfl rfl ?_;show AR _ _ _ _ _ _ ⟨_, _, [.tok t14 9]⟩;refine ai <| ac <| ac <| aa ?_;show AR _ _ _ _ _ [0, 1, 2, 3, 4, 5, 6] _;refine zm rfl <| zS rfl (fO rfl rfl) <| zm rfl <| aY (l := []) 44 (B ((decide (0 < y15)) && (decide ((y13.length : Int) = 0)))) (fun K => ?_) ?_
     ·rcases ak (decide (0 < y15)) with h23 | h23
      ·refine zU h23 rfl (ag (av := slE _ _ _) rfl) <| zU h23 rfl (aO ap rfl) <| zU h23 rfl (bH rfl rfl) <| zS rfl (aE (av := .v _) rfl h23 rfl) ?_;exact K _ 3 _ (ay (cx h23)) rfl rfl
      ·refine zF h23 rfl <| zF h23 rfl <| zF h23 rfl <| zS rfl (aF (av := .v _) rfl h23 rfl) ?_;exact K _ 3 _ (ay (cy h23)) rfl rfl
     refine ai <| ax rfl (fun c24 => ?_) (fun c24 => ?_)
     ·replace H := aW c24 H;refine ac <| aa ?_;show AR _ _ _ _ _ [0] _;refine za rfl <| ai <| aI ?_;obtain rfl := al H;exact And.intro rfl (Exists.intro _ (Exists.intro _ ⟨aC rfl (.refl _), aH [] rfl, rfl, rfl⟩))
     ·replace H := aX c24 H;refine aB <| bR (X := (List (List UInt8)) × Nat) (fun (y46, t47) => ⟨[(4, slE (ab Enc.int (ab Enc.str (ab Enc.str (Enc.sl (ab Enc.str Enc.str))))) x8 none), (6, slE Enc.str y46 (some t47)), (7, i64 y15)], [], [.tok t47 9]⟩) (fun (y46, t47) => bW y15 (bX x8 n17) y46 = some r3) ?_ ?_
      ·refine ac <| aa ?_;show AR _ _ _ _ _ [0, 1] _;refine zS rfl (aN (n := 0) (by kernel_rfl) rfl (af rfl)) <| zS rfl (aL bD rfl rfl) <| ai <| aP <| ac <| aa ?_;show AR _ _ _ _ _ [0, 1] _;refine zS rfl (bH rfl rfl) <| za rfl <| ai <| ax rfl (fun c25 => ?_) (fun c25 => ?_)
       ·replace H := aW c25 H;obtain ⟨g27, H⟩ := aV H;obtain ⟨x28, e29, H⟩ := bK H;refine aa ?_;show AR _ _ _ _ _ [0, 1, 2, 3, 4, 5] _;refine zS rfl (ag (av := slE _ _ _) rfl) <| zS rfl (aN (n := 1) (by kernel_rfl) rfl (af rfl)) <| zS rfl (aL ah rfl rfl) <| zR rfl (fS (E := Enc.str) (bytes := 16) (xs := [.tmp 64]) (l := ([x20.2.1] : List (List UInt8))) ap (by kernel_rfl) rfl rfl (by decide) rfl rfl) <| zX rfl (gr (E := Enc.str) (bytes := 16) 0 ap ap rfl (by kernel_rfl) rfl rfl rfl rfl g27 e29) ?_;rintro _ _ ⟨t26, rfl, rfl⟩;refine zS rfl (aK (av := slE _ _ _) rfl) <| ai ?_;exact Exists.intro (x28, t26) ⟨H, be [0] (.cons (.refl _) (.cons (.refl _) (.cons (.refl _) (.nil _)))) rfl⟩
       ·replace H := aX c25 H;refine ac <| aa ?_;show AR _ _ _ _ _ [0, 1] _;refine zS rfl (bH rfl rfl) <| za rfl <| ai <| ax rfl (fun c30 => ?_) (fun c30 => ?_)
        ·replace H := aW c30 H;refine ac <| ac ?_;obtain ⟨g32, H⟩ := cr H;obtain ⟨g33, H⟩ := cr H;obtain ⟨x34, e35, H⟩ := bK H;refine bE (by kernel_rfl) ?_;show AI _ _ _ _ _ 14 (Array.replicate 14 false) _;refine zk 0 rfl (ag (av := slE _ _ _) rfl) ?_;show AI _ _ _ _ _ _ #[true, false, false, false, false, false, false, false, false, false, false, false, false, false] _;refine zk 1 rfl (aO ap rfl) ?_;show AI _ _ _ _ _ _ #[true, true, false, false, false, false, false, false, false, false, false, false, false, false] _;refine zk 2 rfl (bH rfl rfl) ?_;show AI _ _ _ _ _ _ #[true, true, true, false, false, false, false, false, false, false, false, false, false, false] _;refine zk 3 rfl (mv rfl) ?_;show AI _ _ _ _ _ _ #[true, true, true, true, false, false, false, false, false, false, false, false, false, false] _;refine AI.meet 0 #[true, true, true, true, true, true, true, true, true, true, true, true, true, true] 82 (B ((decide ((y13.length : Int) = 0)) || (!decide (x34 = x20.2.1)))) (fun K13 => ?_) ?_
         ·refine jP (t := 72) rfl (fun h31 => ?_) (fun h31 => ?_)
          ·refine bg (i := 4) rfl rfl (by kernel_rfl) (by kernel_rfl) (by kernel_rfl) rfl rfl rfl (fun _ _ h => h) h31 ?_;show AI _ _ _ _ _ _ #[true, true, true, true, true, false, false, false, false, false, false, false, false, false] _;refine bg (i := 5) rfl rfl (by kernel_rfl) (by kernel_rfl) (by kernel_rfl) rfl rfl rfl (fun _ _ h => h) h31 ?_;show AI _ _ _ _ _ _ #[true, true, true, true, true, true, false, false, false, false, false, false, false, false] _;refine bg (i := 6) rfl rfl (by kernel_rfl) (by kernel_rfl) (by kernel_rfl) rfl rfl rfl (fun _ _ h => h) h31 ?_;show AI _ _ _ _ _ _ #[true, true, true, true, true, true, true, false, false, false, false, false, false, false] _;refine bg (i := 7) rfl rfl (by kernel_rfl) (by kernel_rfl) (by kernel_rfl) rfl rfl rfl (fun _ _ h => h) h31 ?_;show AI _ _ _ _ _ _ #[true, true, true, true, true, true, true, true, false, false, false, false, false, false] _;refine bg (i := 8) rfl rfl (by kernel_rfl) (by kernel_rfl) (by kernel_rfl) rfl rfl rfl (fun _ _ h => h) h31 ?_;show AI _ _ _ _ _ _ #[true, true, true, true, true, true, true, true, true, false, false, false, false, false] _;refine bg (i := 9) rfl rfl (by kernel_rfl) (by kernel_rfl) (by kernel_rfl) rfl rfl rfl (fun _ _ h => h) h31 ?_;show AI _ _ _ _ _ _ #[true, true, true, true, true, true, true, true, true, true, false, false, false, false] _;refine bg (i := 10) rfl rfl (by kernel_rfl) (by kernel_rfl) (by kernel_rfl) rfl rfl rfl (fun _ _ h => h) h31 ?_
           show AI _ _ _ _ _ _ #[true, true, true, true, true, true, true, true, true, true, true, false, false, false] _;refine bg (i := 11) rfl rfl (by kernel_rfl) (by kernel_rfl) (by kernel_rfl) rfl rfl rfl (fun _ _ h => h) h31 ?_;show AI _ _ _ _ _ _ #[true, true, true, true, true, true, true, true, true, true, true, true, false, false] _;refine bg (i := 12) rfl rfl (by kernel_rfl) (by kernel_rfl) (by kernel_rfl) rfl rfl rfl (fun _ _ h => h) h31 ?_;show AI _ _ _ _ _ _ #[true, true, true, true, true, true, true, true, true, true, true, true, true, false] _;refine zk 13 rfl (cU (av' := B ((decide ((y13.length : Int) = 0)) || (!decide (x34 = x20.2.1)))) (aE (av := .v _) rfl h31 rfl) (ay (jw h31))) ?_;show AI _ _ _ _ _ _ #[true, true, true, true, true, true, true, true, true, true, true, true, true, true] _;exact K13 _ 9 rfl rfl
          ·refine bf (i := 4) rfl rfl (by kernel_rfl) (by kernel_rfl) (by kernel_rfl) rfl rfl rfl (fun _ _ h => h) h31 (ag (av := slE _ _ _) rfl) ?_;show AI _ _ _ _ _ _ #[true, true, true, true, true, false, false, false, false, false, false, false, false, false] _;refine bf (i := 5) rfl rfl (by kernel_rfl) (by kernel_rfl) (by kernel_rfl) rfl rfl rfl (fun _ _ h => h) h31 (ag (av := slE _ _ _) rfl) ?_;show AI _ _ _ _ _ _ #[true, true, true, true, true, true, false, false, false, false, false, false, false, false] _;refine bf (i := 6) rfl rfl (by kernel_rfl) (by kernel_rfl) (by kernel_rfl) rfl rfl rfl (fun _ _ h => h) h31 (aO ap rfl) ?_;show AI _ _ _ _ _ _ #[true, true, true, true, true, true, true, false, false, false, false, false, false, false] _;refine bf (i := 7) rfl rfl (by kernel_rfl) (by kernel_rfl) (by kernel_rfl) rfl rfl rfl (fun _ _ h => h) h31 (nq rfl rfl (g32 (nf h31))) ?_;show AI _ _ _ _ _ _ #[true, true, true, true, true, true, true, true, false, false, false, false, false, false] _;refine bf (i := 8) rfl rfl (by kernel_rfl) (by kernel_rfl) (by kernel_rfl) rfl rfl rfl (fun _ _ h => h) h31 (bw (E := Enc.str) ap (by kernel_rfl) rfl rfl (g33 (nf h31)) e35) ?_;show AI _ _ _ _ _ _ #[true, true, true, true, true, true, true, true, true, false, false, false, false, false] _;refine bf (i := 9) rfl rfl (by kernel_rfl) (by kernel_rfl) (by kernel_rfl) rfl rfl rfl (fun _ _ h => h) h31 (aL ah rfl rfl) ?_
           show AI _ _ _ _ _ _ #[true, true, true, true, true, true, true, true, true, true, false, false, false, false] _;refine bf (i := 10) rfl rfl (by kernel_rfl) (by kernel_rfl) (by kernel_rfl) rfl rfl rfl (fun _ _ h => h) h31 (aN (n := 1) (by kernel_rfl) rfl (af rfl)) ?_;show AI _ _ _ _ _ _ #[true, true, true, true, true, true, true, true, true, true, true, false, false, false] _;refine bf (i := 11) rfl rfl (by kernel_rfl) (by kernel_rfl) (by kernel_rfl) rfl rfl rfl (fun _ _ h => h) h31 (aL ah rfl rfl) ?_;show AI _ _ _ _ _ _ #[true, true, true, true, true, true, true, true, true, true, true, true, false, false] _;refine bf (i := 12) rfl rfl (by kernel_rfl) (by kernel_rfl) (by kernel_rfl) rfl rfl rfl (fun _ _ h => h) h31 (jW rfl rfl) ?_;show AI _ _ _ _ _ _ #[true, true, true, true, true, true, true, true, true, true, true, true, true, false] _;refine zk 13 rfl (cU (av' := B ((decide ((y13.length : Int) = 0)) || (!decide (x34 = x20.2.1)))) (aF (av := .v _) rfl h31 rfl) (ay (jx h31))) ?_;show AI _ _ _ _ _ _ #[true, true, true, true, true, true, true, true, true, true, true, true, true, true] _;exact K13 _ 9 rfl rfl
         refine co rfl <| ax rfl (fun c36 => ?_) (fun c36 => ?_)
         ·replace H := aW c36 H;refine ac <| aa ?_;show AR _ _ _ _ _ [0] _;refine za rfl <| ai <| aI ?_;obtain rfl := al H;exact And.intro rfl (Exists.intro _ (Exists.intro _ ⟨aC rfl (.refl _), aH [] rfl, rfl, rfl⟩))
         ·replace H := aX c36 H;refine aB ?_;obtain ⟨g37, H⟩ := aV H;obtain ⟨g38, H⟩ := aV H;obtain ⟨x39, e40, H⟩ := bK H;obtain ⟨g42, H⟩ := aV H;refine aa ?_;show AR _ _ _ _ _ [0, 1, 2, 3, 4, 5, 6] _;refine zS rfl (ag (av := slE _ _ _) rfl) <| zS rfl (ag (av := slE _ _ _) rfl) <| zS rfl (aO ap rfl) <| zS rfl (nq rfl rfl g37) <| zS rfl (g_to_sl (E := Enc.str) ap (by kernel_rfl) rfl rfl g38 e40) <| zX rfl (pg (E := Enc.str) (bytes := 16) ap ap rfl (by kernel_rfl) rfl rfl rfl g42) ?_;rintro _ _ ⟨t41, rfl, rfl⟩;refine zS rfl (aK (av := slE _ _ _) rfl) <| ai ?_;exact Exists.intro (x39, t41) ⟨H, be [0] (.cons (.refl _) (.cons (.refl _) (.cons (.refl _) (.nil _)))) rfl⟩
        ·replace H := aX c30 H;refine ac <| aa ?_;show AR _ _ _ _ _ [0, 1, 2, 3, 4, 5, 6, 7, 8, 9, 10, 11, 12] _;refine zS rfl (aN (n := 0) (by kernel_rfl) rfl (af rfl)) <| zS rfl (aL bD rfl rfl) <| zS rfl (gm rfl rfl) <| zm rfl <| aY (l := [8, 9, 10, 11, 12]) 54 (B ((!decide (x20.1 = 2)) || (decide (x20.2.2.1 = ([] : List UInt8))))) (fun K => ?_) ?_
         ·rcases ak (!decide (x20.1 = 2)) with h43 | h43
          ·refine zF h43 rfl <| zF h43 rfl <| zF h43 rfl <| zS rfl (aE (av := .v _) rfl h43 rfl) ?_;exact K _ 3 _ (ay (jw h43)) rfl rfl
          ·refine zU h43 rfl (aN (n := 2) (by kernel_rfl) rfl (af rfl)) <| zU h43 rfl (aL ah rfl rfl) <| zU h43 rfl (eo rfl rfl) <| zS rfl (aF (av := .v _) rfl h43 rfl) ?_;exact K _ 3 _ (ay (jx h43)) rfl rfl
         refine zm rfl <| aY (l := []) 59 (B (((!decide (x20.1 = 2)) || (decide (x20.2.2.1 = ([] : List UInt8)))) || (decide ((y13.length : Int) = 0)))) (fun K => ?_) ?_
         ·rcases ak ((!decide (x20.1 = 2)) || (decide (x20.2.2.1 = ([] : List UInt8)))) with h44 | h44
          ·refine zF h44 rfl <| zF h44 rfl <| zF h44 rfl <| zS rfl (aE (av := .v _) rfl h44 rfl) ?_;exact K _ 3 _ (ay (jw h44)) rfl rfl
          ·refine zU h44 rfl (ag (av := slE _ _ _) rfl) <| zU h44 rfl (aO ap rfl) <| zU h44 rfl (bH rfl rfl) <| zS rfl (aF (av := .v _) rfl h44 rfl) ?_;exact K _ 3 _ (ay (jx h44)) rfl rfl
         refine ai <| ax rfl (fun c45 => ?_) (fun c45 => ?_)
         ·replace H := aW c45 H;refine ac <| aa ?_;show AR _ _ _ _ _ [0] _;refine za rfl <| ai <| aI ?_;obtain rfl := al H;exact And.intro rfl (Exists.intro _ (Exists.intro _ ⟨aC rfl (.refl _), aH [] rfl, rfl, rfl⟩))
         ·replace H := aX c45 H;refine aB ?_;exact Exists.intro (y13, t14) ⟨H, be [0] (.cons (.refl _) (.cons (.refl _) (.cons (.refl _) (.nil _)))) rfl⟩
      rintro ⟨y46, t47⟩ H;replace H : bW y15 (bX x8 n17) y46 = some r3 := H
      unfold bW at H
      refine ac <| aa ?_;show AR _ _ _ _ _ [0, 1, 2] _;refine zS rfl (ag (av := slE _ _ _) rfl) <| zS rfl (aO ap rfl) <| zS rfl (fO rfl rfl) <| ai <| ax rfl (fun c49 => ?_) (fun c49 => ?_)
      ·replace H := aW c49 H;refine ac <| aa ?_;show AR _ _ _ _ _ [0] _;refine za rfl <| ai <| aI ?_;obtain rfl := al H;exact And.intro rfl (Exists.intro _ (Exists.intro _ ⟨aC rfl (.refl _), aH [] rfl, rfl, rfl⟩))
      ·replace H := aX c49 H;refine aB ?_;obtain ⟨g50, H⟩ := aV H;refine aa ?_;show AR _ _ _ _ _ [0, 1, 2] _;refine zm rfl <| zS rfl (eI rfl rfl g50) <| za rfl <| ai ?_;exact Exists.intro (n17, y46, t47, y15 + 1) ⟨H, Nat.lt_succ_self _, be [0] (.cons (.refl _) (.cons (.refl _) (.cons (.refl _) (.nil _)))) rfl⟩
    ·replace H := aX c18 H;refine cA ?_;exact Exists.intro (y13, t14) ⟨H, be [0] (.cons (.refl _) (.cons (.refl _) (.nil _))) rfl⟩
   rintro ⟨y51, t52⟩ H;replace H : dh x8 y51 = some r3 := H
   unfold dh at H
   refine ac ?_;obtain ⟨g56, H⟩ := cr H;obtain ⟨x57, e58, H⟩ := bK H;refine aa ?_;show AR _ _ _ _ _ [0, 1, 2, 3, 4, 5, 6, 7, 8, 9, 10, 11, 12, 13, 14, 15] _;refine zS rfl (ag (av := slE _ _ _) rfl) <| zS rfl (aO ap rfl) <| zS rfl (bH rfl rfl) <| zm rfl <| aY (l := [8, 9, 10, 11, 12, 13, 14, 15]) 99 (B ((decide ((y51.length : Int) = 0)) && (decide (2 ≤ (x8.length : Int))))) (fun K => ?_) ?_
   ·rcases ak (decide ((y51.length : Int) = 0)) with h54 | h54
    ·refine zU h54 rfl (ag (av := slE _ _ _) rfl) <| zU h54 rfl (aO au rfl) <| zU h54 rfl (er rfl rfl) <| zS rfl (aE (av := .v _) rfl h54 rfl) ?_;exact K _ 3 _ (ay (cx h54)) rfl rfl
    ·refine zF h54 rfl <| zF h54 rfl <| zF h54 rfl <| zS rfl (aF (av := .v _) rfl h54 rfl) ?_;exact K _ 3 _ (ay (cy h54)) rfl rfl
   refine zm rfl <| aY (l := [15]) 106 (B (((decide ((y51.length : Int) = 0)) && (decide (2 ≤ (x8.length : Int)))) && (decide (x57.1 = 0)))) (fun K => ?_) ?_
   ·rcases ak ((decide ((y51.length : Int) = 0)) && (decide (2 ≤ (x8.length : Int)))) with h55 | h55
    ·refine zU h55 rfl (ag (av := slE _ _ _) rfl) <| zU h55 rfl (bw (E := (ab Enc.int (ab Enc.str (ab Enc.str (Enc.sl (ab Enc.str Enc.str)))))) au (by kernel_rfl) rfl rfl (g56 h55) e58) <| zU h55 rfl (aN (n := 0) (by kernel_rfl) rfl (af rfl)) <| zU h55 rfl (aL bD rfl rfl) <| zU h55 rfl (bH rfl rfl) <| zS rfl (aE (av := .v _) rfl h55 rfl) ?_;exact K _ 5 _ (ay (cx h55)) rfl rfl
    ·refine zF h55 rfl <| zF h55 rfl <| zF h55 rfl <| zF h55 rfl <| zF h55 rfl <| zS rfl (aF (av := .v _) rfl h55 rfl) ?_;exact K _ 5 _ (ay (cy h55)) rfl rfl
   refine za rfl <| ai <| aI ?_;obtain rfl := al H;exact And.intro rfl (Exists.intro _ (Exists.intro _ ⟨aC rfl (.refl _), aH [] rfl, rfl, rfl⟩))
end Go.Proofs.YteokdkimegepoaaGreatDoor
namespace Go.Xm
abbrev Bs := List UInt8
abbrev At := Bs × Bs
abbrev Tok := Int × Bs × Bs × List At
def letB (c : UInt8) : Bool := ((decide (65 ≤ c.toNat) && decide (c.toNat ≤ 90)) || (decide (97 ≤ c.toNat) && decide (c.toNat ≤ 122))) || decide (c = 95)
def iD (c : UInt8) : Bool := letB c || ((((decide (48 ≤ c.toNat) && decide (c.toNat ≤ 57)) || decide (c = 45)) || decide (c = 46)) || decide (c = 58))
def fN (c : UInt8) : Bool := decide (c = 9) || decide (c = 10) || decide (c = 13) || decide (c = 32)
def np (s : Bs) : Bool := (match s with | [] => false | c :: _ => letB c) && (s.all iD && decide (s.length ≤ 60))
def gq (s : Bs) : Option (Bs × Bs) := if np (s.takeWhile iD) = true then some (s.takeWhile iD, s.dropWhile iD) else none
def iE (p : Bs) : Bs → Option (Bs × Bs)
  | [] => if p = [] then some ([], []) else none
  | c :: r => if p.isPrefixOf (c :: r) = true then some ([], (c :: r).drop p.length) else match iE p r with | none => none | some (a, b) => some (c :: a, b)
section
variable (dec : Bs → Option Bs)
def pm (n : Bs) (q : UInt8) (s : Bs) : Option (At × Bs) := match iE [q] s with
  | none => none
  | some (raw, r) => if 60 ∈ raw then none else match dec raw with | none => none | some t => some ((n, t), r)
def mu (s : Bs) : Option (At × Bs) := match gq s with
  | none => none
  | some (n, r) => if ([61, 34] : Bs).isPrefixOf r = true then pm dec n 34 (r.drop 2) else if ([61, 39] : Bs).isPrefixOf r = true then pm dec n 39 (r.drop 2) else none
def hH : Nat → List At → Bs → Option (List At × Bool × Bs)
  | 0, _, _ => none
  | k + 1, as_, s =>
    if ([62] : Bs).isPrefixOf (s.dropWhile fN) = true then some (as_, false, (s.dropWhile fN).drop 1)
    else if ([47, 62] : Bs).isPrefixOf (s.dropWhile fN) = true then some (as_, true, (s.dropWhile fN).drop 2)
    else if (s.dropWhile fN).length = s.length then none
    else match mu dec (s.dropWhile fN) with
      | none => none
      | some (a, r) => if as_.any (fun x => decide (x.1 = a.1)) = true then none else hH k (as_ ++ [a]) r
abbrev Sx := Bs × List Bs × Nat × List Tok
inductive Rx
  | ok (x : Sx)
  | no (e : Int)
def mo (t : Bs) (l : List Tok) : List Tok := if t = [] then l else l ++ [(2, [], t, [])]
def jX (n s : Bs) (open_ : List Bs) (k : Nat) (l : List Tok) : Rx := if open_.getLast? = some n then .ok (s, open_.dropLast, k, l ++ [(1, n, [], [])]) else .no 2
def ju (s : Bs) (o : List Bs) (k : Nat) (l : List Tok) : Rx :=
  match dec (s.takeWhile fun c => decide (c ≠ 60)) with
  | none => .no 2
  | some t => if o = [] then (if (s.takeWhile fun c => decide (c ≠ 60)).all fN = true then .ok (s.dropWhile (fun c => decide (c ≠ 60)), o, k, l) else .no 2)
      else .ok (s.dropWhile (fun c => decide (c ≠ 60)), o, k, mo t l)
def gp (p s : Bs) (o : List Bs) (k : Nat) (l : List Tok) : Rx := match iE p s with | none => .no 2 | some (_, r) => .ok (r, o, k, l)
def mt (s : Bs) (o : List Bs) (k : Nat) (l : List Tok) : Rx := match iE [93, 93, 62] s with | none => .no 2 | some (t, r) => if o = [] then .no 2 else .ok (r, o, k, mo t l)
def endP (s : Bs) (o : List Bs) (k : Nat) (l : List Tok) : Rx := match gq s with
  | none => .no 2
  | some (n, r) => if ([62] : Bs).isPrefixOf (r.dropWhile fN) = true then jX n ((r.dropWhile fN).drop 1) o k l else .no 2
def mq (n : Bs) (as_ : List At) (empty : Bool) (r : Bs) (o : List Bs) (k : Nat) (l : List Tok) : Rx :=
  if o = [] ∧ k ≠ 0 then .no 2 else if 20 ≤ o.length then .no 5
  else if empty = true then .ok (r, o, (if o = [] then k + 1 else k), (l ++ [(0, n, [], as_)]) ++ [(1, n, [], [])]) else .ok (r, o ++ [n], (if o = [] then k + 1 else k), l ++ [(0, n, [], as_)])
def mr (s : Bs) (o : List Bs) (k : Nat) (l : List Tok) : Rx := match gq s with
  | none => .no 2
  | some (n, r) => match hH dec (r.length + 1) [] r with
    | none => .no 2
    | some (as_, empty, r') => mq n as_ empty r' o k l
def ie (s : Bs) (o : List Bs) (k : Nat) (l : List Tok) : Rx :=
  if ([60] : Bs).isPrefixOf s = false then ju dec s o k l
  else if ([60, 33, 45, 45] : Bs).isPrefixOf s = true then gp [45, 45, 62] (s.drop 4) o k l
  else if ([60, 63] : Bs).isPrefixOf s = true then gp [63, 62] (s.drop 2) o k l
  else if ([60, 33, 91, 67, 68, 65, 84, 65, 91] : Bs).isPrefixOf s = true then mt (s.drop 9) o k l
  else if ([60, 33] : Bs).isPrefixOf s = true then gp [62] (s.drop 2) o k l
  else if ([60, 47] : Bs).isPrefixOf s = true then endP (s.drop 2) o k l
  else mr dec (s.drop 1) o k l
def kU : Nat → Sx → Rx
  | 0, x => .no 2
  | n + 1, (s, o, k, l) => if s = [] then .ok (s, o, k, l) else match ie dec s o k l with
    | .ok y => kU n y
    | .no e => .no e
def mx (s : Bs) : List Tok × Int := match kU dec (s.length + 1) (s, [], 0, []) with
  | .ok (_, o, k, l) => if o = [] ∧ 0 < k then (l, 0) else ([], 2)
  | .no e => ([], e)
end
theorem jK {p : Bs} (hp : p ≠ []) : ∀ {s a b : Bs}, iE p s = some (a, b) → s = a ++ p ++ b
  | [], a, b, h => by
    unfold iE at h
    rw [if_neg hp] at h; cases h
  | c :: r, a, b, h => by
    unfold iE at h
    by_cases g : p.isPrefixOf (c :: r) = true
    · rw [if_pos g] at h
      cases h
      obtain ⟨t, ht⟩ := List.isPrefixOf_iff_prefix.1 g
      rw [← ht, List.drop_left' rfl]; rfl
    · rw [if_neg g] at h
      cases e : iE p r with
      | none => rw [e] at h; cases h
      | some x =>
        obtain ⟨a', b'⟩ := x
        rw [e] at h
        cases h
        rw [jK hp e]
        simp
theorem ng {p s : Bs} (h : p.isPrefixOf s = true) : s = p ++ s.drop p.length := by
  obtain ⟨t, ht⟩ := List.isPrefixOf_iff_prefix.1 h
  rw [← ht, List.drop_left' rfl]
theorem qC (f : UInt8 → Bool) (s : Bs) : (s.dropWhile f).length ≤ s.length := by
  induction s with
  | nil => simp
  | cons c r ih => rw [List.dropWhile_cons]; split <;> simp at * <;> omega
theorem lk {s n r : Bs} (h : gq s = some (n, r)) : s = n ++ r ∧ np n = true := by
  unfold gq at h
  split at h
  · rename_i g
    cases h
    exact ⟨(List.takeWhile_append_dropWhile).symm, g⟩
  · cases h
theorem name_pos {n : Bs} (h : np n = true) : 0 < n.length := by
  cases n with
  | nil => cases h
  | cons c r => simp
section
variable {dec : Bs → Option Bs}
theorem oP {n s : Bs} {q : UInt8} {a : At} {r : Bs} (h : pm dec n q s = some (a, r)) : r.length < s.length := by
  unfold pm at h
  cases e : iE [q] s with
  | none => rw [e] at h; cases h
  | some x =>
    obtain ⟨raw, r'⟩ := x
    rw [e] at h
    simp only at h
    split at h
    · cases h
    · split at h
      · cases h
      · cases h
        have := jK (by simp) e
        rw [this]; simp; omega
theorem lE {s : Bs} {a : At} {r : Bs} (h : mu dec s = some (a, r)) : r.length < s.length := by
  unfold mu at h
  cases e : gq s with
  | none => rw [e] at h; cases h
  | some x =>
    obtain ⟨n, r'⟩ := x
    rw [e] at h
    obtain ⟨rfl, hn⟩ := lk e
    have hp := name_pos hn
    simp only at h
    split at h
    · have := oP h
      rw [List.length_drop] at this; rw [List.length_append]; omega
    · split at h
      · have := oP h
        rw [List.length_drop] at this; rw [List.length_append]; omega
      · cases h
theorem na : ∀ {k : Nat} {as_ : List At} {s : Bs} {bs : List At} {e : Bool} {r : Bs}, hH dec k as_ s = some (bs, e, r) → r.length < s.length
  | 0, _, _, _, _, _, h => by cases h
  | k + 1, as_, s, bs, e, r, h => by
    have hd := qC fN s
    unfold hH at h
    split at h
    · rename_i g
      cases h
      have := congrArg List.length (ng g)
      rw [List.length_append] at this
      simp at this ⊢
      omega
    · split at h
      · rename_i g
        cases h
        have := congrArg List.length (ng g)
        rw [List.length_append] at this
        simp at this ⊢
        omega
      · split at h
        · cases h
        · cases ea : mu dec (s.dropWhile fN) with
          | none => rw [ea] at h; cases h
          | some x =>
            obtain ⟨a, r'⟩ := x
            rw [ea] at h
            simp only at h
            have h1 := lE ea
            split at h
            · cases h
            · have := na h
              omega
theorem lZ : ∀ {k m : Nat} {as_ : List At} {s : Bs}, s.length < k → s.length < m → hH dec k as_ s = hH dec m as_ s
  | 0, _, _, _, h, _ => by omega
  | _, 0, _, _, _, h => by omega
  | k + 1, m + 1, as_, s, hk, hm => by
    have hd := qC fN s
    unfold hH
    split
    · rfl
    · split
      · rfl
      · split
        · rfl
        · rename_i g
          cases ea : mu dec (s.dropWhile fN) with
          | none => rfl
          | some x =>
            obtain ⟨a, r'⟩ := x
            have h1 := lE ea
            simp only
            split
            · rfl
            · exact lZ (by omega) (by omega)
theorem iQ {p s : Bs} (hp : p ≠ []) {o : List Bs} {k : Nat} {l : List Tok} {x : Sx} (h : gp p s o k l = .ok x) : x.1.length ≤ s.length ∧ x.2 = (o, k, l) := by
  unfold gp at h
  cases e : iE p s with
  | none => rw [e] at h; cases h
  | some y =>
    obtain ⟨a, b⟩ := y
    rw [e] at h
    cases h
    have := congrArg List.length (jK hp e)
    simp at this ⊢
    omega
theorem ql {s : Bs} {o : List Bs} {k : Nat} {l : List Tok} {x : Sx} (hs : s ≠ []) (h : ie dec s o k l = .ok x) : x.1.length < s.length := by
  have hpos := List.length_pos_iff.2 hs
  have pl : ∀ p : Bs, p.isPrefixOf s = true → p.length ≤ s.length := fun p g => by
    have := congrArg List.length (ng g)
    rw [List.length_append] at this
    omega
  unfold ie at h
  split at h
  · rename_i g
    have hc : ∃ c r, s = c :: r ∧ c ≠ 60 := by
      cases s with
      | nil => exact absurd rfl hs
      | cons c r =>
        refine ⟨c, r, rfl, fun e => ?_⟩
        rw [e] at g
        simp at g
    obtain ⟨c, r, rfl, hc⟩ := hc
    have hd : ((c :: r).dropWhile fun c => decide (c ≠ 60)).length < (c :: r).length := by
      rw [List.dropWhile_cons, if_pos (by simpa using hc)]
      have := qC (fun c => decide (c ≠ 60)) r
      rw [List.length_cons]; omega
    unfold ju at h
    split at h
    · cases h
    · split at h
      · split at h
        · cases h; exact hd
        · cases h
      · cases h; exact hd
  split at h
  · rename_i g
    have := (iQ (by simp) h).1
    have := pl _ g
    rw [List.length_drop] at *
    simp at *; omega
  split at h
  · rename_i g
    have := (iQ (by simp) h).1
    have := pl _ g
    rw [List.length_drop] at *
    simp at *; omega
  split at h
  · rename_i g
    have h9 := pl _ g
    unfold mt at h
    cases e : iE [93, 93, 62] (s.drop 9) with
    | none => rw [e] at h; cases h
    | some y =>
      obtain ⟨a, b⟩ := y
      rw [e] at h
      simp only at h
      have := congrArg List.length (jK (by simp) e)
      simp at this h9
      split at h
      · cases h
      · cases h
        simp only
        omega
  split at h
  · rename_i g
    have := (iQ (by simp) h).1
    have := pl _ g
    rw [List.length_drop] at *
    simp at *; omega
  split at h
  · rename_i g
    have h2 := pl _ g
    unfold endP at h
    cases e : gq (s.drop 2) with
    | none => rw [e] at h; cases h
    | some y =>
      obtain ⟨n, r⟩ := y
      rw [e] at h
      simp only at h
      have := congrArg List.length (lk e).1
      have hd := qC fN r
      simp at this h2
      split at h
      · unfold jX at h
        split at h
        · cases h
          simp only [List.length_drop]
          omega
        · cases h
      · cases h
  · unfold mr at h
    cases e : gq (s.drop 1) with
    | none => rw [e] at h; cases h
    | some y =>
      obtain ⟨n, r⟩ := y
      rw [e] at h
      simp only at h
      have := congrArg List.length (lk e).1
      simp at this
      cases ea : hH dec (r.length + 1) [] r with
      | none => rw [ea] at h; cases h
      | some z =>
        obtain ⟨as_, em, r'⟩ := z
        rw [ea] at h
        simp only at h
        have hl := na ea
        unfold mq at h
        split at h
        · cases h
        · split at h
          · cases h
          · split at h <;> (cases h; simp only; omega)
end
end Go.Xm
namespace Go.Pv
def dT (F : Nat) (a1 : Int) : Option ((List UInt8) × Bool) :=
bif ((!((((decide (a1 = 9)) || (decide (a1 = 10))) || (decide (a1 = 13))) || ((decide (32 ≤ a1)) && (decide (a1 ≤ 55295))))) && (!((decide (57344 ≤ a1)) && (decide (a1 ≤ 65533))))) && (!((decide (65536 ≤ a1)) && (decide (a1 ≤ 1114111)))) then
  some (([] : List UInt8), false)
else
  bif decide (a1 < 128) then
    some (([Go.Av.toB a1] : List UInt8), true)
  else
    bif decide (a1 < 2048) then
      grd (iL a1 64) <|
      grd (okI (192 + (a1 / 64))) <|
      grd (iL a1 64) <|
      grd (okI (128 + (a1 % 64))) <|
      some (([Go.Av.toB (192 + (a1 / 64)), Go.Av.toB (128 + (a1 % 64))] : List UInt8), true)
    else
      bif decide (a1 < 65536) then
        grd (iL a1 4096) <|
        grd (okI (224 + (a1 / 4096))) <|
        grd (iL a1 64) <|
        grd (iL (a1 / 64) 64) <|
        grd (okI (128 + ((a1 / 64) % 64))) <|
        grd (iL a1 64) <|
        grd (okI (128 + (a1 % 64))) <|
        some (([Go.Av.toB (224 + (a1 / 4096)), Go.Av.toB (128 + ((a1 / 64) % 64)), Go.Av.toB (128 + (a1 % 64))] : List UInt8), true)
      else
        grd (iL a1 262144) <|
        grd (okI (240 + (a1 / 262144))) <|
        grd (iL a1 4096) <|
        grd (iL (a1 / 4096) 64) <|
        grd (okI (128 + ((a1 / 4096) % 64))) <|
        grd (iL a1 64) <|
        grd (iL (a1 / 64) 64) <|
        grd (okI (128 + ((a1 / 64) % 64))) <|
        grd (iL a1 64) <|
        grd (okI (128 + (a1 % 64))) <|
        some (([Go.Av.toB (240 + (a1 / 262144)), Go.Av.toB (128 + ((a1 / 4096) % 64)), Go.Av.toB (128 + ((a1 / 64) % 64)), Go.Av.toB (128 + (a1 % 64))] : List UInt8), true)
def hY (F : Nat) (a1 : UInt8) : Option Int :=
bif (decide (48 ≤ (a1.toNat : Int))) && (decide ((a1.toNat : Int) ≤ 57)) then
  some ((a1 - 48).toNat : Int)
else
  bif (decide (97 ≤ (a1.toNat : Int))) && (decide ((a1.toNat : Int) ≤ 102)) then
    grd (okI (((a1 - 97).toNat : Int) + 10)) <|
    some (((a1 - 97).toNat : Int) + 10)
  else
    bif (decide (65 ≤ (a1.toNat : Int))) && (decide ((a1.toNat : Int) ≤ 70)) then
      grd (okI (((a1 - 65).toNat : Int) + 10)) <|
      some (((a1 - 65).toNat : Int) + 10)
    else
      some 99
def jk (a1 : List UInt8) (y21 : Int) : Option Int :=
bif decide ((a1.length : Int) = 0) then
  some (-1)
else
  some y21
def gx (y5 : Int) (rec6 : (Int × Int) → Option Int) (y18 : Int) : Option Int :=
grd (okI (y5 + 1)) <|
rec6 (y18, y5 + 1)
def gz (F : Nat) (a1 : List UInt8) (a2 : Int) (rec6 : (Int × Int) → Option Int) (y4 : Int) (y5 : Int) : Option Int :=
bif decide (y5 < (a1.length : Int)) then
  grd (cD y5 a1.length) <|
  lt (at_ a1 y5) fun x10 =>
  bnd (hY F x10) fun x12 =>
  bif decide (a2 ≤ x12) then
    some (-1)
  else
    grd (okI (a2 * y4)) <|
    grd (okI ((a2 * y4) + x12)) <|
    bif decide (1114111 < (a2 * y4) + x12) then
      gx y5 rec6 1114112
    else
      gx y5 rec6 ((a2 * y4) + x12)
else
  jk a1 y4
def gy (F : Nat) (a1 : List UInt8) (a2 : Int) (n : Nat) : (Int × Int) → Option Int :=
  loop (fun rec x => gz F a1 a2 rec x.1 x.2) n
def eG (F : Nat) (a1 : List UInt8) (a2 : Int) : Option Int :=
gy F a1 a2 F (0, 0)
def ip (F : Nat) (y28 : Int) : Option ((List UInt8) × Bool) :=
gD (dT F y28) fun x30 x31 =>
some (x30, x31)
def gS (F : Nat) (a1 : List UInt8) : Option ((List UInt8) × Bool) :=
bif decide (a1 = ([97, 109, 112] : List UInt8)) then
  some (([38] : List UInt8), true)
else
  bif decide (a1 = ([108, 116] : List UInt8)) then
    some (([60] : List UInt8), true)
  else
    bif decide (a1 = ([103, 116] : List UInt8)) then
      some (([62] : List UInt8), true)
    else
      bif decide (a1 = ([113, 117, 111, 116] : List UInt8)) then
        some (([34] : List UInt8), true)
      else
        bif decide (a1 = ([97, 112, 111, 115] : List UInt8)) then
          some (([39] : List UInt8), true)
        else
          ee (!(decide ((a1.length : Int) < 2))) (cD 0 a1.length) <|
          lt (at_ a1 0) fun x11 =>
          bif (decide ((a1.length : Int) < 2)) || (!decide (x11 = 35)) then
            some (([] : List UInt8), false)
          else
            grd (hM 1 a1.length) <|
            lt (ek a1 1) fun x15 =>
            bnd (eG F x15 10) fun x17 =>
            grd (cD 1 a1.length) <|
            lt (at_ a1 1) fun x20 =>
            bif decide (x20 = 120) then
              grd (hM 2 a1.length) <|
              lt (ek a1 2) fun x24 =>
              bnd (eG F x24 16) fun x26 =>
              ip F x26
            else
              ip F x17
end Go.Pv
namespace Go.Pn
open Go.Pv Go.Av
abbrev Bs := List UInt8
def bl (c : UInt8) : Bool := (((decide (c = 9)) || (decide (c = 10))) || (decide (c = 13))) || (decide (c = 32))
mutual
/-- Behind a sign. -/
def T1 : Bs → Bs
  | [] => []
  | c :: r => bif bl c then T2 r else c :: T1 r
/-- In a gap behind a sign. -/
def T2 : Bs → Bs
  | [] => []
  | c :: r => bif bl c then T2 r else 32 :: c :: T1 r
end
def trim : Bs → Bs
  | [] => []
  | c :: r => bif bl c then trim r else c :: T1 r
def tl (out : Bs) (gap : Bool) (r : Bs) : Bs := if out = [] then trim r else bif gap then T2 r else T1 r
def wgo (cur : Bs) : Bs → List Bs
  | [] => if cur = [] then [] else [cur]
  | c :: r => bif bl c then (if cur = [] then wgo [] r else cur :: wgo [] r) else wgo (cur ++ [c]) r
theorem rest_wgo (s : Bs) : (∀ cur : Bs, cur ≠ [] → Str.join [32] (wgo cur s) = cur ++ T1 s) ∧ Str.join [32] (wgo [] s) = trim s ∧ Str.rest [32] (wgo [] s) = T2 s := by
  induction s with
  | nil => exact ⟨fun cur h => by simp [wgo, h, Str.join, Str.rest, T1], by simp [wgo, Str.join, trim], by simp [wgo, Str.rest, T2]⟩
  | cons c r ih =>
    obtain ⟨h1, h2, h3⟩ := ih
    cases hb : bl c with
    | true =>
      refine ⟨fun cur h => ?_, ?_, ?_⟩
      · simp [wgo, hb, h, Str.join, T1, h3]
      · simp [wgo, hb, trim, h2]
      · simp [wgo, hb, T2, h3]
    | false =>
      have h4 := h1 [c] (by simp)
      refine ⟨fun cur h => ?_, ?_, ?_⟩
      · simp only [wgo, hb, cond_false, T1]
        rw [h1 _ (by simp)]; simp
      · simp only [wgo, hb, cond_false, trim, List.nil_append]
        rw [h4]; rfl
      · simp only [wgo, hb, cond_false, T2, List.nil_append]
        have : Str.rest [32] (wgo [c] r) = 32 :: Str.join [32] (wgo [c] r) := by
          cases hw : wgo [c] r with
          | nil => rw [hw] at h4; simp [Str.join] at h4
          | cons w ws => simp [Str.rest, Str.join]
        rw [this, h4]; rfl
theorem join_wgo (s : Bs) : Str.join [32] (wgo [] s) = trim s := (rest_wgo s).2.1
theorem rQ (s : Bs) : ∀ cur : Bs, Str.total (wgo cur s) + (wgo cur s).length ≤ cur.length + s.length + 1 := by
  induction s with
  | nil => intro cur; by_cases h : cur = [] <;> simp [wgo, h, Str.total]
  | cons c r ih =>
    intro cur
    cases hb : bl c with
    | true =>
      have := ih []
      by_cases h : cur = []
      · simp [wgo, hb, h] at this ⊢; omega
      · simp [wgo, hb, h, Str.total] at this ⊢; omega
    | false =>
      have := ih (cur ++ [c])
      simp [wgo, hb] at this ⊢; omega
theorem kS (F : Nat) (c : UInt8) : iP F c = some (bl c) := by
  have : ∀ n : Nat, n < 256 → decide (0 ≤ Go.Lib.indexByte ([9, 10, 13, 32] : List UInt8) (UInt8.ofNat n)) = bl (UInt8.ofNat n) := by decide +kernel
  have h := this c.toNat c.toNat_lt
  rw [UInt8.ofNat_toNat] at h
  unfold iP
  simp only [bA]
  rw [h]
theorem ent_end (F : Nat) (s : Bs) (hs : s.length ≤ 1000000) (n : Nat) (l : List Bs) (hl : l.length + Str.total l ≤ 100000000) (hn1 : n ≥ 1) : da F s n (l, (-1), ((s.length + 1 : Nat) : Int)) = some (Str.join [32] l) := by
  obtain ⟨m, rfl⟩ : ∃ m, n = m + 1 := ⟨n - 1, by omega⟩;show eB F s (da F s m) l (-1) ((s.length + 1 : Nat) : Int) = _
  unfold eB gk
  have h1 : ¬ (((s.length + 1 : Nat) : Int) ≤ (s.length : Int)) := by omega
  rw [bF h1, grd_Join (by simp; omega), bA]
theorem ent_loop (F : Nat) (s : Bs) (hs : s.length ≤ 1000000) : ∀ (n : Nat) (l : List Bs) (fr : Int) (cur : Bs) (i : Nat), s.length + 1 - i < n → i ≤ s.length → l.length ≤ i →
    ((fr = -1 ∧ cur = []) ∨ ∃ f : Nat, fr = (f : Int) ∧ f < i ∧ cur = (s.take i).drop f) → (l ++ wgo cur (s.drop i)).length + Str.total (l ++ wgo cur (s.drop i)) ≤ 100000000 →
    da F s n (l, fr, (i : Int)) = some (Str.join [32] (l ++ wgo cur (s.drop i))) := by
  intro n
  induction n with
  | zero => intro l fr cur i h; omega
  | succ n ih =>
    intro l fr cur i hn hi hl hf hJ;show eB F s (da F s n) l fr (i : Int) = _
    unfold eB eA
    have hend : ∀ l : List Bs, l.length + Str.total l ≤ 100000000 → n ≥ 1 → da F s n (l, (-1), ((s.length + 1 : Nat) : Int)) = some (Str.join [32] l) := ent_end F s hs n
    by_cases h : i < s.length
    · have hd : s.drop i = s[i] :: s.drop (i + 1) := aZ h
      have hne : decide ((i : Int) = (s.length : Int)) = false := decide_eq_false (by omega)
      simp (disch := omega) only [bT, hne, Bool.not_false, hC, dD, bA, gJ h, kS, bndc_t, bP, Bool.false_or]
      rw [hd] at hJ ⊢
      cases hb : bl s[i] with
      | true =>
        simp only [wgo, hb, cond_true] at hJ ⊢
        rcases hf with ⟨rfl, rfl⟩ | ⟨f, rfl, hfi, rfl⟩
        · simp only [if_true] at hJ ⊢
          simp (disch := omega) only [Bool.not_true, Bool.false_and, cond_false, Bool.true_and, bF, cV, cS]
          exact ih l (-1) [] (i + 1) (by omega) (by omega) (by omega) (.inl ⟨rfl, rfl⟩) hJ
        · have hc : (s.take i).drop f ≠ [] := by
            intro h2; have := congrArg List.length h2; simp at this; omega
          simp only [hc, if_false] at hJ ⊢
          simp (disch := (first | omega | (simp; omega))) only [Bool.not_true, Bool.false_and, cond_false, Bool.true_and, bT, mA, eN, pq, cV, cS]
          rw [ih (l ++ [(s.take i).drop f]) (-1) [] (i + 1) (by omega) (by omega) (by simp; omega) (.inl ⟨rfl, rfl⟩) (by simpa using hJ)]
          simp
      | false =>
        simp only [wgo, hb, cond_false] at hJ ⊢
        rcases hf with ⟨rfl, rfl⟩ | ⟨f, rfl, hfi, rfl⟩
        · simp (disch := omega) only [Bool.not_false, Bool.true_and, bT, cV, cS]
          have hc : ([] : Bs) ++ [s[i]] = (s.take (i + 1)).drop i := by
            rw [List.take_succ_eq_append_getElem h, List.drop_append_of_le_length (by simp; omega), bh (by simp; omega)]
          rw [hc] at hJ ⊢
          exact ih l (i : Int) _ (i + 1) (by omega) (by omega) (by omega) (.inr ⟨i, rfl, by omega, rfl⟩) hJ
        · simp (disch := omega) only [Bool.not_false, Bool.true_and, bF, Bool.false_and, cond_false, cV, cS]
          have hc : (s.take i).drop f ++ [s[i]] = (s.take (i + 1)).drop f := by
            rw [List.take_succ_eq_append_getElem h, List.drop_append_of_le_length (by simp; omega)]
          rw [hc] at hJ ⊢
          exact ih l (f : Int) _ (i + 1) (by omega) (by omega) (by omega) (.inr ⟨f, rfl, by omega, rfl⟩) hJ
    · have hi2 : i = s.length := by omega
      subst hi2
      have hyes : decide ((s.length : Int) = (s.length : Int)) = true := decide_eq_true rfl
      simp (disch := omega) only [bT, hyes, Bool.not_true, fC, bA, kS, iJ, Bool.true_or, List.drop_length] at hJ ⊢
      rcases hf with ⟨rfl, rfl⟩ | ⟨f, rfl, hfi, rfl⟩
      · simp (disch := omega) only [Bool.false_and, cond_false, Bool.true_and, bF, cV, cS]
        rw [hend l (by simpa [wgo] using hJ) (by omega)]
        simp [wgo, fC, iJ]
      · have hc : (s.take s.length).drop f ≠ [] := by
          intro h2; have := congrArg List.length h2; simp at this; omega
        simp only [wgo, hc, if_false] at hJ ⊢
        simp (disch := (first | omega | (simp; omega))) only [Bool.false_and, cond_false, Bool.true_and, bT, mA, eN, pq, cV, cS]
        exact hend _ hJ (by omega)
theorem ent_Trim_eq (F : Nat) (s : Bs) (hs : s.length ≤ 1000000) (hF : s.length + 1 < F) : jJ F s = some (trim s) := by
  have h1 := rQ s []
  have := ent_loop F s hs F [] (-1) [] 0 (by omega) (by omega) (by simp) (.inl ⟨rfl, rfl⟩) (by simp at h1 ⊢; omega)
  rw [← join_wgo]
  simpa [jJ] using this
end Go.Pn
namespace Go.Pn
open Go.Pv Go.Av
theorem kQ {c : UInt8} {s : Bs} (h : ∀ b ∈ s, b ≠ c) : Go.Lib.indexByte s c = -1 := by
  induction s with
  | nil => rfl
  | cons b r ih => simp [Go.Lib.indexByte, h b (by simp), ih (fun x hx => h x (by simp [hx]))]
end Go.Pn
namespace Go.Pn
open Go.Pv Go.Av
theorem qz (s : Bs) (p : Nat) : 1 ≤ (jt s p).2 := by
  unfold jt Utf8.decode
  simp only
  repeat' split
  all_goals simp
theorem hU (n : Int) : (cf n).length ≤ 4 := by
  unfold cf Utf8.encode
  simp only
  repeat' split
  all_goals simp
theorem lN (n : Int) (h : 128 ≤ n) : 2 ≤ (cf n).length ∧ ((cf n).length = 2 → ¬ (59 : UInt8) = at_ (cf n) 1) := by
  have hc : ¬ (if Utf8.valid n = true then n.toNat else Utf8.runeError) < 128 := by
    split
    · omega
    · decide
  unfold cf Utf8.encode
  simp only
  generalize (if Utf8.valid n = true then n.toNat else Utf8.runeError) = c at hc ⊢
  rw [if_neg hc]
  by_cases h2 : c < 2048
  · rw [if_pos h2]
    refine ⟨by simp, fun _ => ?_⟩;show ¬ (59 : UInt8) = UInt8.ofNat (128 + c % 64);intro e
    have := congrArg UInt8.toNat e
    rw [UInt8.toNat_ofNat'] at this
    have e59 : (59 : UInt8).toNat = 59 := rfl
    omega
  · rw [if_neg h2]
    split <;> simp
theorem pY (F : Nat) (hF : 5 ≤ F) (r : Int) : ∃ j, fu F [38, 59] r = some j := by
  unfold fu
  by_cases h1 : 0 ≤ r ∧ r < 128
  · simp only [h1, decide_true, Bool.and_self, cond_true]; exact ⟨_, rfl⟩
  · have hf : ((decide (0 ≤ r)) && (decide (r < 128))) = false := by
      cases h : (decide (0 ≤ r)) && (decide (r < 128)) with
      | false => rfl
      | true => exact absurd (by simpa using h) h1
    rw [hf, cond_false]
    by_cases h2 : r = 65533
    · rw [bT h2]
      obtain ⟨m, rfl⟩ : ∃ m, F = m + 3 := ⟨F - 3, by omega⟩
      have e0 : jt [38, 59] 0 = (38, 1) := by decide +kernel
      have e1 : jt [38, 59] 1 = (59, 1) := by decide +kernel
      refine ⟨-1, ?_⟩;show dp [38, 59] (fh [38, 59] (m + 2)) 0 = _
      unfold dp
      simp only [e0]
      show dp [38, 59] (fh [38, 59] (m + 1)) 1 = _
      unfold dp
      simp only [e1]
      rfl
    · rw [bF h2]
      have hv : ∃ b, fZ F r = some b ∧ (b = true → 0 ≤ r) := by
        unfold fZ
        by_cases ha : 0 ≤ r ∧ r < 55296
        · refine ⟨true, ?_, fun _ => ha.1⟩; simp [ha]
        · by_cases hb : 57343 < r ∧ r ≤ 1114111
          · refine ⟨true, ?_, fun _ => by omega⟩; simp [hb]
          · refine ⟨false, ?_, fun h => by cases h⟩
            have e1 : ((decide (0 ≤ r)) && (decide (r < 55296))) = false := by
              cases h : (decide (0 ≤ r)) && (decide (r < 55296)) with
              | false => rfl
              | true => exact absurd (by simpa using h) ha
            have e2 : ((decide (57343 < r)) && (decide (r ≤ 1114111))) = false := by
              cases h : (decide (57343 < r)) && (decide (r ≤ 1114111)) with
              | false => rfl
              | true => exact absurd (by simpa using h) hb
            rw [e1, e2]; rfl
      obtain ⟨b, hb, hp⟩ := hv
      rw [hb, bP]
      cases b with
      | false => exact ⟨-1, rfl⟩
      | true =>
        have hr : 128 ≤ r := by have := hp rfl; omega
        obtain ⟨k1, k2⟩ := lN r hr
        have k3 := hU r
        obtain ⟨m, rfl⟩ : ∃ m, F = m + 1 := ⟨F - 1, by omega⟩;refine ⟨-1, ?_⟩
        simp (disch := omega) only [Bool.not_true, cond_false, bA, cV]
        show fi [38, 59] (cf r) (gV [38, 59] (cf r) m) = _
        unfold fi fT
        by_cases h3 : (cf r).length = 2
        · have e1 : ((cf r).length : Int) - 1 = 1 := by omega
          have e2 : at_ ([38, 59] : Bs) 1 = 59 := rfl
          have e3 : ek ([38, 59] : Bs) (1 + 1) = [] := rfl
          rw [e1]
          simp (disch := (first | omega | (simp; done) | (simp; omega))) only [bT, dD, bA, e2, decide_eq_false (k2 h3), Bool.not_false, ka, cV, fD, e3]
          rfl
        · have : ¬ ((cf r).length : Int) - 1 < (([38, 59] : Bs).length : Int) := by simp; omega
          rw [bF this]
theorem jH (s : Bs) (c : UInt8) : -1 ≤ Go.Lib.indexByte s c ∧ Go.Lib.indexByte s c < s.length := by
  induction s with
  | nil => simp [Go.Lib.indexByte]
  | cons b r ih =>
    unfold Go.Lib.indexByte
    split
    · first | (simp; done) | (simp; omega)
    · split
      · first | (simp; done) | (simp; omega)
      · rename_i h
        have h' : ¬ Go.Lib.indexByte r c = -1 := by simpa using h
        simp; omega
theorem je (s cs : Bs) : -1 ≤ Go.Lib.indexAny s cs ∧ Go.Lib.indexAny s cs < s.length := by
  induction s with
  | nil => simp [Go.Lib.indexAny]
  | cons b r ih =>
    unfold Go.Lib.indexAny
    split
    · first | (simp; done) | (simp; omega)
    · split
      · first | (simp; done) | (simp; omega)
      · rename_i h
        have h' : ¬ Go.Lib.indexAny r cs = -1 := by simpa using h
        simp; omega
theorem pf (F : Nat) (hF : 5 ≤ F) (s : Bs) : ∀ (n y : Nat), s.length - y < n → ∃ j, fk F s [38, 59] n y = some j ∧ -1 ≤ j ∧ j < s.length := by
  intro n
  induction n with
  | zero => intro y h; omega
  | succ n ih =>
    intro y hy;show ∃ j, fm F s [38, 59] (fk F s [38, 59] n) y = some j ∧ _
    unfold fm fV
    by_cases h : y < s.length
    · rw [bT h]
      obtain ⟨j, hj⟩ := pY F hF ((jt s y).1 : Int)
      rw [hj, bP]
      by_cases h0 : 0 ≤ j
      · rw [bT h0]; exact ⟨_, rfl, by omega, by omega⟩
      · rw [bF h0]
        have := qz s y
        exact ih _ (by omega)
    · rw [bF h]; exact ⟨-1, rfl, by omega, by omega⟩
theorem qU (F : Nat) (s : Bs) (hF : 20 ≤ F) : ∃ j, iH F s [38, 59] = some j ∧ -1 ≤ j ∧ j < s.length := by
  unfold iH
  by_cases h : 8 < s.length
  · obtain ⟨h1, h2⟩ := je s [38, 59]
    refine ⟨Go.Lib.indexAny s [38, 59], ?_, h1, h2⟩
    simp [h]
  · have e : ((decide (8 < s.length)) && (decide (2 ≤ ([38, 59] : Bs).length))) = false := by simp [h]
    rw [e, cond_false]
    unfold js nl fU
    have e3 : decide ((8 : Int) < (s.length : Int)) = false := decide_eq_false (by omega)
    simp (disch := (first | omega | (simp; done) | (simp; omega))) only [bF, bP, e3, Bool.not_false, ka]
    exact pf F (by omega) s F 0 (by omega)
theorem pi (F : Nat) (s : Bs) (hs : s.length ≤ 100000) : ∃ b, eC F s [95] = some b := by
  unfold eC iH js fj fu
  have e : ((decide (8 < s.length)) && (decide (2 ≤ ([95] : Bs).length))) = false := by simp
  have e2 : at_ ([95] : Bs) 0 = 95 := rfl
  have e3 : fE [95] = true := by decide
  have e4 : ((95 : UInt8).toNat : Int) = 95 := rfl
  rw [e, cond_false]
  simp (disch := (first | omega | (simp; done) | (simp; omega))) only [e3, ka, kb, bF, bT, dD, bA, e2, e4, grd_J]
  exact ⟨_, rfl⟩
theorem li (x : Int) : 0 ≤ IntKind.u64.wrap x := by
  have : IntKind.u64.wrap x = x % 18446744073709551616 := rfl
  rw [this]; omega
def Ok3 (r : Option (Int × Int)) : Prop := ∃ v e, r = some (v, e) ∧ 0 ≤ v ∧ (e = 0 ∨ e = 1 ∨ e = 2)
theorem rT (F : Nat) (s : Bs) (b c : Int) (hb : b = 10 ∨ b = 16) (hs : s.length ≤ 100000) : ∀ (n i : Nat) (v : Int), s.length - i < n → 0 ≤ v → Ok3 (bC F s b c n (false, v, (i : Int))) := by
  intro n
  induction n with
  | zero => intro i v h; omega
  | succ n ih =>
    intro i v hn hv;show Ok3 (cR F s b c (bC F s b c n) false v (i : Int))
    unfold cR dv dL
    by_cases h : i < s.length
    · have key : ∀ d : UInt8, Ok3 (cl b c false v (i : Int) (bC F s b c n) d) := by
        intro d
        unfold cl cQ
        cases decide (((Go.Av.toB b).toNat : Int) ≤ (d.toNat : Int)) with
        | true => exact ⟨0, 2, rfl, by omega, by omega⟩
        | false =>
          rw [cond_false]
          cases decide (c ≤ v) with
          | true => exact ⟨_, 1, rfl, li _, by omega⟩
          | false =>
            rw [cond_false]
            generalize ((decide (IntKind.u64.wrap ((IntKind.u64.wrap (v * (IntKind.u64.wrap b))) + (IntKind.u64.wrap (d.toNat : Int))) < IntKind.u64.wrap (v * (IntKind.u64.wrap b)))) || (decide (IntKind.u64.wrap ((IntKind.u64.wrap (1 * 2 ^ min (Int.toNat (IntKind.u64.wrap 64)) IntKind.u64.bits)) - 1) < IntKind.u64.wrap ((IntKind.u64.wrap (v * (IntKind.u64.wrap b))) + (IntKind.u64.wrap (d.toNat : Int)))))) = q
            cases q with
            | true => exact ⟨_, 1, rfl, li _, by omega⟩
            | false =>
              rw [cond_false, cV (by omega), cS]
              exact ih _ _ (by omega) (li _)
      have hb0 : decide (b = 0) = false := decide_eq_false (by omega)
      simp (disch := omega) only [bT, dD, bA, gJ h, hb0, Bool.and_false, cond_false, bP, fY]
      generalize ((decide (48 ≤ ((s[i]).toNat : Int))) && (decide (((s[i]).toNat : Int) ≤ 57))) = q1
      cases q1 with
      | true => exact key _
      | false =>
        rw [cond_false]
        generalize ((decide (97 ≤ ((s[i] ||| 32).toNat : Int))) && (decide ((((bif decide (97 ≤ ((s[i] ||| 32).toNat : Int)) then (s[i] ||| 32) else default) : UInt8).toNat : Int) ≤ 122))) = q2
        cases q2 with
        | true => exact key _
        | false => exact ⟨0, 2, rfl, by omega, by omega⟩
    · rw [bF (by omega), iJ]
      exact ⟨v, 0, rfl, hv, by omega⟩
theorem uint_tot (F : Nat) (s : Bs) (b : Int) (hb : b = 10 ∨ b = 16) (hs : s.length ≤ 100000) (hF : s.length < F) : Ok3 (dR F s b 0) := by
  unfold dR dt du cB
  by_cases h0 : s = []
  · rw [bT h0]; exact ⟨0, 2, rfl, by omega, by omega⟩
  · rw [bF h0]
    have h2 : ((decide (2 ≤ b)) && (decide (b ≤ 36))) = true := by rcases hb with rfl | rfl <;> rfl
    have hw := li 64
    rw [h2, ka, jy rfl]
    have go := fun c => rT F s b c hb hs F 0 0 (by omega) (by omega)
    rcases hb with rfl | rfl
    · rw [bT rfl, jy hw, eN (by omega)]; exact go _
    · rw [bF (by omega), bT rfl, jy hw, eN (by omega)]; exact go _
theorem int_tot (F : Nat) (s : Bs) (b : Int) (hb : b = 10 ∨ b = 16) (hs : s.length ≤ 100000) (hF : s.length < F) (h43 : at_ s 0 ≠ 43) (h45 : at_ s 0 ≠ 45) : ∃ v e, cF F s b 0 = some (v, e) := by
  have hi : ∃ v e, ex F s b 0 = some (v, e) ∧ (e = 0 ∨ e = 1 ∨ e = 2) := by
    unfold ex cJ dI dm
    by_cases h0 : s = []
    · rw [bT h0]; exact ⟨0, 2, rfl, by omega⟩
    · have hp : 0 < s.length := List.length_pos_iff.2 h0
      obtain ⟨v, e, hv, hv0, he⟩ := uint_tot F s b hb hs hF
      have e1 : IntKind.u64.wrap (1 * 2 ^ min (Int.toNat (IntKind.u64.wrap 63)) IntKind.u64.bits) = 9223372036854775808 := by decide +kernel
      have e2 : (0 : Int) ≤ IntKind.u64.wrap 63 := by decide +kernel
      have e3 : IntKind.u64.wrap (9223372036854775808 - 1) = 9223372036854775807 := by decide +kernel
      simp (disch := omega) only [bF, dD, bA, hv, aU, e1, e3, jy e2, cV, jy, Bool.not_false, Bool.true_and, Bool.false_and, cond_false]
      rcases he with rfl | rfl | rfl
      · rw [show ((!decide ((0 : Int) = 0)) && (!decide ((0 : Int) = 1))) = false by rfl, cond_false]
        by_cases hb : (9223372036854775808 : Int) ≤ v
        · rw [bT hb]; exact ⟨_, 1, rfl, by omega⟩
        · rw [bF hb, cV (by omega)]; exact ⟨_, 0, rfl, by omega⟩
      · rw [show ((!decide ((1 : Int) = 0)) && (!decide ((1 : Int) = 1))) = false by rfl, cond_false]
        by_cases hb : (9223372036854775808 : Int) ≤ v
        · rw [bT hb]; exact ⟨_, 1, rfl, by omega⟩
        · rw [bF hb, cV (by omega)]; exact ⟨_, 0, rfl, by omega⟩
      · rw [show ((!decide ((2 : Int) = 0)) && (!decide ((2 : Int) = 1))) = true by rfl, cond_true]
        exact ⟨_, 2, rfl, by omega⟩
  obtain ⟨v, e, hv, he⟩ := hi
  unfold cF
  rw [hv, aU]
  rcases he with rfl | rfl | rfl
  · exact ⟨_, _, rfl⟩
  · rw [show (!decide ((1 : Int) = 0)) = true by rfl, cond_true, kb (by omega), jy (by omega)]; exact ⟨_, _, rfl⟩
  · rw [show (!decide ((2 : Int) = 0)) = true by rfl, cond_true, kb (by omega), jy (by omega)]; exact ⟨_, _, rfl⟩
theorem rune_tot (F : Nat) (r : Int) : ∃ o b, fM F r = some (o, b) ∧ o.length ≤ 4 := by
  have fin : -2147483648 ≤ r ∧ r ≤ 2147483647 → ∃ o b, grd (okJ r) (lt (cf r) fun x17 => some (x17, true)) = some (o, b) ∧ o.length ≤ 4 := by
    intro h; rw [grd_J h]; exact ⟨_, _, rfl, hU r⟩
  unfold fM iI
  simp only [fY]
  cases hA : ((decide (r = 9)) || (decide (r = 10))) || (decide (r = 13)) with
  | true =>
    have : r = 9 ∨ r = 10 ∨ r = 13 := by simpa [or_assoc] using hA
    simp only [Bool.not_true, Bool.false_and, cond_false]
    exact fin (by omega)
  | false =>
    simp only [Bool.not_false, Bool.true_and, cond_true]
    cases h7 : (decide (32 ≤ r)) && (decide (r ≤ 55295)) with
    | true =>
      have : 32 ≤ r ∧ r ≤ 55295 := by simpa using h7
      simp only [Bool.not_true, Bool.false_and, cond_false]
      exact fin (by omega)
    | false =>
      simp only [Bool.not_false, Bool.true_and, cond_true]
      cases h10 : (decide (57344 ≤ r)) && (decide (r ≤ 65533)) with
      | true =>
        have : 57344 ≤ r ∧ r ≤ 65533 := by simpa using h10
        simp only [Bool.not_true, Bool.false_and, cond_false]
        exact fin (by omega)
      | false =>
        simp only [Bool.not_false, Bool.true_and, cond_true]
        cases h13 : (decide (65536 ≤ r)) && (decide (r ≤ 1114111)) with
        | true =>
          have : 65536 ≤ r ∧ r ≤ 1114111 := by simpa using h13
          simp only [Bool.not_true, Bool.false_and, cond_false]
          exact fin (by omega)
        | false => exact ⟨[], false, rfl, by simp⟩
theorem mU (F : Nat) (s : Bs) (b : Int) (hb : b = 10 ∨ b = 16) (hs : s.length ≤ 100000) (hF : s.length < F) : ∃ o k, cT F s b = some (o, k) ∧ o.length ≤ 4 := by
  obtain ⟨cb, hcb⟩ := pi F s hs
  have no : ∃ o k, (some (([] : Bs), false) : Option (Bs × Bool)) = some (o, k) ∧ o.length ≤ 4 := ⟨[], false, rfl, by simp⟩
  unfold cT
  cases s with
  | nil => simp [fC, bA, iJ]
  | cons c r =>
    have h0 : decide ((c :: r) = []) = false := decide_eq_false (by simp)
    have ha : at_ (c :: r) 0 = c := rfl
    have hg : ∀ (q : Bool) (k : Option (Bs × Bool)), ee q (cD 0 (c :: r).length) k = k := fun q k => pz (fun _ => by simp)
    simp only [hg, h0, bA, ha, hcb, fY, Bool.false_or]
    by_cases h1 : c = 43
    · simp [h1]
    · by_cases h2 : c = 45
      · simp [h2]
      · by_cases h3 : c = 95
        · simp [h3]
        · simp only [h1, h2, h3, decide_false, Bool.or_self, Bool.false_or, Bool.not_false, cond_true]
          cases cb with
          | true => exact no
          | false =>
            obtain ⟨v, e, hv⟩ := int_tot F (c :: r) b hb hs hF (by rw [ha]; exact h1) (by rw [ha]; exact h2)
            rw [cond_false, hv, aU]
            cases hz : (!decide (e = 0)) with
            | true => exact no
            | false =>
              obtain ⟨o, k, ho, hl⟩ := rune_tot F v
              rw [cond_false, ho, aU]
              exact ⟨o, k, rfl, hl⟩
theorem qm (F : Nat) (s : Bs) (hs : s.length ≤ 100000) (hF : s.length < F) : ∃ o k, fe F s = some (o, k) ∧ o.length ≤ 4 := by
  have htp : ∀ p, (Go.Lib.trimPrefix s p).length ≤ s.length := by
    intro p; unfold Go.Lib.trimPrefix; split <;> simp
  unfold fe gN
  simp only [bP, bA]
  generalize ([(([97, 109, 112] : List UInt8), (38 : Int)), (([108, 116] : List UInt8), 60), (([103, 116] : List UInt8), 62), (([113, 117, 111, 116] : List UInt8), 34), (([97, 112, 111, 115] : List UInt8), 39)] : List (List UInt8 × Int)) = m
  cases Go.Av.mhas m s with
  | true => exact ⟨_, _, rfl, hU _⟩
  | false =>
    rw [cond_false]
    cases Go.Lib.hasPrefix s [35, 120] with
    | true =>
      have := htp [35, 120]
      obtain ⟨o, k, ho, hl⟩ := mU F (Go.Lib.trimPrefix s [35, 120]) 16 (.inr rfl) (by omega) (by omega)
      rw [cond_true, ho, aU]; exact ⟨o, k, rfl, hl⟩
    | false =>
      rw [cond_false]
      cases Go.Lib.hasPrefix s [35] with
      | true =>
        have := htp [35]
        obtain ⟨o, k, ho, hl⟩ := mU F (Go.Lib.trimPrefix s [35]) 10 (.inl rfl) (by omega) (by omega)
        rw [cond_true, ho, aU]; exact ⟨o, k, rfl, hl⟩
      | false => exact ⟨[], false, rfl, by simp⟩
theorem se (F : Nat) (s : Bs) (h1 : 1 ≤ s.length) (hs : s.length ≤ 100000) (hF : s.length + 20 < F) : ∃ o k, fX F s = some (o, k) ∧ (k = 0 ∨ (3 ≤ k ∧ k ≤ s.length ∧ o.length ≤ 4)) := by
  have no : ∃ o k, (some (([] : Bs), (0 : Int)) : Option (Bs × Int)) = some (o, k) ∧ (k = 0 ∨ (3 ≤ k ∧ k ≤ s.length ∧ o.length ≤ 4)) := ⟨[], 0, rfl, .inl rfl⟩
  have hl : (ek s 1).length = s.length - 1 := by simp [ek]
  obtain ⟨j, hj, hj1, hj2⟩ := qU F (ek s 1) (by omega)
  have ha : fE [38, 59] = true := by decide
  unfold fX iI
  simp (disch := (first | omega | (simp; done) | (simp; omega))) only [fD, bA, ha, ka, kb, hj, bP]
  by_cases h : 1 ≤ j ∧ j ≤ 10
  · have hx : ((decide (1 ≤ j)) && (decide (j ≤ 10))) = true := by simp [h]
    simp (disch := (first | omega | (simp; done) | (simp; omega))) only [hx, Bool.not_true, Bool.not_false, hC, cV, dD, Bool.false_or]
    cases decide (at_ s (j + 1) = 38) with
    | true => exact no
    | false =>
      have hsub : (sub s 1 (j + 1)).length ≤ s.length := by simp [sub]; omega
      obtain ⟨o, k, ho, hol⟩ := qm F (sub s 1 (j + 1)) (by omega) (by omega)
      simp (disch := (first | omega | (simp; done) | (simp; omega))) only [cond_false, mA, bA, ho, aU]
      cases k with
      | false => exact no
      | true =>
        simp (disch := (first | omega | (simp; done) | (simp; omega))) only [Bool.not_true, cond_false, cV]
        exact ⟨o, j + 2, rfl, .inr ⟨by omega, by omega, hol⟩⟩
  · have hx : ((decide (1 ≤ j)) && (decide (j ≤ 10))) = false := by
      cases hq : (decide (1 ≤ j)) && (decide (j ≤ 10)) with
      | false => rfl
      | true => exact absurd (by simpa using hq) h
    simp only [hx, Bool.not_false, Bool.not_true, fC, Bool.true_or, cond_true]
    exact no
end Go.Pn
namespace Go.Pn
open Go.Pv Go.Av
def dg (c : UInt8) : Nat := if 48 ≤ c.toNat ∧ c.toNat ≤ 57 then c.toNat - 48 else if 97 ≤ c.toNat ∧ c.toNat ≤ 102 then c.toNat - 87 else if 65 ≤ c.toNat ∧ c.toNat ≤ 70 then c.toNat - 55 else 99
theorem pK {p : UInt8 → Prop} (h : ∀ n : Nat, n < 256 → p (UInt8.ofNat n)) (c : UInt8) : p c := by
  have := h c.toNat (UInt8.toNat_lt c)
  rwa [UInt8.ofNat_toNat] at this
theorem digit_eq (F : Nat) (c : UInt8) : hY F c = some (dg c : Int) := by
  show hY 0 c = _;exact pK (p := fun c => hY 0 c = some (dg c : Int)) (by decide +kernel) c
def isD (x : UInt8) : Bool := (decide (48 ≤ (x.toNat : Int))) && (decide ((x.toNat : Int) ≤ 57))
def isL (x : UInt8) : Bool := (decide (97 ≤ ((x ||| 32).toNat : Int))) && (decide (((x ||| 32).toNat : Int) ≤ 122))
theorem dig_D (b : Nat) (hb : b = 10 ∨ b = 16) (x : UInt8) (h : isD x = true) : (b ≤ (x - 48).toNat ↔ b ≤ dg x) ∧ ((x - 48).toNat < b → (x - 48).toNat = dg x) := by
  revert h
  refine pK (p := fun x => isD x = true → (b ≤ (x - 48).toNat ↔ b ≤ dg x) ∧ ((x - 48).toNat < b → (x - 48).toNat = dg x)) ?_ x
  rcases hb with rfl | rfl <;> decide +kernel
theorem dig_L (b : Nat) (hb : b = 10 ∨ b = 16) (x : UInt8) (h0 : isD x = false) (h : isL x = true) : (b ≤ ((x ||| 32) - 97 + 10).toNat ↔ b ≤ dg x) ∧ (((x ||| 32) - 97 + 10).toNat < b → ((x ||| 32) - 97 + 10).toNat = dg x) := by
  revert h0 h
  refine pK (p := fun x => isD x = false → isL x = true → (b ≤ ((x ||| 32) - 97 + 10).toNat ↔ b ≤ dg x) ∧ (((x ||| 32) - 97 + 10).toNat < b → ((x ||| 32) - 97 + 10).toNat = dg x)) ?_ x
  rcases hb with rfl | rfl <;> decide +kernel
theorem dig_no (x : UInt8) (h0 : isD x = false) (h : isL x = false) : dg x = 99 := by
  revert h0 h
  exact pK (p := fun x => isD x = false → isL x = false → dg x = 99) (by decide +kernel) x
def num (b : Nat) : Nat → Bs → Option Nat
  | v, [] => some v
  | v, c :: r => if b ≤ dg c then none else num b (b * v + dg c) r
theorem pC (x : Int) (h0 : 0 ≤ x) (h1 : x < 18446744073709551616) : IntKind.u64.wrap x = x := by
  have : IntKind.u64.wrap x = x % 18446744073709551616 := rfl
  rw [this]; omega
theorem oZ (F : Nat) (s : Bs) (b : Nat) (hb : b = 10 ∨ b = 16) (c : Int) (hc : 1152921504606846976 ≤ c) (hs : s.length ≤ 10) : ∀ (n i v : Nat), s.length - i < n → v < 16 ^ i → i ≤ s.length →
    bC F s (b : Int) c n (false, (v : Int), (i : Int)) = match num b v (s.drop i) with | none => some (0, 2) | some w => some ((w : Int), 0) := by
  intro n
  induction n with
  | zero => intro i v h; omega
  | succ n ih =>
    intro i v hn hv hi;show cR F s (b : Int) c (bC F s (b : Int) c n) false (v : Int) (i : Int) = _
    unfold cR dv dL
    by_cases h : i < s.length
    · have hd : s.drop i = s[i] :: s.drop (i + 1) := aZ h
      have hp : (16 : Nat) ^ i ≤ 16 ^ 9 := Nat.pow_le_pow_right (by omega) (by omega)
      have hp2 : (16 : Nat) ^ 9 = 68719476736 := rfl
      have hp3 : (16 : Nat) ^ (i + 1) = 16 ^ i * 16 := Nat.pow_succ _ _
      have key : ∀ d : UInt8, ((b ≤ d.toNat ↔ b ≤ dg s[i]) ∧ (d.toNat < b → d.toNat = dg s[i])) → cl (b : Int) c false (v : Int) (i : Int) (bC F s (b : Int) c n) d = match num b v (s.drop i) with | none => some (0, 2) | some w => some ((w : Int), 0) := by
        intro d ⟨h1, h2⟩
        rw [hd]
        unfold cl cQ
        have hB : ((Go.Av.toB (b : Int)).toNat : Int) = (b : Int) := by rcases hb with rfl | rfl <;> rfl
        rw [hB]
        by_cases hbd : b ≤ d.toNat
        · rw [bT (by omega)]
          simp [num, h1.1 hbd]
        · have hd2 := h2 (by omega)
          have hbd' : ¬ b ≤ dg s[i] := fun e => hbd (h1.2 e)
          have hlt : d.toNat < 16 := by rcases hb with rfl | rfl <;> omega
          have hbv : b * v ≤ 16 * v := Nat.mul_le_mul_right v (by rcases hb with rfl | rfl <;> omega)
          have hmul : (v : Int) * (b : Int) = ((b * v : Nat) : Int) := by rw [Nat.mul_comm]; simp
          have wb : IntKind.u64.wrap (b : Int) = (b : Int) := pC _ (by omega) (by rcases hb with rfl | rfl <;> omega)
          have wd : IntKind.u64.wrap (d.toNat : Int) = (d.toNat : Int) := pC _ (by omega) (by omega)
          have wm : IntKind.u64.wrap ((b * v : Nat) : Int) = ((b * v : Nat) : Int) := pC _ (by omega) (by omega)
          have ws : IntKind.u64.wrap (((b * v : Nat) : Int) + (d.toNat : Int)) = ((b * v + d.toNat : Nat) : Int) := by rw [pC _ (by omega) (by omega)]; simp
          have wc : IntKind.u64.wrap ((IntKind.u64.wrap (1 * 2 ^ min (Int.toNat (IntKind.u64.wrap 64)) IntKind.u64.bits)) - 1) = 18446744073709551615 := by decide +kernel
          rw [wb, wd, hmul, wm, ws, wc, bF (by omega), bF (by omega), decide_eq_false (by omega : ¬ ((b * v + d.toNat : Nat) : Int) < ((b * v : Nat) : Int)), decide_eq_false (by omega : ¬ (18446744073709551615 : Int) < ((b * v + d.toNat : Nat) : Int))]
          rw [Bool.or_self, cond_false, cV (by omega), cS, ih (i + 1) (b * v + d.toNat) (by omega) (by rw [hp3]; rcases hb with rfl | rfl <;> omega) (by omega)]
          simp only [num, hbd', if_false, hd2]
      have hb0 : decide ((b : Int) = 0) = false := decide_eq_false (by rcases hb with rfl | rfl <;> omega)
      simp (disch := omega) only [bT, dD, bA, gJ h, hb0, Bool.and_false, cond_false, bP, fY]
      cases hD : isD s[i] with
      | true =>
        have e : ((decide (48 ≤ ((s[i]).toNat : Int))) && (decide (((s[i]).toNat : Int) ≤ 57))) = true := hD
        rw [e, cond_true]
        exact key _ (dig_D b hb _ hD)
      | false =>
        have e : ((decide (48 ≤ ((s[i]).toNat : Int))) && (decide (((s[i]).toNat : Int) ≤ 57))) = false := hD
        rw [e, cond_false]
        have el : ((decide (97 ≤ ((s[i] ||| 32).toNat : Int))) && (decide ((((bif decide (97 ≤ ((s[i] ||| 32).toNat : Int)) then (s[i] ||| 32) else default) : UInt8).toNat : Int) ≤ 122))) = isL s[i] := by
          unfold isL
          cases decide (97 ≤ ((s[i] ||| 32).toNat : Int)) <;> rfl
        rw [el]
        cases hL : isL s[i] with
        | true =>
          rw [cond_true]
          exact key _ (dig_L b hb _ hD hL)
        | false =>
          rw [cond_false, hd]
          have := dig_no _ hD hL
          have : b ≤ dg s[i] := by rw [this]; rcases hb with rfl | rfl <;> omega
          simp [num, this]
    · rw [bF (by omega), iJ]
      have hi2 : s.length ≤ i := by omega
      rw [bh hi2]
      rfl
theorem int_eq (F : Nat) (s : Bs) (b : Nat) (hb : b = 10 ∨ b = 16) (h0 : s ≠ []) (hs : s.length ≤ 10) (hF : 20 < F) (h43 : at_ s 0 ≠ 43) (h45 : at_ s 0 ≠ 45) :
    cF F s (b : Int) 0 = match num b 0 s with | none => some (0, 1) | some w => some ((w : Int), 0) := by
  have hp : 0 < s.length := List.length_pos_iff.2 h0
  have hw : ∀ (t : Bs) (v w : Nat), num b v t = some w → t.length ≤ 10 → v < 16 ^ (10 - t.length) → w < 16 ^ 10 := by
    intro t
    induction t with
    | nil => intro v w h _ hv; have : v = w := by simpa [num] using h
             subst this; exact hv
    | cons c r ih =>
      intro v w h hl hv
      simp only [num] at h
      split at h
      · cases h
      · rename_i hd
        simp only [List.length_cons] at hl hv
        refine ih _ _ h (by omega) ?_
        have e : 10 - r.length = (10 - (r.length + 1)) + 1 := by omega
        rw [e, Nat.pow_succ]
        rcases hb with rfl | rfl <;> omega
  have hu : dR F s (b : Int) 0 = match num b 0 s with | none => some (0, 2) | some w => some ((w : Int), 0) := by
    unfold dR dt du cB
    have h2 : ((decide (2 ≤ (b : Int))) && (decide ((b : Int) ≤ 36))) = true := by rcases hb with rfl | rfl <;> rfl
    rw [bF h0, h2, ka, jy rfl]
    have hwr := li 64
    have go := fun c hc => oZ F s b hb c hc hs F 0 0 (by omega) (by omega) (by omega)
    rcases hb with rfl | rfl
    · rw [bT (show ((10 : Nat) : Int) = 10 from rfl), jy hwr, eN (by omega)]; exact go _ (by omega)
    · rw [bF (show ¬ ((16 : Nat) : Int) = 10 by decide), bT (show ((16 : Nat) : Int) = 16 from rfl), jy hwr, eN (by omega)]; exact go _ (by omega)
  have hi : ex F s (b : Int) 0 = match num b 0 s with | none => some (0, 2) | some w => some ((w : Int), 0) := by
    unfold ex cJ dI dm
    have e1 : IntKind.u64.wrap (1 * 2 ^ min (Int.toNat (IntKind.u64.wrap 63)) IntKind.u64.bits) = 9223372036854775808 := by decide +kernel
    have e2 : (0 : Int) ≤ IntKind.u64.wrap 63 := by decide +kernel
    rw [hu]
    cases hn : num b 0 s with
    | none => simp (disch := omega) only [bF h0, bF, dD, bA, aU]; rfl
    | some w =>
      have hwb : w < 16 ^ 10 := hw s 0 w hn hs (Nat.pow_pos (by omega))
      have hp2 : (16 : Nat) ^ 10 = 1099511627776 := rfl
      simp (disch := omega) only [bF h0, bF, dD, bA, aU, e1, jy e2, cV, jy, Bool.not_false, Bool.true_and, Bool.false_and, cond_false]
      rfl
  unfold cF
  rw [hi]
  cases hn : num b 0 s with
  | none =>
    simp only [aU]
    rw [show (!decide ((2 : Int) = 0)) = true by rfl, cond_true, kb (by omega)]; rfl
  | some w => rfl
theorem lj (n : Int) (c : Nat) (h : n = c) : toB n = UInt8.ofNat c := by
  subst h
  unfold toB
  apply UInt8.toNat.inj
  rw [UInt8.toNat_ofNat', UInt8.toNat_ofNat']
  omega
theorem lg (F : Nat) (r : Int) : fM F r = if (r = 9 ∨ r = 10 ∨ r = 13) ∨ (32 ≤ r ∧ r ≤ 55295) ∨ (57344 ≤ r ∧ r ≤ 65533) ∨ (65536 ≤ r ∧ r ≤ 1114111) then some (cf r, true) else some ([], false) := by
  have fin : -2147483648 ≤ r ∧ r ≤ 2147483647 → (grd (okJ r) (lt (cf r) fun x17 => some (x17, true))) = some (cf r, true) := fun h => by rw [grd_J h]; rfl
  unfold fM iI
  simp only [fY]
  cases hA : ((decide (r = 9)) || (decide (r = 10))) || (decide (r = 13)) with
  | true =>
    have : r = 9 ∨ r = 10 ∨ r = 13 := by simpa [or_assoc] using hA
    simp only [Bool.not_true, Bool.false_and, cond_false]
    rw [if_pos (.inl this)]; exact fin (by omega)
  | false =>
    have hA' : ¬ (r = 9 ∨ r = 10 ∨ r = 13) := by simp at hA; omega
    simp only [Bool.not_false, Bool.true_and, cond_true]
    cases h7 : (decide (32 ≤ r)) && (decide (r ≤ 55295)) with
    | true =>
      have : 32 ≤ r ∧ r ≤ 55295 := by simpa using h7
      simp only [Bool.not_true, Bool.false_and, cond_false]
      rw [if_pos (by omega)]; exact fin (by omega)
    | false =>
      have h7' : ¬ (32 ≤ r ∧ r ≤ 55295) := fun e => by simp [e] at h7
      simp only [Bool.not_false, Bool.true_and, cond_true]
      cases h10 : (decide (57344 ≤ r)) && (decide (r ≤ 65533)) with
      | true =>
        have : 57344 ≤ r ∧ r ≤ 65533 := by simpa using h10
        simp only [Bool.not_true, Bool.false_and, cond_false]
        rw [if_pos (by omega)]; exact fin (by omega)
      | false =>
        have h10' : ¬ (57344 ≤ r ∧ r ≤ 65533) := fun e => by simp [e] at h10
        simp only [Bool.not_false, Bool.true_and, cond_true]
        cases h13 : (decide (65536 ≤ r)) && (decide (r ≤ 1114111)) with
        | true =>
          have : 65536 ≤ r ∧ r ≤ 1114111 := by simpa using h13
          simp only [Bool.not_true, Bool.false_and, cond_false]
          rw [if_pos (by omega)]; exact fin (by omega)
        | false =>
          have h13' : ¬ (65536 ≤ r ∧ r ≤ 1114111) := fun e => by simp [e] at h13
          rw [if_neg (by omega)]; rfl
theorem cond9 (p q s a b c d e f : Prop) [Decidable p] [Decidable q] [Decidable s] [Decidable a] [Decidable b] [Decidable c] [Decidable d] [Decidable e] [Decidable f] :
    (((!((((decide p) || (decide q)) || (decide s)) || ((decide a) && (decide b)))) && (!((decide c) && (decide d)))) && (!((decide e) && (decide f)))) = !decide ((p ∨ q ∨ s) ∨ (a ∧ b) ∨ (c ∧ d) ∨ (e ∧ f)) := by
  simp only [Bool.decide_or, Bool.decide_and, Bool.not_or, Bool.and_assoc, Bool.or_assoc]
theorem rV (r : Int) : (((!((((decide (r = 9)) || (decide (r = 10))) || (decide (r = 13))) || ((decide (32 ≤ r)) && (decide (r ≤ 55295))))) && (!((decide (57344 ≤ r)) && (decide (r ≤ 65533))))) && (!((decide (65536 ≤ r)) && (decide (r ≤ 1114111))))) = !decide ((r = 9 ∨ r = 10 ∨ r = 13) ∨ (32 ≤ r ∧ r ≤ 55295) ∨ (57344 ≤ r ∧ r ≤ 65533) ∨ (65536 ≤ r ∧ r ≤ 1114111)) := cond9 _ _ _ _ _ _ _ _ _
theorem rn (k m c : Nat) : toB ((k : Int) + (c : Int) / (m : Int)) = UInt8.ofNat (k + c / m) := lj _ _ (by rw [Int.natCast_add, Int.natCast_ediv])
theorem tb_mod (k m c : Nat) : toB ((k : Int) + (c : Int) % (m : Int)) = UInt8.ofNat (k + c % m) := lj _ _ (by rw [Int.natCast_add, Int.natCast_emod])
theorem rx (k m n c : Nat) : toB ((k : Int) + (c : Int) / (m : Int) % (n : Int)) = UInt8.ofNat (k + c / m % n) := lj _ _ (by rw [Int.natCast_add, Int.natCast_emod, Int.natCast_ediv])
theorem enc1 (c : Nat) (hc : Utf8.valid (c : Int) = true) : Utf8.encode (c : Int) = if c < 128 then ⟨#[UInt8.ofNat c]⟩ else if c < 2048 then ⟨#[UInt8.ofNat (192 + c / 64), UInt8.ofNat (128 + c % 64)]⟩
    else if c < 65536 then ⟨#[UInt8.ofNat (224 + c / 4096), UInt8.ofNat (128 + c / 64 % 64), UInt8.ofNat (128 + c % 64)]⟩ else ⟨#[UInt8.ofNat (240 + c / 262144), UInt8.ofNat (128 + c / 4096 % 64), UInt8.ofNat (128 + c / 64 % 64), UInt8.ofNat (128 + c % 64)]⟩ := by
  have hcc : (if Utf8.valid (c : Int) = true then ((c : Int)).toNat else Utf8.runeError) = c := by rw [if_pos hc, Int.toNat_natCast]
  unfold Utf8.encode
  rw [hcc]
theorem pR (n : Int) : cf n = (Utf8.encode n).data.toList := rfl
theorem qO (c : Nat) (hc : Utf8.valid (c : Int) = true) : cf (c : Int) = if c < 128 then [toB c] else if c < 2048 then [toB (192 + (c : Int) / 64), toB (128 + (c : Int) % 64)]
    else if c < 65536 then [toB (224 + (c : Int) / 4096), toB (128 + (c : Int) / 64 % 64), toB (128 + (c : Int) % 64)] else [toB (240 + (c : Int) / 262144), toB (128 + (c : Int) / 4096 % 64), toB (128 + (c : Int) / 64 % 64), toB (128 + (c : Int) % 64)] := by
  have t1 : toB (c : Int) = UInt8.ofNat c := lj (c : Int) c rfl
  have t2 : toB (192 + (c : Int) / 64) = UInt8.ofNat (192 + c / 64) := rn 192 64 c
  have t3 : toB (128 + (c : Int) % 64) = UInt8.ofNat (128 + c % 64) := tb_mod 128 64 c
  have t4 : toB (224 + (c : Int) / 4096) = UInt8.ofNat (224 + c / 4096) := rn 224 4096 c
  have t5 : toB (128 + (c : Int) / 64 % 64) = UInt8.ofNat (128 + c / 64 % 64) := rx 128 64 64 c
  have t6 : toB (240 + (c : Int) / 262144) = UInt8.ofNat (240 + c / 262144) := rn 240 262144 c
  have t7 : toB (128 + (c : Int) / 4096 % 64) = UInt8.ofNat (128 + c / 4096 % 64) := rx 128 4096 64 c
  rw [t1, t2, t3, t4, t5, t6, t7, pR, enc1 c hc]
  by_cases h1 : c < 128
  · rw [if_pos h1, if_pos h1]
  · rw [if_neg h1, if_neg h1]
    by_cases h2 : c < 2048
    · rw [if_pos h2, if_pos h2]
    · rw [if_neg h2, if_neg h2]
      by_cases h3 : c < 65536
      · rw [if_pos h3, if_pos h3]
      · rw [if_neg h3, if_neg h3]
theorem qN (c : Nat) (h : ((c : Int) = 9 ∨ (c : Int) = 10 ∨ (c : Int) = 13) ∨ (32 ≤ (c : Int) ∧ (c : Int) ≤ 55295) ∨ (57344 ≤ (c : Int) ∧ (c : Int) ≤ 65533) ∨ (65536 ≤ (c : Int) ∧ (c : Int) ≤ 1114111)) : Utf8.valid (c : Int) = true := by
  unfold Utf8.valid
  by_cases h1 : (c : Int) < 55296
  · have : (0 : Int) ≤ (c : Int) := by omega
    rw [decide_eq_true this, decide_eq_true h1]; rfl
  · have h2 : (57344 : Int) ≤ (c : Int) := by omega
    have h3 : (c : Int) ≤ 1114111 := by omega
    rw [decide_eq_true h2, decide_eq_true h3, Bool.and_self, Bool.or_true]
theorem my (F : Nat) (r : Int) : fM F r = dT F r := by
  rw [lg]
  unfold dT
  rw [rV]
  by_cases h : (r = 9 ∨ r = 10 ∨ r = 13) ∨ (32 ≤ r ∧ r ≤ 55295) ∨ (57344 ≤ r ∧ r ≤ 65533) ∨ (65536 ≤ r ∧ r ≤ 1114111)
  · rw [if_pos h, decide_eq_true h, Bool.not_true, cond_false]
    obtain ⟨c, rfl⟩ : ∃ c : Nat, r = c := ⟨r.toNat, by omega⟩
    rw [qO c (qN c h)]
    by_cases h1 : c < 128
    · rw [if_pos h1, bT (by omega)]
    · rw [if_neg h1, bF (by omega)]
      by_cases h2 : c < 2048
      · rw [if_pos h2, bT (by omega)]
        simp (disch := omega) only [pA, cV]
      · rw [if_neg h2, bF (by omega)]
        by_cases h3 : c < 65536
        · rw [if_pos h3, bT (by omega)]
          simp (disch := omega) only [pA, cV]
        · rw [if_neg h3, bF (by omega)]
          simp (disch := omega) only [pA, cV]
  · rw [if_neg h, decide_eq_false h]; rfl
def cap (w : Nat) : Nat := if 1114111 < w then 1114112 else w
theorem pT (F : Nat) (s : Bs) (b : Nat) (hb : b = 10 ∨ b = 16) (hs : s.length ≤ 100000) : ∀ (n i v : Nat), s.length - i < n → i ≤ s.length →
    gy F s (b : Int) n ((cap v : Int), (i : Int)) = match num b v (s.drop i) with | none => some (-1) | some w => some (if s.length = 0 then -1 else (cap w : Int)) := by
  intro n
  induction n with
  | zero => intro i v h; omega
  | succ n ih =>
    intro i v hn hi;show gz F s (b : Int) (gy F s (b : Int) n) (cap v : Int) (i : Int) = _
    unfold gz gx jk
    have hcv : cap v ≤ 1114112 := by unfold cap; split <;> omega
    by_cases h : i < s.length
    · have hd : s.drop i = s[i] :: s.drop (i + 1) := aZ h
      simp (disch := omega) only [bT, dD, bA, gJ h, digit_eq, bP]
      rw [hd]
      by_cases hbd : b ≤ dg s[i]
      · rw [bT (by omega)]; simp [num, hbd]
      · have hdb : dg s[i] < 16 := by rcases hb with rfl | rfl <;> omega
        have hbc : b * cap v ≤ 16 * cap v := Nat.mul_le_mul_right _ (by rcases hb with rfl | rfl <;> omega)
        have e1 : (b : Int) * (cap v : Int) = ((b * cap v : Nat) : Int) := by simp
        have e2 : ((b * cap v : Nat) : Int) + (dg s[i] : Int) = ((b * cap v + dg s[i] : Nat) : Int) := by simp
        have e3 : cap (b * v + dg s[i]) = if 1114111 < b * cap v + dg s[i] then 1114112 else b * cap v + dg s[i] := by
          unfold cap
          rcases hb with rfl | rfl <;> (split <;> split <;> (try split) <;> omega)
        rw [bF (by omega), e1, e2, cV (by omega), cV (by omega)]
        simp only [num, hbd, if_false]
        have := ih (i + 1) (b * v + dg s[i]) (by omega) (by omega)
        rw [e3] at this
        by_cases hc : 1114111 < b * cap v + dg s[i]
        · rw [bT (by omega), cV (by omega), cS]
          rw [if_pos hc] at this
          exact this
        · rw [bF (by omega), cV (by omega), cS]
          rw [if_neg hc] at this
          exact this
    · have hi2 : s.length ≤ i := by omega
      rw [bF (by omega), bh hi2]
      simp only [num]
      by_cases h0 : s.length = 0
      · rw [bT (by omega), if_pos h0]
      · rw [bF (by omega), if_neg h0]
theorem rY (F : Nat) (s : Bs) (b : Nat) (hb : b = 10 ∨ b = 16) (hs : s.length ≤ 100000) (hF : s.length < F) :
    eG F s (b : Int) = match num b 0 s with | none => some (-1) | some w => some (if s.length = 0 then -1 else (cap w : Int)) := by
  have := pT F s b hb hs F 0 0 (by omega) (by omega)
  have hc : cap 0 = 0 := rfl
  rw [hc, List.drop_zero] at this
  exact this
theorem pI {s : Bs} {b v : Nat} (hb : b = 10 ∨ b = 16) {c : UInt8} (hc : dg c = 99) (h : c ∈ s) : num b v s = none := by
  induction s generalizing v with
  | nil => cases h
  | cons d r ih =>
    simp only [num]
    rcases List.mem_cons.1 h with rfl | h
    · rw [if_pos (by rcases hb with rfl | rfl <;> omega)]
    · split
      · rfl
      · exact ih h
end Go.Pn
namespace Go.Pn
open Go.Pv Go.Av
theorem iR (F : Nat) : dT F (-1) = some ([], false) := by rw [← my, lg, if_neg (by omega)]
theorem rune_cap (F w : Nat) : dT F (cap w : Int) = dT F (w : Int) := by
  unfold cap
  split
  · rw [← my, ← my, lg, lg, if_neg (by omega), if_neg (by omega)]
  · rfl
theorem nI (F : Nat) (s : Bs) (hs : s.length ≤ 100000) : eC F s [95] = some (decide (0 ≤ Go.Lib.indexByte s 95)) := by
  unfold eC iH js fj fu
  have e : ((decide (8 < s.length)) && (decide (2 ≤ ([95] : Bs).length))) = false := by simp
  have e2 : at_ ([95] : Bs) 0 = 95 := rfl
  have e3 : fE [95] = true := by decide
  have e4 : ((95 : UInt8).toNat : Int) = 95 := rfl
  have e5 : toB 95 = 95 := rfl
  rw [e, cond_false]
  simp (disch := (first | omega | (simp; done) | (simp; omega))) only [e3, ka, kb, bF, bT, dD, bA, e2, e4, grd_J]
  rfl
theorem jG (F : Nat) (s : Bs) (b : Nat) (hb : b = 10 ∨ b = 16) (hs : s.length ≤ 10) (hF : 20 < F) : ∃ v, eG F s (b : Int) = some v ∧ cT F s (b : Int) = dT F v := by
  rw [rY F s b hb (by omega) (by omega)]
  unfold cT
  cases s with
  | nil =>
    refine ⟨-1, rfl, ?_⟩
    rw [iR]
    simp [fC, bA, iJ]
  | cons c r =>
    have h0 : decide ((c :: r) = []) = false := decide_eq_false (by simp)
    have ha : at_ (c :: r) 0 = c := rfl
    have hg : ∀ (q : Bool) (k : Option (Bs × Bool)), ee q (cD 0 (c :: r).length) k = k := fun q k => pz (fun _ => by simp)
    have hlen : ¬ (c :: r).length = 0 := by simp
    rw [nI F (c :: r) (by omega)]
    simp only [hg, h0, bA, ha, fY, Bool.false_or]
    by_cases h1 : c = 43
    · rw [pI hb (c := 43) (by decide) (by simp [h1])]
      refine ⟨-1, rfl, ?_⟩
      rw [iR]; simp [h1]
    · by_cases h2 : c = 45
      · rw [pI hb (c := 45) (by decide) (by simp [h2])]
        refine ⟨-1, rfl, ?_⟩
        rw [iR]; simp [h2]
      · by_cases h3 : c = 95
        · rw [pI hb (c := 95) (by decide) (by simp [h3])]
          refine ⟨-1, rfl, ?_⟩
          rw [iR]; simp [h3]
        · simp only [h1, h2, h3, decide_false, Bool.or_self, Bool.false_or, Bool.not_false, cond_true]
          by_cases h4 : 0 ≤ Go.Lib.indexByte (c :: r) 95
          · rw [bT h4]
            have hmem : (95 : UInt8) ∈ c :: r := by
              by_cases hm : (95 : UInt8) ∈ c :: r
              · exact hm
              · have := kQ (c := 95) (s := c :: r) (fun x hx e => hm (e ▸ hx))
                omega
            rw [pI hb (c := 95) (by decide) hmem]
            exact ⟨-1, rfl, (iR F).symm⟩
          · rw [bF h4, int_eq F (c :: r) b hb (by simp) hs hF (by rw [ha]; exact h1) (by rw [ha]; exact h2)]
            cases hn : num b 0 (c :: r) with
            | none => exact ⟨-1, rfl, by rw [iR]; rfl⟩
            | some w =>
              refine ⟨(cap w : Int), by simp only [hlen, if_false], ?_⟩
              rw [rune_cap, ← my]
              simp only [aU]
              simp only [decide_true, Bool.not_true, cond_false]
              cases he : fM F (w : Int) with
              | none => rfl
              | some p => rfl
theorem rU (F : Nat) (b : Bs) (hb : b.length ≤ 10) (hF : 20 < F) : fe F b = gS F b := by
  have fallback : mhas [(([97, 109, 112] : List UInt8), (38 : Int)), (([108, 116] : List UInt8), 60), (([103, 116] : List UInt8), 62), (([113, 117, 111, 116] : List UInt8), 34), (([97, 112, 111, 115] : List UInt8), 39)] b = false →
      ¬ b = [97, 109, 112] → ¬ b = [108, 116] → ¬ b = [103, 116] → ¬ b = [113, 117, 111, 116] → ¬ b = [97, 112, 111, 115] → fe F b = gS F b := by
    intro hm n1 n2 n3 n4 n5
    unfold fe gN gS ip
    simp only [bP, bA, hm, cond_false, bF n1, bF n2, bF n3, bF n4, bF n5]
    cases b with
    | nil => simp [Go.Lib.hasPrefix, fC]
    | cons c r =>
      cases r with
      | nil =>
        obtain ⟨v, _, hv⟩ := jG F [] 10 (.inl rfl) (by simp) hF
        have e0 : cT F [] 10 = some ([], false) := by unfold cT; simp [fC, bA, iJ]
        by_cases h : c = 35
        · subst h
          have e1 : Go.Lib.hasPrefix [35] [35, 120] = false := by decide
          have e2 : Go.Lib.hasPrefix [35] [35] = true := by decide
          have e3 : Go.Lib.trimPrefix [35] [35] = [] := by decide
          rw [e1, e2, e3, cond_false, cond_true, e0]
          simp [aU, fC]
        · have e1 : Go.Lib.hasPrefix [c] [35, 120] = false := by simp [Go.Lib.hasPrefix, List.isPrefixOf]
          have e2 : Go.Lib.hasPrefix [c] [35] = false := by simp [Go.Lib.hasPrefix, List.isPrefixOf, Ne.symm h]
          rw [e1, e2, cond_false, cond_false]
          simp [fC]
      | cons d r =>
        have ha : at_ (c :: d :: r) 0 = c := rfl
        have hb1 : at_ (c :: d :: r) 1 = d := rfl
        have hl : decide (((c :: d :: r).length : Int) < 2) = false := decide_eq_false (by simp only [List.length_cons]; omega)
        have f1 : ek (c :: d :: r) 1 = d :: r := rfl
        have f2 : ek (c :: d :: r) 2 = r := rfl
        have hg : ∀ (q : Bool) (k : Option (Bs × Bool)), ee q (cD 0 (c :: d :: r).length) k = k := fun q k => pz (fun _ => by simp only [List.length_cons]; omega)
        simp only [hg, hl, ha, hb1, f1, f2, Bool.false_or]
        by_cases h : c = 35
        · subst h
          rw [show (!decide ((35 : UInt8) = 35)) = false by rfl, cond_false]
          obtain ⟨v, hv1, hv2⟩ := jG F (d :: r) 10 (.inl rfl) (by simp at hb ⊢; omega) hF
          have hv1' : eG F (d :: r) 10 = some v := hv1
          have hv2' : cT F (d :: r) 10 = dT F v := hv2
          simp (disch := (first | omega | (simp; done) | (simp; omega))) only [fD, dD, hv1', bP]
          by_cases hx : d = 120
          · subst hx
            obtain ⟨u, hu1, hu2⟩ := jG F r 16 (.inr rfl) (by simp at hb ⊢; omega) hF
            have hu1' : eG F r 16 = some u := hu1
            have hu2' : cT F r 16 = dT F u := hu2
            have e1 : Go.Lib.hasPrefix (35 :: 120 :: r) [35, 120] = true := by simp [Go.Lib.hasPrefix, List.isPrefixOf]
            have e3 : Go.Lib.trimPrefix (35 :: 120 :: r) [35, 120] = r := by simp [Go.Lib.trimPrefix, Go.Lib.hasPrefix, List.isPrefixOf]
            rw [e1, e3, cond_true, bT rfl, hu1', bP, hu2']
          · have e1 : Go.Lib.hasPrefix (35 :: d :: r) [35, 120] = false := by simp [Go.Lib.hasPrefix, List.isPrefixOf, Ne.symm hx]
            have e2 : Go.Lib.hasPrefix (35 :: d :: r) [35] = true := by simp [Go.Lib.hasPrefix, List.isPrefixOf]
            have e3 : Go.Lib.trimPrefix (35 :: d :: r) [35] = d :: r := by simp [Go.Lib.trimPrefix, Go.Lib.hasPrefix, List.isPrefixOf]
            rw [e1, e2, e3, cond_false, cond_true, bF hx, hv2']
        · have e1 : Go.Lib.hasPrefix (c :: d :: r) [35, 120] = false := by simp [Go.Lib.hasPrefix, List.isPrefixOf, Ne.symm h]
          have e2 : Go.Lib.hasPrefix (c :: d :: r) [35] = false := by simp [Go.Lib.hasPrefix, List.isPrefixOf, Ne.symm h]
          rw [e1, e2, cond_false, cond_false, decide_eq_false h]; rfl
  have named : ∀ (n : Bs) (k : Int) (x : Bs), (mhas [(([97, 109, 112] : List UInt8), (38 : Int)), (([108, 116] : List UInt8), 60), (([103, 116] : List UInt8), 62), (([113, 117, 111, 116] : List UInt8), 34), (([97, 112, 111, 115] : List UInt8), 39)] n = true) →
      cf (mget [(([97, 109, 112] : List UInt8), (38 : Int)), (([108, 116] : List UInt8), 60), (([103, 116] : List UInt8), 62), (([113, 117, 111, 116] : List UInt8), 34), (([97, 112, 111, 115] : List UInt8), 39)] n) = x → fe F n = some (x, true) := by
    intro n k x h1 h2
    unfold fe gN
    simp only [bP, bA, h1, h2, cond_true]
  by_cases n1 : b = [97, 109, 112]
  · subst n1; rw [named _ 38 [38] (by decide +kernel) (by decide +kernel)]; rfl
  by_cases n2 : b = [108, 116]
  · subst n2; rw [named _ 60 [60] (by decide +kernel) (by decide +kernel)]; rfl
  by_cases n3 : b = [103, 116]
  · subst n3; rw [named _ 62 [62] (by decide +kernel) (by decide +kernel)]; rfl
  by_cases n4 : b = [113, 117, 111, 116]
  · subst n4; rw [named _ 34 [34] (by decide +kernel) (by decide +kernel)]; rfl
  by_cases n5 : b = [97, 112, 111, 115]
  · subst n5; rw [named _ 39 [39] (by decide +kernel) (by decide +kernel)]; rfl
  refine fallback ?_ n1 n2 n3 n4 n5
  simp [mhas, List.lookup, beq_false_of_ne n1, beq_false_of_ne n2, beq_false_of_ne n3, beq_false_of_ne n4, beq_false_of_ne n5]
end Go.Pn
namespace Go.Pn
open Go.Pv Go.Av
theorem getD_at (s : Bs) (k : Nat) (h : k < s.length) : (⟨s.toArray⟩ : ByteArray).get! k = s[k] := by
  show (s.toArray)[k]! = _
  simp [h]
theorem sO (s : Bs) (p m : Nat) (hm : 0 < m) (hk : m < (jt s p).2) : ∃ h : p + m < s.length, 128 ≤ (s[p + m]).toNat := by
  have key : ∀ k, (decide (p + k < (⟨s.toArray⟩ : ByteArray).size) && ((⟨s.toArray⟩ : ByteArray).get! (p + k)).toNat / 64 == 2) = true → ∃ h : p + k < s.length, 128 ≤ (s[p + k]).toNat := by
    intro k hk
    simp only [Bool.and_eq_true, decide_eq_true_eq, beq_iff_eq] at hk
    obtain ⟨h1, h2⟩ := hk
    have h1' : p + k < s.length := h1
    rw [getD_at s (p + k) h1'] at h2
    exact ⟨h1', by omega⟩
  unfold jt Utf8.decode at hk
  simp only at hk
  split at hk
  · simp at hk; omega
  · split at hk
    · rename_i h2
      simp only [Bool.and_eq_true] at h2
      split at hk
      · have : m = 1 := by simp at hk; omega
        subst this;exact key 1 (by simpa using h2.2)
      · simp at hk; omega
    · split at hk
      · rename_i h2
        simp only [Bool.and_eq_true] at h2
        split at hk
        · have : m = 1 ∨ m = 2 := by simp at hk; omega
          rcases this with rfl | rfl
          · exact key 1 (by simpa using h2.1.2)
          · exact key 2 (by simpa using h2.2)
        · simp at hk; omega
      · split at hk
        · rename_i h2
          simp only [Bool.and_eq_true] at h2
          split at hk
          · have : m = 1 ∨ m = 2 ∨ m = 3 := by simp at hk; omega
            rcases this with rfl | rfl | rfl
            · exact key 1 (by simpa using h2.1.1.2)
            · exact key 2 (by simpa using h2.1.2)
            · exact key 3 (by simpa using h2.2)
          · simp at hk; omega
        · simp at hk; omega
theorem decR_low (s : Bs) (p : Nat) (h : p < s.length) (hb : (s[p]).toNat < 128) : jt s p = ((s[p]).toNat, 1) := decode_ascii (⟨s.toArray⟩ : ByteArray) p h hb
theorem sP (s : Bs) (p : Nat) (h : p < s.length) (hb : 128 ≤ (s[p]).toNat) : 128 ≤ (jt s p).1 := (decode_high (⟨s.toArray⟩ : ByteArray) p h hb).1
theorem qT (F : Nat) (hF : 5 ≤ F) (r : Int) (hr : 128 ≤ r) : fu F [38, 59] r = some (-1) := by
  obtain ⟨k1, k2⟩ := lN r hr
  have k3 := hU r
  unfold fu
  have hf : ((decide (0 ≤ r)) && (decide (r < 128))) = false := by rw [decide_eq_false (by omega : ¬ r < 128), Bool.and_false]
  rw [hf, cond_false]
  by_cases h2 : r = 65533
  · rw [bT h2]
    obtain ⟨m, rfl⟩ : ∃ m, F = m + 3 := ⟨F - 3, by omega⟩
    have e0 : jt [38, 59] 0 = (38, 1) := by decide +kernel
    have e1 : jt [38, 59] 1 = (59, 1) := by decide +kernel
    show dp [38, 59] (fh [38, 59] (m + 2)) 0 = _
    unfold dp
    simp only [e0]
    show dp [38, 59] (fh [38, 59] (m + 1)) 1 = _
    unfold dp
    simp only [e1]
    rfl
  · rw [bF h2]
    have hv : ∃ b, fZ F r = some b := by
      unfold fZ
      cases (decide (0 ≤ r)) && (decide (r < 55296)) with
      | true => exact ⟨true, rfl⟩
      | false =>
        rw [cond_false]
        cases (decide (57343 < r)) && (decide (r ≤ 1114111)) with
        | true => exact ⟨true, rfl⟩
        | false => exact ⟨false, rfl⟩
    obtain ⟨b, hb⟩ := hv
    rw [hb, bP]
    cases b with
    | false => rfl
    | true =>
      obtain ⟨m, rfl⟩ : ∃ m, F = m + 1 := ⟨F - 1, by omega⟩
      simp (disch := omega) only [Bool.not_true, cond_false, bA, cV]
      show fi [38, 59] (cf r) (gV [38, 59] (cf r) m) = _
      unfold fi fT
      by_cases h3 : (cf r).length = 2
      · have e1 : ((cf r).length : Int) - 1 = 1 := by omega
        have e2 : at_ ([38, 59] : Bs) 1 = 59 := rfl
        have e3 : ek ([38, 59] : Bs) (1 + 1) = [] := rfl
        rw [e1]
        simp (disch := (first | omega | (simp; done) | (simp; omega))) only [bT, dD, bA, e2, decide_eq_false (k2 h3), Bool.not_false, ka, cV, fD, e3]
        rfl
      · have : ¬ ((cf r).length : Int) - 1 < (([38, 59] : Bs).length : Int) := by simp; omega
        rw [bF this]
def nxt (s : Bs) (y : Nat) : Int := if Go.Lib.indexAny (s.drop y) [38, 59] = -1 then -1 else (y : Int) + Go.Lib.indexAny (s.drop y) [38, 59]
theorem qr (s : Bs) (y : Nat) (h : y < s.length) (hc : ([38, 59] : Bs).contains s[y] = false) : nxt s (y + 1) = nxt s y := by
  unfold nxt
  rw [aZ h]
  simp only [Go.Lib.indexAny, hc]
  have := (je (s.drop (y + 1)) [38, 59]).1
  by_cases e : Go.Lib.indexAny (s.drop (y + 1)) [38, 59] = -1
  · simp [e]
  · have e2 : (Go.Lib.indexAny (s.drop (y + 1)) [38, 59] == -1) = false := by simpa using e
    have e3 : ¬ Go.Lib.indexAny (s.drop (y + 1)) [38, 59] + 1 = -1 := by omega
    simp [e, e2, e3]; omega
theorem nxt_hi (s : Bs) (y : Nat) (h : y < s.length) (hb : 128 ≤ (s[y]).toNat) : nxt s (y + 1) = nxt s y := by
  refine qr s y h ?_
  have h1 : s[y] ≠ 38 := by intro e; rw [e] at hb; revert hb; decide
  have h2 : s[y] ≠ 59 := by intro e; rw [e] at hb; revert hb; decide
  simp [h1, h2]
theorem nxt_skip (s : Bs) (y : Nat) : ∀ k, (∀ m, m < k → ∃ h : y + m < s.length, 128 ≤ (s[y + m]).toNat) → nxt s (y + k) = nxt s y := by
  intro k
  induction k with
  | zero => intro _; rfl
  | succ k ih =>
    intro h;obtain ⟨h1, h2⟩ := h k (by omega)
    rw [show y + (k + 1) = y + k + 1 by omega, nxt_hi s (y + k) h1 h2]
    exact ih (fun m hm => h m (by omega))
theorem qV (F : Nat) (hF : 5 ≤ F) (s : Bs) : ∀ (n y : Nat), s.length - y < n → fk F s [38, 59] n y = some (nxt s y) := by
  intro n
  induction n with
  | zero => intro y h; omega
  | succ n ih =>
    intro y hy;show fm F s [38, 59] (fk F s [38, 59] n) y = _
    unfold fm fV
    by_cases h : y < s.length
    · rw [bT h]
      by_cases hb : (s[y]).toNat < 128
      · rw [decR_low s y h hb]
        have hi : fu F [38, 59] ((s[y]).toNat : Int) = some (Go.Lib.indexByte [38, 59] s[y]) := by
          unfold fu
          have e : ((decide ((0 : Int) ≤ ((s[y]).toNat : Int))) && (decide (((s[y]).toNat : Int) < 128))) = true := by
            rw [decide_eq_true (by omega : (0 : Int) ≤ ((s[y]).toNat : Int)), decide_eq_true (by omega : ((s[y]).toNat : Int) < 128)]; rfl
          rw [e, cond_true, bA, lj _ (s[y]).toNat rfl, UInt8.ofNat_toNat]
        simp only [hi, bP]
        by_cases hc : ([38, 59] : Bs).contains s[y] = true
        · have h0 : 0 ≤ Go.Lib.indexByte [38, 59] s[y] := by
            have : s[y] = 38 ∨ s[y] = 59 := by simpa using hc
            rcases this with e | e <;> rw [e] <;> decide
          rw [bT h0]
          unfold nxt
          rw [aZ h]
          simp only [Go.Lib.indexAny, hc, if_true]
          simp
        · have hc' : ([38, 59] : Bs).contains s[y] = false := by simpa using hc
          have h0 : ¬ 0 ≤ Go.Lib.indexByte [38, 59] s[y] := by
            have hne : ¬ s[y] = 38 ∧ ¬ s[y] = 59 := by simpa using hc'
            have := kQ (c := s[y]) (s := [38, 59]) (fun b hb e => by
              simp at hb
              rcases hb with rfl | rfl
              · exact hne.1 e.symm
              · exact hne.2 e.symm)
            omega
          rw [bF h0, ih (y + 1) (by omega), qr s y h hc']
      · have hh := sP s y h (by omega)
        have hp := qz s y
        rw [qT F hF _ (by omega), bP, bF (by omega), ih _ (by omega)]
        rw [nxt_skip s y (jt s y).2 (fun m hm => by
          cases m with
          | zero => exact ⟨h, by simpa using hb⟩
          | succ m => exact sO s y (m + 1) (by omega) hm)]
    · rw [bF h]
      unfold nxt
      rw [bh (by omega)]
      rfl
theorem sa (F : Nat) (s : Bs) (hF : 20 ≤ F) : iH F s [38, 59] = some (Go.Lib.indexAny s [38, 59]) := by
  unfold iH
  by_cases h : 8 < s.length
  · simp [h]
  · have e : ((decide (8 < s.length)) && (decide (2 ≤ ([38, 59] : Bs).length))) = false := by simp [h]
    rw [e, cond_false]
    unfold js nl fU
    have e3 : decide ((8 : Int) < (s.length : Int)) = false := decide_eq_false (by omega)
    simp (disch := (first | omega | (simp; done) | (simp; omega))) only [bF, bP, e3, Bool.not_false, ka]
    rw [qV F (by omega) s F 0 (by omega)]
    unfold nxt
    rw [List.drop_zero]
    split
    · rename_i e; rw [e]
    · simp
end Go.Pn
namespace Go.Pn
open Go.Pv Go.Av
abbrev amp : Bs := [38, 59]
theorem any_cons (c : UInt8) (r : Bs) : Go.Lib.indexAny (c :: r) amp = if c = 38 ∨ c = 59 then 0 else if Go.Lib.indexAny r amp = -1 then -1 else Go.Lib.indexAny r amp + 1 := by
  simp [Go.Lib.indexAny]
theorem any_is (r : Bs) : ∀ (k : Nat) (h : k < r.length), Go.Lib.indexAny r amp = (k : Int) → r[k] = 38 ∨ r[k] = 59 := by
  induction r with
  | nil => intro k h; simp at h
  | cons c r ih =>
    intro k h hk
    rw [any_cons] at hk
    by_cases hc : c = 38 ∨ c = 59
    · rw [if_pos hc] at hk
      have : k = 0 := by omega
      subst this; simpa using hc
    · rw [if_neg hc] at hk
      split at hk
      · omega
      · cases k with
        | zero => have := (je r amp).1; omega
        | succ k => simpa using ih k (by simpa using h) (by omega)
def cL (r : Bs) : Bs × Bool :=
  if 0 ≤ Go.Lib.indexAny r amp ∧ Go.Lib.indexAny r amp ≤ 10 ∧ r.getD (Go.Lib.indexAny r amp).toNat 0 = 59 then (r.take (Go.Lib.indexAny r amp).toNat, decide (0 < Go.Lib.indexAny r amp)) else ([], false)
theorem body_len (r : Bs) : (cL r).1.length ≤ 10 := by
  unfold cL
  split
  · rename_i h; simp; omega
  · simp
theorem first_eq (F : Nat) (r : Bs) (hs : r.length ≤ 100000) (hF : 150000 < F) : ∃ x k, gS F (cL r).1 = some (x, k) ∧ fX F (38 :: r) = some (if (cL r).2 = true ∧ k = true then (x, ((cL r).1.length : Int) + 2) else ([], 0)) := by
  have hbl := body_len r
  obtain ⟨x, k, hx, _⟩ := qm F (cL r).1 (by omega) (by omega);refine ⟨x, k, by rw [← rU F _ hbl (by omega)]; exact hx, ?_⟩;obtain ⟨hj1, hj2⟩ := je r amp
  have h1 : ek (38 :: r) 1 = r := rfl
  have ha : fE [38, 59] = true := by decide
  have hl : ((38 :: r : Bs).length : Int) = (r.length : Int) + 1 := by simp
  unfold fX iI
  simp (disch := (first | omega | (simp; done) | (simp; omega))) only [fD, bA, ha, ka, kb, h1, sa F r (by omega), bP]
  by_cases h : 1 ≤ Go.Lib.indexAny r amp ∧ Go.Lib.indexAny r amp ≤ 10
  · obtain ⟨j, hj⟩ : ∃ j : Nat, Go.Lib.indexAny r amp = j := ⟨(Go.Lib.indexAny r amp).toNat, by omega⟩
    have hjl : j < r.length := by omega
    have hc := any_is r j hjl hj
    have hx' : ((decide (1 ≤ Go.Lib.indexAny r amp)) && (decide (Go.Lib.indexAny r amp ≤ 10))) = true := by simp [h]
    have hat : at_ (38 :: r) ((j : Int) + 1) = r[j] := by
      rw [show (j : Int) + 1 = ((j + 1 : Nat) : Int) from rfl, gJ (by simp; omega)]; simp
    have hsub : sub (38 :: r) 1 ((j : Int) + 1) = r.take j := by
      rw [show (j : Int) + 1 = ((j + 1 : Nat) : Int) from rfl, show (1 : Int) = ((1 : Nat) : Int) from rfl, pq]; simp
    rw [hj] at hx' h ⊢
    simp (disch := (first | omega | (simp; done) | (simp; omega))) only [hx', Bool.not_true, Bool.not_false, hC, cV, dD, Bool.false_or, hat]
    have hget : r.getD (j : Int).toNat 0 = r[j] := by simp [hjl]
    rcases hc with hc | hc
    · have hb : cL r = ([], false) := by
        unfold cL
        rw [hj, hget, hc, if_neg (by simp)]
      rw [bT hc, hb]; simp
    · have hb : cL r = (r.take j, true) := by
        unfold cL
        rw [hj, hget, hc, if_pos ⟨by omega, by omega, rfl⟩, decide_eq_true (by omega)]
        simp
      rw [hb] at hx ⊢
      have hlt : ((r.take j).length : Int) = (j : Int) := by simp; omega
      rw [bF (by rw [hc]; decide)]
      simp (disch := (first | omega | (simp; done) | (simp; omega))) only [mA, bA, hsub, hx, aU]
      cases k with
      | false => simp
      | true =>
        simp (disch := (first | omega | (simp; done) | (simp; omega))) only [Bool.not_true, cond_false, cV]
        simp [hlt]; omega
  · have hx' : ((decide (1 ≤ Go.Lib.indexAny r amp)) && (decide (Go.Lib.indexAny r amp ≤ 10))) = false := by
      cases hq : (decide (1 ≤ Go.Lib.indexAny r amp)) && (decide (Go.Lib.indexAny r amp ≤ 10)) with
      | false => rfl
      | true => exact absurd (by simpa using hq) h
    simp only [hx', Bool.not_false, Bool.not_true, fC, Bool.true_or, cond_true]
    have hb : (cL r).2 = false := by
      unfold cL
      split
      · rename_i hh; simp; omega
      · rfl
    rw [hb]; simp
end Go.Pn
namespace Go.Pn
open Go.Pv Go.Av
def ent1 (F : Nat) (r : Bs) : Option (Bs × Nat) :=
  match gS F (cL r).1 with
  | some (x, true) => bif (cL r).2 then some (x, (cL r).1.length + 2) else none
  | _ => none
def G1 (F : Nat) : Nat → Bs → Bool → Bs → Bs × Bool
  | 0, _, ok, acc => (acc, ok)
  | _ + 1, [], ok, acc => (acc, ok)
  | m + 1, c :: r, ok, acc =>
    if c = 38 then
      match ent1 F r with
      | some (x, k) => G1 F m ((c :: r).drop k) ok (acc ++ x)
      | none => G1 F m r false (acc ++ [38])
    else G1 F m r ok (acc ++ [c])
theorem ent1_two {F : Nat} {r : Bs} {x : Bs} {k : Nat} (h : ent1 F r = some (x, k)) : 2 ≤ k := by
  unfold ent1 at h
  split at h
  · cases hb : (cL r).2 with
    | true => rw [hb] at h; simp at h; omega
    | false => rw [hb] at h; simp at h
  · cases h
theorem G1_fuel (F : Nat) : ∀ (m m' : Nat) (s : Bs) (ok : Bool) (acc : Bs), s.length < m → s.length < m' → G1 F m s ok acc = G1 F m' s ok acc := by
  intro m
  induction m with
  | zero => intro m' s ok acc h; omega
  | succ m ih =>
    intro m' s ok acc h h';obtain ⟨m'', rfl⟩ : ∃ m'', m' = m'' + 1 := ⟨m' - 1, by omega⟩
    cases s with
    | nil => rfl
    | cons c r =>
      simp only [List.length_cons] at h h'
      simp only [G1]
      by_cases hc : c = 38
      · rw [if_pos hc, if_pos hc]
        cases he : ent1 F r with
        | none => exact ih _ _ _ _ (by omega) (by omega)
        | some p =>
          have := ent1_two (x := p.1) (k := p.2) he
          exact ih _ _ _ _ (by simp; omega) (by simp; omega)
      · rw [if_neg hc, if_neg hc]
        exact ih _ _ _ _ (by omega) (by omega)
theorem rO (F : Nat) : ∀ (p t : Bs) (m : Nat) (ok : Bool) (acc : Bs), (∀ b ∈ p, b ≠ 38) → p.length + t.length < m → G1 F m (p ++ t) ok acc = G1 F m t ok (acc ++ p) := by
  intro p
  induction p with
  | nil => intro t m ok acc _ _; simp
  | cons c r ih =>
    intro t m ok acc hp hm;obtain ⟨m', rfl⟩ : ∃ m', m = m' + 1 := ⟨m - 1, by omega⟩
    simp only [List.length_cons] at hm
    simp only [List.cons_append, G1]
    rw [if_neg (hp c (by simp)), ih t m' ok _ (fun b hb => hp b (by simp [hb])) (by omega), G1_fuel F m' (m' + 1) t ok _ (by omega) (by omega)]
    simp
theorem mi (s : Bs) (i : Nat) (h : Go.Lib.indexByte s 38 = (i : Int)) : (∀ b ∈ s.take i, b ≠ 38) ∧ ∃ r, s.drop i = 38 :: r := by
  induction s generalizing i with
  | nil => simp [Go.Lib.indexByte] at h
  | cons c r ih =>
    unfold Go.Lib.indexByte at h
    by_cases hc : c = 38
    · subst hc
      have : i = 0 := by simp at h; omega
      subst this;exact ⟨by simp, r, rfl⟩
    · have hcb : (c == 38) = false := by simpa using hc
      rw [hcb] at h
      by_cases hn : Go.Lib.indexByte r 38 = -1
      · simp [hn] at h
      · have hnb : (Go.Lib.indexByte r 38 == -1) = false := by simpa using hn
        rw [hnb] at h
        have hr := jH r 38
        simp at h
        obtain ⟨j, rfl⟩ : ∃ j, i = j + 1 := ⟨i - 1, by omega⟩;obtain ⟨h1, t, h2⟩ := ih j (by omega);refine ⟨fun b hb => ?_, t, by simpa using h2⟩
        simp only [List.take_succ_cons, List.mem_cons] at hb
        rcases hb with rfl | hb
        · exact hc
        · exact h1 b hb
theorem nF (s : Bs) (h : Go.Lib.indexByte s 38 < 0) : ∀ b ∈ s, b ≠ 38 := by
  induction s with
  | nil => simp
  | cons c r ih =>
    have hr := jH r 38
    unfold Go.Lib.indexByte at h
    split at h
    · omega
    · rename_i hc
      have hc' : c ≠ 38 := by simpa using hc
      split at h
      · rename_i hn
        have hn' : Go.Lib.indexByte r 38 = -1 := by simpa using hn
        intro b hb
        rcases List.mem_cons.1 hb with rfl | hb
        · exact hc'
        · exact ih (by omega) b hb
      · rename_i hn
        have hn' : ¬ Go.Lib.indexByte r 38 = -1 := by simpa using hn
        omega
theorem qd (F : Nat) (hF : 200000 < F) : ∀ (n : Nat) (s : Bs) (ok : Bool) (acc : Bs) (m : Nat), s.length < n → s.length < m → s.length ≤ 100000 → acc.length + 4 * s.length ≤ 1000000 → ez F n (s, ok, acc) = some (G1 F m s ok acc) := by
  intro n
  induction n with
  | zero => intro s ok acc m h; omega
  | succ n ih =>
    intro s ok acc m hn hm hs ha;show gj F (ez F n) s ok acc = _
    unfold gj fx
    obtain ⟨hi1, hi2⟩ := jH s 38
    by_cases h : Go.Lib.indexByte s 38 < 0
    · simp (disch := (first | omega | (simp; done) | (simp; omega))) only [bA, bT, grd_W]
      have := rO F s [] m ok acc (nF s h) (by simpa using hm)
      rw [List.append_nil] at this
      rw [this]
      obtain ⟨m', rfl⟩ : ∃ m', m = m' + 1 := ⟨m - 1, by omega⟩
      rfl
    · obtain ⟨i, hi⟩ : ∃ i : Nat, Go.Lib.indexByte s 38 = i := ⟨(Go.Lib.indexByte s 38).toNat, by omega⟩
      obtain ⟨hp, r, hr⟩ := mi s i hi
      have il : i < s.length := by omega
      have l1 : (to_ s (i : Int)).length = i := by simp [md]; omega
      have e2 : ek s (i : Int) = 38 :: r := by rw [ld, hr]
      have hsp : s = s.take i ++ 38 :: r := by rw [← hr, List.take_append_drop]
      have lr : r.length = s.length - i - 1 := by
        have := congrArg List.length hr
        simp at this; omega
      have e1 : to_ s (i : Int) = s.take i := md
      obtain ⟨x, k, hx, hf⟩ := first_eq F r (by omega) (by omega);obtain ⟨o, kk, ho, hk⟩ := se F (38 :: r) (by simp) (by simp; omega) (by simp; omega)
      rw [hf] at ho
      have hG : G1 F m s ok acc = G1 F m (38 :: r) ok (acc ++ s.take i) := by
        have := rO F (s.take i) (38 :: r) m ok acc hp (by simp; omega)
        rw [← hsp] at this; exact this
      obtain ⟨m', rfl⟩ : ∃ m', m = m' + 1 := ⟨m - 1, by omega⟩
      have ltk : (s.take i).length = i := by simp; omega
      rw [hG]
      simp (disch := (first | omega | (simp; done) | (simp; omega))) only [bA, hi, bF, fD, grd_W, e2, hf]
      simp only [G1, if_true, ent1, hx]
      by_cases hb : (cL r).2 = true ∧ k = true
      · rw [if_pos hb] at ho ⊢
        obtain ⟨hb1, rfl⟩ := hb
        have ho' := al ho
        have hk1 : ((cL r).1.length : Int) + 2 = kk := (Prod.mk.inj ho').2
        have ho1 : x = o := (Prod.mk.inj ho').1
        subst ho1
        rcases hk with rfl | ⟨k3, kl, ol⟩
        · omega
        · simp only [List.length_cons] at kl
          have ef : ek (38 :: r) (((cL r).1.length : Int) + 2) = (38 :: r).drop ((cL r).1.length + 2) := by
            rw [show ((cL r).1.length : Int) + 2 = (((cL r).1.length + 2 : Nat) : Int) from rfl, ld]
          simp only [hb1, cond_true, aU, ef]
          simp (disch := (first | omega | (simp; done) | (simp; omega))) only [bF, grd_W, bA, fD, e1]
          rw [ih _ ok _ m' (by simp; omega) (by simp; omega) (by simp; omega) (by simp; omega)]
      · rw [if_neg hb]
        have e0 : ek (38 :: r) 1 = r := rfl
        have hm1 : (match (some (x, k) : Option (Bs × Bool)) with | some (x, true) => bif (cL r).2 then some (x, (cL r).1.length + 2) else none | _ => none) = none := by
          cases k with
          | false => rfl
          | true =>
            have : (cL r).2 = false := by
              cases hq : (cL r).2 with
              | false => rfl
              | true => exact absurd ⟨hq, rfl⟩ hb
            rw [this]; rfl
        simp only [aU]
        simp (disch := (first | omega | (simp; done) | (simp; omega))) only [decide_true, cond_true, grd_W, bA, fD, e0, e1]
        rw [ih r false _ m' (by omega) (by omega) (by omega) (by simp; omega)]
        have hm2 : ent1 F r = none := by unfold ent1; rw [hx]; exact hm1
        unfold ent1 at hm2; rw [hx] at hm2
        cases k with
        | false => rfl
        | true => 
          cases hq : (cL r).2 with
          | false => rfl
          | true => exact absurd ⟨hq, rfl⟩ hb
end Go.Pn
namespace Go.Pn
open Go.Pv Go.Av
theorem goneG (F : Nat) (hF : 200000 < F) (s : Bs) (hs : s.length ≤ 100000) : lh F s = some (G1 F (s.length + 1) s true []) := qd F hF F s true [] (s.length + 1) (by omega) (by omega) hs (by simp; omega)
theorem decG (F : Nat) (hF : 200000 < F) (s : Bs) (hs : s.length ≤ 100000) : gW F s = some (bif (G1 F (s.length + 1) s true []).2 then ((G1 F (s.length + 1) s true []).1, 0) else ([], 2)) := by
  unfold gW; rw [goneG F hF s hs]
  obtain ⟨o, k⟩ := G1 F (s.length + 1) s true []
  rw [aU]
  cases k <;> rfl
end Go.Pn
namespace Go.Xm
open Go.Pv Go.Av
theorem lv {α : Type} {a b : α} : (bif true then a else b) = a := Eq.symm (Eq.symm rfl)
theorem ei {α : Type} {a b : α} : (bif false then a else b) = b := Eq.symm (Eq.symm rfl)
theorem bnT {α : Type} {a b : α} : (bif !true then a else b) = b := Eq.symm (Eq.symm rfl)
theorem bnF {α : Type} {a b : α} : (bif !false then a else b) = a := Eq.symm (Eq.symm rfl)
theorem notT : (!true) = false := Eq.symm (Eq.symm rfl)
theorem notF : (!false) = true := Eq.symm (Eq.symm rfl)
theorem ands {a b : Bool} (h : (a && b) = true) : a = true ∧ b = true := by cases a <;> cases b <;> first | exact ⟨rfl, rfl⟩ | cases h
theorem gcS {α : Type} {k : Option α} {c : Bool} {n : Nat} (h : n < 4294967281) : ee c (okS n) k = k := by
  cases c
  · exact fC
  · rw [hC, kb h]
theorem gcA {α : Type} {k : Option α} {c : Bool} : ee c (fE xmla_k1) k = k := by
  have : fE xmla_k1 = true := by decide +kernel
  rw [this]; cases c <;> rfl
theorem all8 (p : UInt8 → Bool) (h : ∀ k : Fin 256, p (UInt8.ofNat k.val) = true) (b : UInt8) : p b = true := by
  have := h ⟨b.toNat, b.toNat_lt⟩
  simpa using this
theorem qu (x : UInt8) (r u : Bs) : Go.Lib.index (x :: r) u = if u.isPrefixOf (x :: r) = true then 0 else if Go.Lib.index r u = -1 then -1 else Go.Lib.index r u + 1 := by
  by_cases h : u.isPrefixOf (x :: r) = true
  · simp [Go.Lib.index, h]
  · simp [Go.Lib.index, h]
def cutO : Option (Bs × Bs) → Bs → Bs × Bs × Bool
  | none, s => (s, [], false)
  | some (a, b), _ => (a, b, true)
theorem cut_eq {p : Bs} (hp : p ≠ []) : ∀ s : Bs, Go.Lib.cut s p = cutO (iE p s) s
  | [] => by
    have : p.isEmpty = false := by cases p with | nil => exact absurd rfl hp | cons a b => rfl
    unfold Go.Lib.cut iE
    rw [if_neg hp]
    simp [Go.Lib.index, this, cutO]
  | c :: r => by
    have ih := cut_eq hp r
    have hg := Go.Lib.index_ge r p
    unfold Go.Lib.cut at ih ⊢
    unfold iE
    rw [qu]
    by_cases h : p.isPrefixOf (c :: r) = true
    · rw [if_pos h, if_pos h, if_pos (Int.le_refl 0)]
      simp [cutO]
    · rw [if_neg h, if_neg h]
      by_cases h1 : Go.Lib.index r p = -1
      · rw [if_neg (by omega)] at ih
        rw [if_pos h1, if_neg (by omega)]
        cases e : iE p r with
        | none => rfl
        | some x => rw [e] at ih; obtain ⟨a, b⟩ := x; have := congrArg (fun x => x.2.2) ih; simp [cutO] at this
      · rw [if_pos (by omega)] at ih
        rw [if_neg h1, if_pos (by omega)]
        obtain ⟨n, hn⟩ : ∃ n : Nat, Go.Lib.index r p = (n : Int) := ⟨(Go.Lib.index r p).toNat, by omega⟩
        rw [hn] at ih ⊢
        cases e : iE p r with
        | none => rw [e] at ih; have := congrArg (fun x => x.2.2) ih; simp [cutO] at this
        | some x =>
          obtain ⟨a, b⟩ := x
          rw [e] at ih
          simp only [cutO, Prod.mk.injEq, Int.toNat_natCast, and_true] at ih ⊢
          have e1 : ((n : Int) + 1).toNat = n + 1 := by omega
          rw [e1]
          refine ⟨by rw [List.take_succ_cons, ih.1], ?_⟩
          rw [show n + 1 + p.length = (n + p.length) + 1 by omega, List.drop_succ_cons, ih.2]
theorem rI (s p : Bs) : Go.Lib.hasPrefix s p = p.isPrefixOf s := rfl
theorem iG {F : Nat} {s p : Bs} {o : List Bs} {k : Int} {l : List Tok} (h : p.isPrefixOf s = false) : dF F s o k l p = some (false, s) := by
  unfold dF Go.Lib.trimPrefix
  rw [bA, rI, h]; rfl
theorem gZ {F : Nat} {s p : Bs} {o : List Bs} {k : Int} {l : List Tok} (h : p.isPrefixOf s = true) : dF F s o k l p = some (true, s.drop p.length) := by
  unfold dF Go.Lib.trimPrefix
  rw [bA, rI, h]; rfl
theorem mw {F : Nat} : cg F true = some (.ok ()) := Eq.symm (Eq.symm rfl)
theorem lu {F : Nat} : cg F false = some (.pan 2) := Eq.symm (Eq.symm rfl)
def cutR : Option (Bs × Bs) → Res (Bs × Bs)
  | none => .pan 2
  | some x => .ok x
theorem po {F : Nat} {s p : Bs} {o : List Bs} {k : Int} {l : List Tok} (hp : p ≠ []) (hs : s.length ≤ 1000000) : fq F s o k l p = some (cutR (iE p s)) := by
  unfold fq
  rw [kb (by omega), bA, cut_eq hp]
  cases iE p s with
  | none => simp only [cutO]; rw [lu, ce]; rfl
  | some x => obtain ⟨a, b⟩ := x; simp only [cutO]; rw [mw, bO]; rfl
theorem blk_c (c : UInt8) : ([9, 10, 13, 32] : Bs).contains c = fN c := by
  have := all8 (fun c => ([9, 10, 13, 32] : Bs).contains c == fN c) (by decide +kernel) c
  simpa using this
theorem nW {F : Nat} {s : Bs} {o : List Bs} {k : Int} {l : List Tok} : gL F s o k l = some (decide (((s.dropWhile fN).length : Int) < (s.length : Int)), s.dropWhile fN) := by
  have h : fE ([9, 10, 13, 32] : List UInt8) = true := by decide +kernel
  have e : (fun x => ([9, 10, 13, 32] : Bs).contains x) = fN := funext blk_c
  unfold gL Go.Lib.trimLeftS
  rw [kb (by simp), h, ka, bA, e]
theorem sgn_i (c : UInt8) : decide (0 ≤ Go.Lib.indexByte xmla_k1 c) = iD c := by
  have := all8 (fun c => decide (0 ≤ Go.Lib.indexByte xmla_k1 c) == iD c) (by decide +kernel) c
  simpa using this
theorem sgn_n (c : UInt8) : decide (Go.Lib.indexByte xmla_k1 c < 0) = !iD c := by
  rw [← sgn_i]
  by_cases h : 0 ≤ Go.Lib.indexByte xmla_k1 c
  · rw [decide_eq_true h, decide_eq_false (by omega)]; rfl
  · rw [decide_eq_false h, decide_eq_true (by omega)]; rfl
theorem sgn_c (c : UInt8) : xmla_k1.contains c = iD c := by
  have := all8 (fun c => xmla_k1.contains c == iD c) (by decide +kernel) c
  simpa using this
theorem let_c (c : UInt8) : Go.Lib.contains xmla_k2 [c] = letB c := by
  have := all8 (fun c => Go.Lib.contains xmla_k2 [c] == letB c) (by decide +kernel) c
  simpa using this
theorem tw_at {f : UInt8 → Bool} : ∀ {s : Bs} {i : Nat}, i ≤ s.length → (s.take i).all f = true → (∀ h : i < s.length, f s[i] = false) → s.takeWhile f = s.take i ∧ s.dropWhile f = s.drop i
  | [], i, h, _, _ => by simp
  | c :: s, 0, h, _, g => by
    have := g (by simp)
    rw [List.getElem_cons_zero] at this
    rw [List.takeWhile_cons, List.dropWhile_cons, this]; simp
  | c :: s, i + 1, h, ha, g => by
    rw [List.take_succ_cons, List.all_cons] at ha
    obtain ⟨h1, h2⟩ := ands ha
    have := tw_at (s := s) (i := i) (by simpa using h) h2 fun q => by
      have := g (by simpa using q)
      rw [List.getElem_cons_succ] at this; exact this
    rw [List.takeWhile_cons, List.dropWhile_cons, h1]
    simp [this.1, this.2]
theorem mV (s : Bs) (hs : s.length ≤ 1000000) : ∀ (n i : Nat), s.length - i < n → i ≤ s.length → gg s n (i : Int) = some ((s.drop i).all iD)
  | 0, i, h, _ => by omega
  | n + 1, i, h, hi => by
    show gh s (gg s n) (i : Int) = _
    unfold gh
    by_cases g : i < s.length
    · rw [bT (by omega), dD (by omega), bA, gJ g, bA, sgn_n, aZ g, List.all_cons]
      cases iD s[i] with
      | false => rw [notF, lv, Bool.false_and]
      | true =>
        rw [notT, ei, cV (by omega), cS, mV s hs n (i + 1) (by omega) (by omega), Bool.true_and]
    · rw [bF (by omega), bh (by omega)]; rfl
theorem inner_eq (F : Nat) (s : Bs) (hs : s.length ≤ 1000000) (hF : s.length < F) : kV F s = some (s.all iD) := mV s hs F 0 (by omega) (by omega)
theorem pJ (f : UInt8 → Bool) : ∀ l : Bs, l.dropWhile f = [] ↔ ∀ x ∈ l, f x = true
  | [] => by simp
  | c :: l => by
    have ih := pJ f l
    cases h : f c with
    | true => simp [List.dropWhile_cons, h, ih]
    | false => simp [List.dropWhile_cons, h]
theorem trim_sgn (t : Bs) : decide (Go.Lib.trimS t xmla_k1 = []) = t.all iD := by
  unfold Go.Lib.trimS Go.Lib.trimLeftS Go.Lib.trimRightS
  have e : (fun x => xmla_k1.contains x) = iD := funext sgn_c
  rw [e]
  cases h : t.all iD with
  | true =>
    rw [List.all_eq_true] at h
    refine decide_eq_true ?_
    have : t.reverse.dropWhile iD = [] := by
      rw [pJ]; intro x hx; exact h x (List.mem_reverse.1 hx)
    rw [this]; rfl
  | false =>
    rw [List.all_eq_false] at h
    obtain ⟨x, hx, hn⟩ := h
    refine decide_eq_false fun q => ?_
    rw [pJ] at q
    have hne : t.reverse.dropWhile iD ≠ [] := by
      intro e
      rw [pJ] at e
      exact hn (e x (List.mem_reverse.2 hx))
    have := List.head_dropWhile_not iD (l := t.reverse) hne
    have hm := q _ (List.mem_reverse.2 (List.head_mem hne))
    rw [hm] at this
    simp at this
theorem to1 (c : UInt8) (r : Bs) : to_ (c :: r) 1 = [c] := rfl
theorem qS (c : UInt8) (r : Bs) : np (c :: r) = (letB c && ((c :: r).all iD && decide ((c :: r).length ≤ 60))) := Eq.symm (Eq.symm rfl)
theorem Name_eq (F : Nat) (s : Bs) (hs : s.length ≤ 1000000) (hF : 100 < F) : jU F s = some (np s) := by
  unfold jU
  have l1 : xmla_k1.length < 4294967281 := by decide +kernel
  have l2 : xmla_k2.length < 4294967281 := by decide +kernel
  simp only [bA, gcS l1, gcS l2, gcS (n := s.length) (by omega), gcA]
  cases s with
  | nil => simp [ee, iV, np]
  | cons c r =>
    rw [decide_eq_false (p := c :: r = ([] : List UInt8)) (by simp), notF, Bool.true_and, to1, let_c, trim_sgn]
    rw [qS]
    have hp : 0 < (c :: r).length := by simp
    by_cases h : (c :: r).length ≤ 60
    · rw [decide_eq_true h, decide_eq_true (p := (((c :: r).length : Nat) : Int) ≤ 60) (by omega), hC, fD (by omega), Bool.true_and]
      cases hc : letB c with
      | false => rw [Bool.false_and, iJ, Bool.false_and, Bool.false_and]
      | true =>
        cases ha : (c :: r).all iD with
        | false => rw [Bool.and_false, iJ, Bool.false_and, Bool.false_and, Bool.and_false]
        | true => rw [inner_eq F (c :: r) hs (by omega), ha, fY]; rfl
    · rw [decide_eq_false h, decide_eq_false (p := (((c :: r).length : Nat) : Int) ≤ 60) (by omega), fC, Bool.false_and, Bool.false_and, iJ, Bool.false_and, Bool.and_false, Bool.and_false]
def jZ : Option (Bs × Bs) → Res (Bs × Bs)
  | none => .pan 2
  | some x => .ok x
theorem oc (F : Nat) (hF : 100 < F) (s : Bs) (hs : s.length ≤ 1000000) : ∀ (n i : Nat), s.length - i < n → i ≤ s.length → (s.take i).all iD = true → gQ F s n (i : Int) = some (jZ (gq s))
  | 0, i, h, _, _ => by omega
  | n + 1, i, h, hi, ha => by
    have fin : (∀ h : i < s.length, iD s[i] = false) → fQ F s (i : Int) = some (jZ (gq s)) := fun q => by
      obtain ⟨e1, e2⟩ := tw_at hi ha q
      unfold fQ gq
      rw [fD (by omega), bA, md, ld, Name_eq F _ (by rw [List.length_take]; omega) hF, bP, e1, e2]
      cases np (s.take i) with
      | false => rw [lu, ce]; rfl
      | true => rw [mw, bO, fD (by omega), bA]; rfl
    show gR F s (gQ F s n) (i : Int) = _
    unfold gR
    by_cases g : i < s.length
    · rw [decide_eq_true (p := (i : Int) < (s.length : Int)) (by omega), hC, dD (by omega), bA, gJ g, bA, sgn_i, Bool.true_and]
      cases hc : iD s[i] with
      | false => rw [ei]; exact fin fun _ => hc
      | true =>
        rw [lv, cV (by omega), cS]
        refine oc F hF s hs n (i + 1) (by omega) (by omega) ?_
        rw [List.take_succ_eq_append_getElem g, List.all_append, ha, List.all_cons, hc]; rfl
    · rw [decide_eq_false (p := (i : Int) < (s.length : Int)) (by omega), fC, bA, bA, Bool.false_and, ei]
      exact fin fun q => absurd q g
theorem py {F : Nat} {s : Bs} {o : List Bs} {k : Int} {l : List Tok} (hF : 100 < F) (hs : s.length ≤ 1000000) (hl : s.length < F) : ix F s o k l = some (jZ (gq s)) :=
  oc F hF s hs F 0 (by omega) (by omega) (by simp)
end Go.Xm
namespace Go.Xm
open Go.Pv Go.Av
def dec (F : Nat) (s : Bs) : Option Bs := bif (Go.Pn.G1 F (s.length + 1) s true []).2 then some (Go.Pn.G1 F (s.length + 1) s true []).1 else none
def oR {α : Type} : Option α → Res α
  | none => .pan 2
  | some x => .ok x
section
variable {F : Nat} (hF : 1500000 < F)
include hF
theorem oM {s : Bs} (hs : s.length ≤ 100000) : fA F s = some (oR (dec F s)) := by
  unfold fA dec
  rw [Go.Pn.decG F (by omega) s hs]
  cases (Go.Pn.G1 F (s.length + 1) s true []).2 with
  | true => rw [lv, lv, aU, decide_eq_true rfl, mw, bO]; rfl
  | false => rw [ei, ei, aU, decide_eq_false (by decide), lu, ce]; rfl
omit hF in
theorem ru {s t : Bs} {o : List Bs} {k : Int} {l : List Tok} (hl : l.length ≤ 1000000) : jT F s o k l t = some (mo t l) := by
  unfold jT mo
  by_cases h : t = []
  · rw [decide_eq_true h, bnT, if_pos h]
  · rw [decide_eq_false h, bnF, if_neg h, eN (by simp; omega), bA]
omit hF in
theorem rM {o : List Bs} (h : o ≠ []) : at_ o ((o.length : Int) - 1) = o.getLast h := by
  have hp := List.length_pos_iff.2 h
  rw [show (o.length : Int) - 1 = ((o.length - 1 : Nat) : Int) by omega, gJ (by omega), List.getLast_eq_getElem]
def qA : Rx → Res (List Tok × List Bs)
  | .ok x => .ok (x.2.2.2, x.2.1)
  | .no e => .pan e
omit hF in
theorem rB {s n : Bs} {o : List Bs} {k : Nat} {l : List Tok} (ho : o.length ≤ 100) (hl : l.length ≤ 1000000) : iw F s o (k : Int) l n = some (qA (jX n s o k l)) := by
  unfold iw jX
  rw [cV (by omega)]
  by_cases h : o = []
  · subst h
    rw [decide_eq_false (p := 0 ≤ ((([] : List Bs).length : Nat) : Int) - 1) (by simp), fC, fC, bA, Bool.false_and, lu, ce, if_neg (by simp)]; rfl
  · have hp := List.length_pos_iff.2 h
    rw [decide_eq_true (p := 0 ≤ (o.length : Int) - 1) (by omega), hC, hC, dD (by omega), dD (by omega), bA, rM h, Bool.true_and, List.getLast?_eq_some_getLast h]
    by_cases g : o.getLast h = n
    · rw [decide_eq_true g, mw, bO, fD (by omega), bA, eN (by simp; omega), bA, if_pos (by rw [g])]
      rw [show (o.length : Int) - 1 = ((o.length - 1 : Nat) : Int) by omega, md, ← List.dropLast_eq_take]; rfl
    · rw [decide_eq_false g, lu, ce, if_neg (by simpa using g)]; rfl
omit hF in
theorem ib_eq : ∀ s : Bs, (Go.Lib.indexByte s 60 = -1 ∧ (s.takeWhile fun c => decide (c ≠ 60)) = s ∧ (s.dropWhile fun c => decide (c ≠ 60)) = []) ∨
    ∃ i : Nat, Go.Lib.indexByte s 60 = (i : Int) ∧ i < s.length ∧ (s.takeWhile fun c => decide (c ≠ 60)) = s.take i ∧ (s.dropWhile fun c => decide (c ≠ 60)) = s.drop i
  | [] => .inl ⟨rfl, rfl, rfl⟩
  | c :: r => by
    by_cases h : c = 60
    · right; subst h; exact ⟨0, by simp [Go.Lib.indexByte], by simp, by simp, by simp⟩
    · have hb : (c == 60) = false := by simpa using h
      rcases ib_eq r with ⟨h1, h2, h3⟩ | ⟨i, h1, h2, h3, h4⟩
      · left
        refine ⟨by simp [Go.Lib.indexByte, hb, h1], ?_, ?_⟩
        · rw [List.takeWhile_cons, if_pos (by simpa using h), h2]
        · rw [List.dropWhile_cons, if_pos (by simpa using h), h3]
      · right
        refine ⟨i + 1, ?_, by simpa using h2, ?_, ?_⟩
        · have : ¬ ((i : Int) = -1) := by omega
          simp [Go.Lib.indexByte, hb, h1, this]
        · rw [List.takeWhile_cons, if_pos (by simpa using h), h3]; rfl
        · rw [List.dropWhile_cons, if_pos (by simpa using h), h4]; rfl
omit hF in
theorem bl_blk (c : UInt8) : Go.Pn.bl c = fN c := Eq.symm (Eq.symm rfl)
omit hF in
theorem qj : ∀ s : Bs, decide (Go.Pn.trim s = []) = s.all fN
  | [] => rfl
  | c :: r => by
    rw [Go.Pn.trim, List.all_cons, bl_blk]
    cases fN c with
    | true => rw [lv, Bool.true_and, qj r]
    | false => rw [ei, Bool.false_and]; simp
def rq : Rx → Res (Bool × Bs × List Tok)
  | .ok x => .ok (true, x.1, x.2.2.2)
  | .no e => .pan e
theorem rD {s : Bs} {o : List Bs} {k : Nat} {l : List Tok} (i : Nat) (hs : s.length ≤ 100000) (hl : l.length ≤ 1000000) (hi : i ≤ s.length) (h0 : i ≠ 0)
    (e1 : (s.takeWhile fun c => decide (c ≠ 60)) = s.take i) (e2 : (s.dropWhile fun c => decide (c ≠ 60)) = s.drop i) : dQ F s o (k : Int) l (i : Int) = some (rq (ju (dec F) s o k l)) := by
  have h1 : (s.take i).length ≤ 100000 := by rw [List.length_take]; omega
  unfold dQ ju
  rw [bF (by omega), fD (by omega), bA, fD (by omega), bA, md, ld, oM hF h1, e1, e2]
  cases dec F (s.take i) with
  | none => simp only [oR]; rw [ce]; rfl
  | some t =>
    simp only [oR]
    rw [bO]
    by_cases ho : o = []
    · subst ho
      rw [bT (by simp), Go.Pn.ent_Trim_eq F _ (by omega) (by omega), bP, qj, if_pos rfl]
      cases (s.take i).all fN with
      | true => rw [mw, bO]; rfl
      | false => rw [lu, ce]; rfl
    · have := List.length_pos_iff.2 ho
      rw [bF (by omega), ru hl, bP, if_neg ho]; rfl
theorem plain_eq {s : Bs} {o : List Bs} {k : Nat} {l : List Tok} (hs : s.length ≤ 100000) (hl : l.length ≤ 1000000) (h0 : s ≠ []) (h : ([60] : Bs).isPrefixOf s = false) :
    fL F s o (k : Int) l = some (rq (ju (dec F) s o k l)) := by
  have hp := List.length_pos_iff.2 h0
  unfold fL
  rw [bA]
  rcases ib_eq s with ⟨h1, h2, h3⟩ | ⟨i, h1, h2, h3, h4⟩
  · rw [h1, bT (by omega)]
    exact rD hF s.length hs hl (Nat.le_refl _) (by omega) (by rw [List.take_length]; exact h2) (by rw [List.drop_length]; exact h3)
  · rw [h1, bF (by omega)]
    refine rD hF i hs hl (by omega) (fun e => ?_) h3 h4;subst e
    cases s with
    | nil => exact h0 rfl
    | cons c r =>
      by_cases g : c = 60
      · subst g; simp at h
      · have hb : (c == 60) = false := by simpa using g
        have hg := Go.Lib.indexByte_ge r 60
        rw [Go.Lib.indexByte, hb] at h1
        simp only [Bool.false_eq_true, if_false] at h1
        by_cases q : Go.Lib.indexByte r 60 = -1
        · rw [q] at h1; simp at h1
        · simp only [beq_iff_eq, q, if_false] at h1; omega
omit hF in
theorem plain_no {s : Bs} {o : List Bs} {k : Int} {l : List Tok} (h : ([60] : Bs).isPrefixOf s = true) : fL F s o k l = some (.ok (false, s, l)) := by
  cases s with
  | nil => cases h
  | cons c r =>
    have hc : c = 60 := by
      by_cases g : c = 60
      · exact g
      · have : (60 == c) = false := by simpa using fun q => g q.symm
        simp [List.isPrefixOf, this] at h
    subst hc
    have : Go.Lib.indexByte (60 :: r) 60 = 0 := by simp [Go.Lib.indexByte]
    unfold fL
    rw [bA, this, bF (by omega)]
    unfold dQ
    rw [bT rfl]
end
end Go.Xm
namespace Go.Xm
open Go.Pv Go.Av
theorem ib_ge (s : Bs) : -1 ≤ Go.Lib.index s [60] := Go.Lib.index_ge s [60]
theorem rJ : ∀ s : Bs, Go.Lib.contains s [60] = decide (60 ∈ s)
  | [] => by simp [Go.Lib.contains, Go.Lib.index]
  | c :: r => by
    have ih := rJ r
    have hg := ib_ge r
    unfold Go.Lib.contains at ih ⊢
    rw [qu]
    by_cases h : c = 60
    · subst h; simp
    · have hb : (60 == c) = false := by simpa using fun q => h q.symm
      have hm : (60 ∈ c :: r) ↔ 60 ∈ r := by rw [List.mem_cons]; exact ⟨fun q => q.elim (fun e => absurd e.symm h) id, .inr⟩
      rw [if_neg (by simp [List.isPrefixOf, hb]), decide_eq_decide.2 hm, ← ih]
      by_cases g : Go.Lib.index r [60] = -1
      · rw [if_pos g, g]
      · rw [if_neg g]; exact decide_eq_decide.2 (by omega)
def attrR : Option (At × Bs) → Res (Bs × Bs × Bs)
  | none => .pan 2
  | some (a, r) => .ok (a.1, a.2, r)
theorem od (F : Nat) (as_ : List At) (n v : Bs) (hl : as_.length ≤ 1000000) : ∀ (m i : Nat), as_.length - i < m → i ≤ as_.length → ∃ j : Int, dr F as_ n v m (i : Int) = some j ∧ decide (0 ≤ j) = (as_.drop i).any fun x => decide (x.1 = n)
  | 0, i, h, _ => by omega
  | m + 1, i, h, hi => by
    show ∃ j : Int, dW F as_ n v (dr F as_ n v m) (i : Int) = some j ∧ _
    unfold dW
    by_cases g : i < as_.length
    · rw [bT (by omega), dD (by omega), bA, gJ g, aZ g, List.any_cons]
      unfold kW
      rw [bP]
      by_cases e : n = as_[i].1
      · rw [decide_eq_true e, lv, decide_eq_true e.symm, Bool.true_or]
        exact ⟨_, rfl, decide_eq_true (by omega)⟩
      · rw [decide_eq_false e, ei, cV (by omega), cS, decide_eq_false (fun q => e q.symm), Bool.false_or]
        exact od F as_ n v hl m (i + 1) (by omega) (by omega)
    · rw [bF (by omega), bh (by omega)]
      exact ⟨-1, rfl, rfl⟩
theorem cont_eq (F : Nat) (as_ : List At) (n v : Bs) (hl : as_.length ≤ 1000000) (hF : as_.length < F) : dX F as_ n v = some (as_.any fun x => decide (x.1 = n)) := by
  obtain ⟨j, h1, h2⟩ := od F as_ n v hl F 0 (by omega) (by omega)
  unfold dX gH
  show bnd (dr F as_ n v F ((0 : Nat) : Int)) _ = _
  rw [h1, bP, h2, List.drop_zero]
section
variable {F : Nat} (hF : 1500000 < F)
include hF
theorem attr_j {s : Bs} {o : List Bs} {k : Int} {l : List Tok} {x : Bs × Bs} (q : UInt8) (hs : s.length ≤ 100000) : fg F o k l x [q] s = some (attrR (pm (dec F) x.1 q s)) := by
  unfold fg pm
  rw [po (by simp) (by omega)]
  cases e : iE [q] s with
  | none => simp only [cutR]; rw [ce]; rfl
  | some y =>
    obtain ⟨raw, r⟩ := y
    have hl := congrArg List.length (jK (by simp) e)
    simp only [List.length_append] at hl
    simp only [cutR]
    rw [bO, kb (by simp; omega), bA]
    simp only []
    rw [rJ]
    by_cases g : 60 ∈ raw
    · rw [decide_eq_true g, notT, lu, ce, if_pos g]; rfl
    · rw [decide_eq_false g, notF, mw, bO, if_neg g, oM hF (by omega)]
      cases dec F raw with
      | none => simp only [oR]; rw [ce]; rfl
      | some t => simp only [oR]; rw [bO]; rfl
theorem attr_eq {s : Bs} {o : List Bs} {k : Int} {l : List Tok} (hs : s.length ≤ 100000) : jp F s o k l = some (attrR (mu (dec F) s)) := by
  unfold jp mu
  rw [py (by omega) (by omega) (by omega)]
  cases e : gq s with
  | none => simp only [jZ]; rw [ce]; rfl
  | some y =>
    obtain ⟨n, r⟩ := y
    have hl := congrArg List.length (lk e).1
    rw [List.length_append] at hl
    simp only [jZ]
    rw [bO]
    simp only []
    by_cases h1 : ([61, 34] : Bs).isPrefixOf r = true
    · rw [gZ h1, aU, bnT, if_pos h1]
      exact attr_j hF 34 (by simp; omega)
    · rw [iG (eq_false_of_ne_true h1), aU, bnF, if_neg h1]
      by_cases h2 : ([61, 39] : Bs).isPrefixOf r = true
      · rw [gZ h2, aU, mw, bO, if_pos h2]
        exact attr_j hF 39 (by simp; omega)
      · rw [iG (eq_false_of_ne_true h2), aU, lu, ce, if_neg h2]; rfl
abbrev ER := Bool × Bs × Int × List Tok × List Bs
def qB : Rx → Res ER
  | .ok x => .ok (true, x.1, (x.2.2.1 : Int), x.2.2.2, x.2.1)
  | .no e => .pan e
omit hF in
theorem rE {s n v : Bs} {as_ : List At} {em : Bool} {o : List Bs} {k : Nat} {l : List Tok} (ho : o.length ≤ 20) (hl : l.length ≤ 999000) :
    dB F o l (n, v) em s as_ (k : Int) = some (qB (if 20 ≤ o.length then .no 5 else if em = true then .ok (s, o, k, (l ++ [(0, n, [], as_)]) ++ [(1, n, [], [])]) else .ok (s, o ++ [n], k, l ++ [(0, n, [], as_)]))) := by
  have hn : (o ++ [n]).length = o.length + 1 := by simp
  unfold dB eQ
  dsimp only
  rw [eN (by simp; omega), bA]
  by_cases h : 20 ≤ o.length
  · rw [bT (by omega), if_pos h]; rfl
  · rw [bF (by omega), if_neg h]
    unfold eR eS
    dsimp only
    rw [eN (by simp; omega), bA]
    cases em with
    | false => rw [ei, if_neg (by decide)]; rfl
    | true =>
      rw [lv, if_pos rfl, rB (by omega) (by simp; omega)]
      unfold jX
      rw [if_pos (by simp)]
      simp only [qA]
      rw [bO]
      simp [eb, qB]
omit hF in
theorem rF {s n v : Bs} {as_ : List At} {em : Bool} {o : List Bs} {k : Nat} {l : List Tok} (ho : o.length ≤ 20) (hl : l.length ≤ 999000) (hk : k ≤ 1) :
    dA F o (k : Int) l (n, v) em s as_ = some (qB (mq n as_ em s o k l)) := by
  unfold dA mq
  by_cases h : o = []
  · subst h
    rw [bT (by simp), cV (by omega)]
    by_cases g : k = 0
    · subst g
      rw [decide_eq_true (p := ((0 : Nat) : Int) + 1 = 1) (by omega), mw, bO, if_neg (by simp), if_pos rfl]
      exact rE (k := 1) (by simp) hl
    · rw [decide_eq_false (p := (k : Int) + 1 = 1) (by omega), lu, ce, if_pos ⟨rfl, g⟩]; rfl
  · have := List.length_pos_iff.2 h
    rw [bF (by omega), if_neg (fun q => h q.1), if_neg h]
    exact rE ho hl
def elemP' (F : Nat) (n : Bs) (o : List Bs) (k : Nat) (l : List Tok) : Option (List At × Bool × Bs) → Rx
  | none => .no 2
  | some (as_, em, r) => mq n as_ em r o k l
theorem oL {n v : Bs} {o : List Bs} {k : Nat} {l : List Tok} (ho : o.length ≤ 20) (hl : l.length ≤ 999000) (hk : k ≤ 1) : ∀ (m : Nat) (as_ : List At) (s : Bs), s.length < m → as_.length + s.length ≤ 100000 →
    eT F o (k : Int) l (n, v) m (as_, s) = some (qB (elemP' F n o k l (hH (dec F) (s.length + 1) as_ s)))
  | 0, as_, s, h, _ => by omega
  | m + 1, as_, s, h, hs => by
    show eU F o (k : Int) l (n, v) (eT F o (k : Int) l (n, v) m) as_ s = _
    have hd := qC fN s
    unfold eU hH
    rw [nW, aU]
    by_cases h1 : ([62] : Bs).isPrefixOf (s.dropWhile fN) = true
    · rw [gZ h1, aU, lv, if_pos h1]
      exact rF ho hl hk
    · rw [iG (eq_false_of_ne_true h1), aU, ei, if_neg h1]
      by_cases h2 : ([47, 62] : Bs).isPrefixOf (s.dropWhile fN) = true
      · rw [gZ h2, aU, lv, if_pos h2]
        exact rF ho hl hk
      · rw [iG (eq_false_of_ne_true h2), aU, ei, if_neg h2]
        by_cases h3 : (s.dropWhile fN).length = s.length
        · rw [if_pos h3, decide_eq_false (by omega), lu, ce]; rfl
        · rw [if_neg h3, decide_eq_true (by omega), mw, bO, attr_eq hF (by omega)]
          cases e : mu (dec F) (s.dropWhile fN) with
          | none => simp only [attrR]; rw [ce]; rfl
          | some y =>
            obtain ⟨a, r⟩ := y
            have hr := lE e
            simp only [attrR]
            rw [bO, cont_eq F as_ _ _ (by omega) (by omega), bP]
            cases hc : as_.any fun x => decide (x.1 = a.1) with
            | true => rw [notT, lu, ce, if_pos rfl]; rfl
            | false =>
              rw [notF, mw, bO, if_neg (by decide), eN (by simp; omega), bA]
              have := oL (n := n) (v := v) ho hl hk m (as_ ++ [a]) r (by omega) (by simp; omega)
              rw [lZ (k := s.length) (m := r.length + 1) (by omega) (by omega)]
              exact this
theorem sN {s : Bs} {o : List Bs} {k : Nat} {l : List Tok} (hs : s.length ≤ 100000) (ho : o.length ≤ 20) (hl : l.length ≤ 999000) (hk : k ≤ 1) (h : ([60] : Bs).isPrefixOf s = true) :
    ff F s o (k : Int) l = some (qB (mr (dec F) (s.drop 1) o k l)) := by
  unfold ff mr
  rw [gZ h, aU, bnT, py (by omega) (by simp; omega) (by simp; omega)]
  show eg (some (jZ (gq (s.drop 1)))) _ = _
  cases e : gq (s.drop 1) with
  | none => simp only [jZ]; rw [ce]; rfl
  | some y =>
    obtain ⟨n, r⟩ := y
    have hr := congrArg List.length (lk e).1
    rw [List.length_append, List.length_drop] at hr
    simp only [jZ]
    rw [bO]
    refine Eq.trans (oL hF ho hl hk F [] r (by omega) (by simp; omega)) ?_
    cases hH (dec F) (r.length + 1) [] r with
    | none => rfl
    | some z => rfl
def nn : Rx → Res (Bool × Bs)
  | .ok x => .ok (true, x.1)
  | .no e => .pan e
def endR : Rx → Res (Bool × Bs × List Tok × List Bs)
  | .ok x => .ok (true, x.1, x.2.2.2, x.2.1)
  | .no e => .pan e
omit hF in
theorem pv {s p q : Bs} {o : List Bs} {k : Nat} {l : List Tok} (hs : s.length ≤ 1000000) (hp : p ≠ []) : (eg (fq F s o (k : Int) l p) fun x14 => some (Res.ok (true, x14.2))) = some (nn (gp p s o k l)) := by
  rw [po hp hs]
  unfold gp
  cases iE p s with
  | none => simp only [cutR]; rw [ce]; rfl
  | some y => simp only [cutR]; rw [bO]; rfl
omit hF in
theorem data_eq {s : Bs} {o : List Bs} {k : Nat} {l : List Tok} (hs : s.length ≤ 1000000) (hl : l.length ≤ 1000000) (h : ([60, 33, 91, 67, 68, 65, 84, 65, 91] : Bs).isPrefixOf s = true) :
    iy F s o (k : Int) l = some (rq (mt (s.drop 9) o k l)) := by
  unfold iy mt
  rw [gZ h, aU, bnT, po (by simp) (by simp; omega)]
  show eg (some (cutR (iE [93, 93, 62] (s.drop 9)))) _ = _
  cases iE [93, 93, 62] (s.drop 9) with
  | none => simp only [cutR]; rw [ce]; rfl
  | some y =>
    obtain ⟨t, r⟩ := y
    simp only [cutR]
    rw [bO]
    by_cases ho : o = []
    · subst ho
      rw [decide_eq_false (by simp), lu, ce, if_pos rfl]; rfl
    · have := List.length_pos_iff.2 ho
      rw [decide_eq_true (by omega), mw, bO, ru hl, bP, if_neg ho]; rfl
theorem end_eq {s : Bs} {o : List Bs} {k : Nat} {l : List Tok} (hs : s.length ≤ 100000) (ho : o.length ≤ 20) (hl : l.length ≤ 999000) (h : ([60, 47] : Bs).isPrefixOf s = true) :
    fy F s o (k : Int) l = some (endR (endP (s.drop 2) o k l)) := by
  unfold fy endP
  rw [gZ h, aU, bnT, py (by omega) (by simp; omega) (by simp; omega)]
  show eg (some (jZ (gq (s.drop 2)))) _ = _
  cases gq (s.drop 2) with
  | none => simp only [jZ]; rw [ce]; rfl
  | some y =>
    obtain ⟨n, r⟩ := y
    simp only [jZ]
    rw [bO, nW, aU]
    simp only []
    by_cases h1 : ([62] : Bs).isPrefixOf (r.dropWhile fN) = true
    · rw [gZ h1, aU, mw, bO, if_pos h1, rB (by omega) (by omega)]
      show eg (some (qA (jX n ((r.dropWhile fN).drop 1) o k l))) _ = _
      unfold jX
      by_cases g : o.getLast? = some n
      · rw [if_pos g]; simp only [qA]; rw [bO]; rfl
      · rw [if_neg g]; simp only [qA]; rw [ce]; rfl
    · rw [iG (eq_false_of_ne_true h1), aU, lu, ce, if_neg h1]; rfl
def stepR : Rx → Res (Bs × Int × List Tok × List Bs)
  | .ok x => .ok (x.1, (x.2.2.1 : Int), x.2.2.2, x.2.1)
  | .no e => .pan e
omit hF in
theorem kY {p s : Bs} {o : List Bs} {k : Nat} {l : List Tok} {x : Sx} (h : gp p s o k l = .ok x) : x.2 = (o, k, l) := by
  unfold gp at h
  split at h
  · cases h
  · cases h; rfl
theorem step_eq {s : Bs} {o : List Bs} {k : Nat} {l : List Tok} (h0 : s ≠ []) (hs : s.length ≤ 100000) (ho : o.length ≤ 20) (hl : l.length ≤ 999000) (hk : k ≤ 1) :
    jo F s o (k : Int) l = some (stepR (ie (dec F) s o k l)) := by
  unfold jo ie
  by_cases h1 : ([60] : Bs).isPrefixOf s = true
  · rw [plain_no h1, bO, ei, if_neg (by rw [h1]; decide)]
    simp only []
    unfold fR
    by_cases h2 : ([60, 33, 45, 45] : Bs).isPrefixOf s = true
    · rw [gZ h2, aU, bnT, pv (q := []) (by simp; omega) (by simp), if_pos h2]
      show eg (some (nn (gp [45, 45, 62] (s.drop 4) o k l))) _ = _
      cases e : gp [45, 45, 62] (s.drop 4) o k l with
      | no e => rfl
      | ok x =>
        have := kY e
        obtain ⟨a, b⟩ := x
        simp only at this; subst this
        simp only [nn]; rw [bO]; rfl
    · rw [iG (eq_false_of_ne_true h2), aU, bnF, bO, ei, if_neg h2]
      simp only []
      unfold mb
      by_cases h3 : ([60, 63] : Bs).isPrefixOf s = true
      · rw [gZ h3, aU, bnT, pv (q := []) (by simp; omega) (by simp), if_pos h3]
        show eg (some (nn (gp [63, 62] (s.drop 2) o k l))) _ = _
        cases e : gp [63, 62] (s.drop 2) o k l with
        | no e => rfl
        | ok x =>
          have := kY e
          obtain ⟨a, b⟩ := x
          simp only at this; subst this
          simp only [nn]; rw [bO]; rfl
      · rw [iG (eq_false_of_ne_true h3), aU, bnF, bO, ei, if_neg h3]
        simp only []
        by_cases h4 : ([60, 33, 91, 67, 68, 65, 84, 65, 91] : Bs).isPrefixOf s = true
        · rw [data_eq (by omega) (by omega) h4, if_pos h4]
          unfold mt
          cases iE [93, 93, 62] (s.drop 9) with
          | none => rfl
          | some y =>
            obtain ⟨t, r⟩ := y
            simp only []
            by_cases g : o = []
            · rw [if_pos g]; rfl
            · rw [if_neg g]; rfl
        · rw [if_neg h4]
          unfold iy
          rw [iG (eq_false_of_ne_true h4), aU, bnF, bO, ei]
          simp only []
          unfold ma
          by_cases h5 : ([60, 33] : Bs).isPrefixOf s = true
          · rw [gZ h5, aU, bnT, pv (q := []) (by simp; omega) (by simp), if_pos h5]
            show eg (some (nn (gp [62] (s.drop 2) o k l))) _ = _
            cases e : gp [62] (s.drop 2) o k l with
            | no e => rfl
            | ok x =>
              have := kY e
              obtain ⟨a, b⟩ := x
              simp only at this; subst this
              simp only [nn]; rw [bO]; rfl
          · rw [iG (eq_false_of_ne_true h5), aU, bnF, bO, ei, if_neg h5]
            simp only []
            by_cases h6 : ([60, 47] : Bs).isPrefixOf s = true
            · rw [end_eq hF hs ho hl h6, if_pos h6]
              unfold endP
              cases gq (s.drop 2) with
              | none => rfl
              | some y =>
                obtain ⟨n, r⟩ := y
                simp only []
                by_cases g : ([62] : Bs).isPrefixOf (r.dropWhile fN) = true
                · rw [if_pos g]
                  unfold jX
                  by_cases g2 : o.getLast? = some n
                  · rw [if_pos g2]; rfl
                  · rw [if_neg g2]; rfl
                · rw [if_neg g]; rfl
            · rw [if_neg h6]
              unfold fy
              rw [iG (eq_false_of_ne_true h6), aU, bnF, bO, ei]
              simp only []
              rw [sN hF hs ho hl hk h1]
              cases mr (dec F) (s.drop 1) o k l with
              | no e => rfl
              | ok x => rfl
  · rw [plain_eq hF hs (by omega) h0 (eq_false_of_ne_true h1), if_pos (eq_false_of_ne_true h1)]
    unfold ju
    cases dec F (s.takeWhile fun c => decide (c ≠ 60)) with
    | none => rfl
    | some t =>
      simp only []
      by_cases g : o = []
      · rw [if_pos g]
        cases (s.takeWhile fun c => decide (c ≠ 60)).all fN with
        | true => rw [if_pos rfl]; rfl
        | false => rw [if_neg (by decide)]; rfl
      · rw [if_neg g]; rfl
end
end Go.Xm
namespace Go.Xm
open Go.Pv Go.Av
theorem nV (t : Bs) (l : List Tok) : (mo t l).length ≤ l.length + 1 := by
  unfold mo; split <;> simp
def Kp (o : List Bs) (k : Nat) (l : List Tok) (m : Nat) : Prop := o.length ≤ 20 ∧ k ≤ 1 ∧ l.length ≤ m
theorem pu {p s : Bs} {o : List Bs} {k : Nat} {l : List Tok} {m : Nat} {x : Sx} (h : Kp o k l m) (e : gp p s o k l = .ok x) : Kp x.2.1 x.2.2.1 x.2.2.2 (m + 2) := by
  have := kY e
  obtain ⟨a, b⟩ := x
  simp only at this; subst this
  obtain ⟨h1, h2, h3⟩ := h;exact ⟨h1, h2, by simp only; omega⟩
theorem rz {d : Bs → Option Bs} {s : Bs} {o : List Bs} {k : Nat} {l : List Tok} {m : Nat} {x : Sx} (h : Kp o k l m) (e : ie d s o k l = .ok x) : Kp x.2.1 x.2.2.1 x.2.2.2 (m + 2) := by
  obtain ⟨h1, h2, h3⟩ := id h
  unfold ie at e
  split at e
  · unfold ju at e
    split at e
    · cases e
    · split at e
      · split at e
        · cases e; exact ⟨h1, h2, by simp only; omega⟩
        · cases e
      · rename_i t _ _
        cases e
        have := nV t l
        exact ⟨h1, h2, by simp only; omega⟩
  split at e
  · exact pu h e
  split at e
  · exact pu h e
  split at e
  · unfold mt at e
    split at e
    · cases e
    · split at e
      · cases e
      · rename_i t r _ _
        cases e
        have := nV t l
        exact ⟨h1, h2, by simp only; omega⟩
  split at e
  · exact pu h e
  split at e
  · unfold endP at e
    split at e
    · cases e
    · split at e
      · unfold jX at e
        split at e
        · cases e; exact ⟨by simp only [List.length_dropLast]; omega, h2, by simp only [List.length_append, List.length_singleton]; omega⟩
        · cases e
      · cases e
  · unfold mr at e
    split at e
    · cases e
    · split at e
      · cases e
      · unfold mq at e
        split at e
        · cases e
        · rename_i g
          split at e
          · cases e
          · have hk : (if o = [] then k + 1 else k) ≤ 1 := by
              by_cases q : o = []
              · rw [if_pos q]
                have : k = 0 := Classical.byContradiction fun z => g ⟨q, z⟩
                omega
              · rw [if_neg q]; exact h2
            split at e
            · cases e; exact ⟨h1, hk, by simp; omega⟩
            · cases e; exact ⟨by simp; omega, hk, by simp; omega⟩
def tokE : Rx → List Tok × Int
  | .ok (_, o, k, l) => if o = [] ∧ 0 < k then (l, 0) else ([], 2)
  | .no e => ([], e)
theorem pp (d : Bs → Option Bs) (s : Bs) : mx d s = tokE (kU d (s.length + 1) (s, [], 0, [])) := by
  unfold mx
  cases kU d (s.length + 1) (s, [], 0, []) with
  | ok x => rfl
  | no e => rfl
theorem qk {F : Nat} (hF : 1500000 < F) : ∀ (n m : Nat) (s : Bs) (o : List Bs) (k : Nat) (l : List Tok), s.length < n → s.length < m → s.length ≤ 100000 → Kp o k l (900000 - 2 * s.length) →
    fI F n (s, o, (k : Int), l) = some (tokE (kU (dec F) m (s, o, k, l)))
  | 0, _, s, o, k, l, h, _, _, _ => by omega
  | _, 0, s, o, k, l, _, h, _, _ => by omega
  | n + 1, m + 1, s, o, k, l, hn, hm, hs, hk => by
    show fJ F (fI F n) s o (k : Int) l = _
    unfold fJ kU
    by_cases h0 : s = []
    · rw [decide_eq_true h0, bnT, if_pos h0]
      unfold fH tokE
      simp only []
      by_cases ho : o = []
      · subst ho
        by_cases g : 0 < k
        · rw [decide_eq_true (by simp), decide_eq_true (by omega), Bool.and_self, mw, rL, if_pos ⟨rfl, g⟩]
        · rw [decide_eq_true (by simp), decide_eq_false (p := (0 : Int) < (k : Int)) (by omega), Bool.and_false, lu, nj, if_neg fun q => g q.2]
      · have := List.length_pos_iff.2 ho
        rw [decide_eq_false (p := (o.length : Int) = 0) (by omega), Bool.false_and, lu, nj, if_neg fun q => ho q.1]
    · rw [decide_eq_false h0, bnF, if_neg h0, step_eq hF h0 hs hk.1 (by have := hk.2.2; omega) hk.2.1]
      cases e : ie (dec F) s o k l with
      | no e => simp only [stepR]; rw [nj]; rfl
      | ok x =>
        obtain ⟨s', o', k', l'⟩ := x
        have h1 := ql h0 e
        have h2 := rz hk e
        simp only at h1 h2
        simp only [stepR]
        rw [rL]
        simp only []
        exact qk hF n m s' o' k' l' (by omega) (by omega) (by omega) ⟨h2.1, h2.2.1, by have := h2.2.2; omega⟩
theorem tok_eq {F : Nat} (hF : 1500000 < F) {s : Bs} (hs : s.length ≤ 100000) : gM F s = some (mx (dec F) s) := by
  unfold gM
  rw [bF (by omega), pp]
  exact qk hF F (s.length + 1) s [] 0 [] (by omega) (by omega) hs ⟨by simp, by omega, by simp⟩
theorem run_kp {d : Bs → Option Bs} : ∀ {n : Nat} {s : Bs} {o : List Bs} {k : Nat} {l : List Tok} {m : Nat} {x : Sx}, s.length ≤ m → Kp o k l (900000 - 2 * m) → m ≤ 100000 → kU d n (s, o, k, l) = .ok x → x.2.2.2.length ≤ 900000
  | 0, s, o, k, l, m, x, _, _, _, h => by cases h
  | n + 1, s, o, k, l, m, x, hs, hk, hm, h => by
    unfold kU at h
    by_cases h0 : s = []
    · rw [if_pos h0] at h; cases h; have := hk.2.2; simp only; omega
    · rw [if_neg h0] at h
      cases e : ie d s o k l with
      | no e' => rw [e] at h; cases h
      | ok y =>
        rw [e] at h
        obtain ⟨s', o', k', l'⟩ := y
        have h1 := ql h0 e
        have h2 := rz hk e
        have hp := List.length_pos_iff.2 h0
        simp only at h1 h2 h
        exact run_kp (m := m - 1) (by omega) ⟨h2.1, h2.2.1, by have := h2.2.2; omega⟩ (by omega) h
theorem rt {d : Bs → Option Bs} {s : Bs} (hs : s.length ≤ 100000) : (mx d s).1.length ≤ 900000 := by
  rw [pp]
  cases e : kU d (s.length + 1) (s, [], 0, []) with
  | no e => simp [tokE]
  | ok x =>
    have := run_kp (m := s.length) (Nat.le_refl _) ⟨by simp, by omega, by simp⟩ hs e
    obtain ⟨s', o', k', l'⟩ := x;show (if o' = [] ∧ 0 < k' then (l', (0 : Int)) else ([], 2)).1.length ≤ _
    split
    · exact this
    · simp
theorem tok_err {d : Bs → Option Bs} {s : Bs} (h : (mx d s).2 ≠ 0) : (mx d s).1 = [] := by
  rw [pp] at h ⊢
  cases e : kU d (s.length + 1) (s, [], 0, []) with
  | no e => rfl
  | ok x =>
    obtain ⟨s', o', k', l'⟩ := x
    rw [e] at h
    change (if o' = [] ∧ 0 < k' then (l', (0 : Int)) else ([], 2)).2 ≠ 0 at h
    show (if o' = [] ∧ 0 < k' then (l', (0 : Int)) else ([], 2)).1 = []
    by_cases g : o' = [] ∧ 0 < k'
    · rw [if_pos g] at h; exact absurd rfl h
    · rw [if_neg g]
end Go.Xm
namespace Go.Xm
open Go.Pv Go.Av
instance decBL : DecidableEq (Bs × List At) := instDecidableEqProd
instance decBBL : DecidableEq (Bs × Bs × List At) := instDecidableEqProd
instance decTok : DecidableEq Tok := instDecidableEqProd
theorem awake : hZ 2000000 = some true := by decide +kernel
theorem pr {p s : Bs} {o : List Bs} {k : Nat} {l : List Tok} {e : Int} (h : gp p s o k l = .no e) : e ≠ 0 := by
  unfold gp at h
  split at h <;> (cases h; try decide)
theorem step_no {d : Bs → Option Bs} {s : Bs} {o : List Bs} {k : Nat} {l : List Tok} {e : Int} (h : ie d s o k l = .no e) : e ≠ 0 := by
  unfold ie at h
  split at h
  · unfold ju at h
    split at h
    · cases h; decide
    · split at h
      · split at h <;> (cases h; try decide)
      · cases h
  split at h
  · exact pr h
  split at h
  · exact pr h
  split at h
  · unfold mt at h
    split at h
    · cases h; decide
    · split at h <;> (cases h; try decide)
  split at h
  · exact pr h
  split at h
  · unfold endP at h
    split at h
    · cases h; decide
    · split at h
      · unfold jX at h
        split at h <;> (cases h; try decide)
      · cases h; decide
  · unfold mr at h
    split at h
    · cases h; decide
    · split at h
      · cases h; decide
      · unfold mq at h
        split at h
        · cases h; decide
        · split at h
          · cases h; decide
          · split at h <;> cases h
theorem run_no {d : Bs → Option Bs} : ∀ {n : Nat} {x : Sx} {e : Int}, kU d n x = .no e → e ≠ 0
  | 0, x, e, h => by cases h; decide
  | n + 1, (s, o, k, l), e, h => by
    unfold kU at h
    split at h
    · cases h
    · cases g : ie d s o k l with
      | no e' => rw [g] at h; cases h; exact step_no g
      | ok y => rw [g] at h; exact run_no h
end Go.Xm
namespace Go.Xm
def rpS (f : Bool) (o : List Bs) (t : Tok) : Option (List Bs) :=
  if f = false ∧ o = [] then none
  else if t.1 = 0 then (if o.length < 20 then some (o ++ [t.2.1]) else none)
  else if t.1 = 1 then (if o.getLast? = some t.2.1 then some o.dropLast else none)
  else if (t.1 = 2 ∧ t.2.2.1 ≠ []) ∧ o ≠ [] then some o else none
def rp : Bool → List Bs → List Tok → Option (List Bs)
  | _, o, [] => some o
  | f, o, t :: r => match rpS f o t with | none => none | some o' => rp false o' r
theorem rC (t : Tok) : ∀ (l : List Tok) (f : Bool) (o : List Bs), rp f o (l ++ [t]) = match rp f o l with | none => none | some o' => rpS (f && l.isEmpty) o' t
  | [], f, o => by
    show (match rpS f o t with | none => none | some o' => some o') = rpS (f && true) o t
    rw [Bool.and_true]
    cases rpS f o t <;> rfl
  | x :: l, f, o => by
    show (match rpS f o x with | none => none | some o' => rp false o' (l ++ [t])) = match (match rpS f o x with | none => none | some o' => rp false o' l) with | none => none | some o' => rpS (f && false) o' t
    cases rpS f o x with
    | none => rfl
    | some o' =>
      simp only
      rw [rC t l false o', Bool.and_false, Bool.false_and]
structure Nest (o : List Bs) (k : Nat) (l : List Tok) : Prop where
  rp : rp true [] l = some o
  few : o.length ≤ 20
  one : k ≤ 1
  none : k = 0 → l = [] ∧ o = []
  some : k ≠ 0 → ∃ t r, l = t :: r ∧ t.1 = 0
theorem Nest.ne {o : List Bs} {k : Nat} {l : List Tok} (h : Nest o k l) (ho : o ≠ []) : k ≠ 0 ∧ l ≠ [] := by
  have : k ≠ 0 := fun e => ho (h.none e).2
  obtain ⟨t, r, e, _⟩ := h.some this;exact ⟨this, by rw [e]; simp⟩
theorem Nest.snoc {o o' : List Bs} {k : Nat} {l : List Tok} {t : Tok} (h : Nest o k l) (ho : o ≠ []) (hr : rpS false o t = Option.some o') (hf : o'.length ≤ 20) : Nest o' k (l ++ [t]) := by
  obtain ⟨hk, hl⟩ := h.ne ho;obtain ⟨x, r, e, hx⟩ := h.some hk;refine ⟨?_, hf, h.one, fun e => absurd e hk, fun _ => ⟨x, r ++ [t], by rw [e]; rfl, hx⟩⟩
  rw [rC, h.rp]
  have : l.isEmpty = false := by cases l with | nil => exact absurd rfl hl | cons a b => rfl
  rw [this, Bool.and_false]
  exact hr
theorem Nest.text {o : List Bs} {k : Nat} {l : List Tok} (h : Nest o k l) (ho : o ≠ []) (t : Bs) : Nest o k (mo t l) := by
  unfold mo
  by_cases e : t = []
  · rw [if_pos e]; exact h
  · rw [if_neg e]
    refine h.snoc ho ?_ h.few
    unfold rpS
    rw [if_neg (fun z => ho z.2), if_neg (show ¬ ((2 : Int) = 0) by decide), if_neg (show ¬ ((2 : Int) = 1) by decide), if_pos ⟨⟨rfl, e⟩, ho⟩]
theorem last_ne {o : List Bs} {n : Bs} (h : o.getLast? = some n) : o ≠ [] := fun e => by rw [e] at h; cases h
theorem Nest.shut {o : List Bs} {k : Nat} {l : List Tok} (h : Nest o k l) (n : Bs) (hl : o.getLast? = Option.some n) : Nest o.dropLast k (l ++ [(1, n, [], [])]) := by
  have ho := last_ne hl
  refine h.snoc ho ?_ (by have := h.few; rw [List.length_dropLast]; omega)
  unfold rpS
  rw [if_neg (fun z => ho z.2), if_neg (show ¬ ((1 : Int) = 0) by decide), if_pos rfl, if_pos hl]
theorem Nest.open_ {o : List Bs} {k : Nat} {l : List Tok} (h : Nest o k l) (n : Bs) (as_ : List At) (h1 : ¬ (o = [] ∧ k ≠ 0)) (h2 : ¬ 20 ≤ o.length) :
    Nest (o ++ [n]) (if o = [] then k + 1 else k) (l ++ [(0, n, [], as_)]) := by
  by_cases ho : o = []
  · have hk : k = 0 := by
      by_cases e : k = 0
      · exact e
      · exact absurd ⟨ho, e⟩ h1
    obtain ⟨e1, _⟩ := h.none hk
    subst ho; subst e1; subst hk
    rw [if_pos rfl]
    exact ⟨rfl, by simp, by omega, fun e => by omega, fun _ => ⟨_, [], rfl, rfl⟩⟩
  · rw [if_neg ho]
    refine h.snoc ho ?_ (by simp; omega)
    unfold rpS
    rw [if_neg (fun z => ho z.2), if_pos rfl, if_pos (by omega)]
section
variable {dec : Bs → Option Bs}
theorem Nest.step {s : Bs} {o : List Bs} {k : Nat} {l : List Tok} {x : Sx} (h : Nest o k l) (e : ie dec s o k l = .ok x) : Nest x.2.1 x.2.2.1 x.2.2.2 := by
  unfold ie at e
  split at e
  · unfold ju at e
    split at e
    · cases e
    · split at e
      · split at e
        · cases e; exact h
        · cases e
      · rename_i g
        cases e; exact h.text g _
  split at e
  · have := (iQ (by simp) e).2
    rw [this]; exact h
  split at e
  · have := (iQ (by simp) e).2
    rw [this]; exact h
  split at e
  · unfold mt at e
    split at e
    · cases e
    · split at e
      · cases e
      · rename_i g
        cases e; exact h.text g _
  split at e
  · have := (iQ (by simp) e).2
    rw [this]; exact h
  split at e
  · unfold endP at e
    split at e
    · cases e
    · split at e
      · unfold jX at e
        split at e
        · rename_i g
          cases e; exact h.shut _ g
        · cases e
      · cases e
  · unfold mr at e
    split at e
    · cases e
    · rename_i n r hn
      split at e
      · cases e
      · rename_i as_ em r' ha
        unfold mq at e
        split at e
        · cases e
        · rename_i g1
          split at e
          · cases e
          · rename_i g2
            have ho := h.open_ n as_ g1 g2
            split at e
            · cases e
              have := ho.shut n (by simp)
              simpa using this
            · cases e; exact ho
theorem Nest.run : ∀ {n : Nat} {x y : Sx}, Nest x.2.1 x.2.2.1 x.2.2.2 → kU dec n x = .ok y → Nest y.2.1 y.2.2.1 y.2.2.2
  | 0, x, y, h, e => by cases e
  | n + 1, (s, o, k, l), y, h, e => by
    unfold kU at e
    split at e
    · cases e; exact h
    · cases es : ie dec s o k l with
      | no e' => rw [es] at e; cases e
      | ok z =>
        rw [es] at e
        exact Nest.run (h.step es) e
theorem nest_nil : Nest [] 0 [] := ⟨rfl, by simp, by omega, fun _ => ⟨rfl, rfl⟩, fun e => absurd rfl e⟩
theorem tok_nest {s : Bs} {l : List Tok} (h : mx dec s = (l, 0)) (hd : ∀ e, kU dec (s.length + 1) (s, [], 0, []) = .no e → e ≠ 0) :
    rp true [] l = some [] ∧ 2 ≤ l.length ∧ ∃ t r, l = t :: r ∧ t.1 = 0 := by
  unfold mx at h
  cases e : kU dec (s.length + 1) (s, [], 0, []) with
  | no e' =>
    rw [e] at h
    have := hd e' e
    cases h
    exact absurd rfl this
  | ok y =>
    obtain ⟨s', o, k, l'⟩ := y
    rw [e] at h
    simp only at h
    have hn := Nest.run (x := (s, [], 0, [])) nest_nil e
    simp only at hn
    split at h
    · rename_i g
      cases h
      obtain ⟨g1, g2⟩ := g;subst g1;obtain ⟨t, r, hl, ht⟩ := hn.some (by omega);refine ⟨hn.rp, ?_, t, r, hl, ht⟩
      rw [hl]
      cases r with
      | nil =>
        have := hn.rp
        rw [hl] at this
        unfold rp rpS at this
        rw [if_neg (by rintro ⟨q, _⟩; cases q), if_pos ht, if_pos (by simp)] at this
        cases this
      | cons a b => simp
    · cases h
end
end Go.Xm
namespace Go.Xm
open Go.Pv Go.Av
theorem oa (l : List Tok) (hl : l.length ≤ 1000000) (h2 : 2 ≤ l.length) (h0 : (l[0]'(by omega)).1 = 0) : ∀ (n i : Nat) (o : List Bs), l.length - i < n → i ≤ l.length → o.length ≤ 20 → rp (decide (i = 0)) o (l.drop i) = some [] →
    bX l n (o, (i : Int)) = some true
  | 0, i, o, h, _, _, _ => by omega
  | n + 1, i, o, h, hi, ho, hr => by
    show di l (bX l n) o (i : Int) = _
    unfold di
    by_cases g : i < l.length
    · rw [aZ g] at hr
      unfold rp at hr
      cases e : rpS (decide (i = 0)) o l[i] with
      | none => rw [e] at hr; cases hr
      | some o' =>
        rw [e] at hr
        simp only at hr
        have step : ∀ o' : List Bs, o'.length ≤ 20 → rp false o' (l.drop (i + 1)) = some [] → bW (i : Int) (bX l n) o' = some true := fun o' h1 h2' => by
          unfold bW
          rw [bF (by omega), cV (by omega), cS]
          refine oa l hl h2 h0 n (i + 1) o' (by omega) (by omega) h1 ?_
          rw [decide_eq_false (by omega)]; exact h2'
        unfold rpS at e
        rw [bT (by omega), dD (by omega), bA, gJ g]
        by_cases q : decide (i = 0) = false ∧ o = []
        · rw [if_pos q] at e; cases e
        · rw [if_neg q] at e
          have q0 : (decide ((0 : Int) < (i : Int)) && decide ((o.length : Int) = 0)) = false := by
            by_cases qi : i = 0
            · rw [decide_eq_false (by omega), Bool.false_and]
            · have : o ≠ [] := fun z => q ⟨decide_eq_false qi, z⟩
              have := List.length_pos_iff.2 this
              rw [decide_eq_false (p := (o.length : Int) = 0) (by omega), Bool.and_false]
          rw [q0, ei]
          by_cases k0 : l[i].1 = 0
          · rw [if_pos k0] at e
            rw [bT k0, eN (by simp; omega), bA]
            by_cases z : o.length < 20
            · rw [if_pos z] at e
              cases e
              exact step _ (by simp; omega) hr
            · rw [if_neg z] at e; cases e
          · rw [if_neg k0] at e
            rw [bF k0]
            by_cases k1 : l[i].1 = 1
            · rw [if_pos k1] at e
              rw [bT k1]
              by_cases z : o.getLast? = some l[i].2.1
              · rw [if_pos z] at e
                cases e
                have hne : o ≠ [] := fun w => by rw [w] at z; cases z
                have hp := List.length_pos_iff.2 hne
                rw [List.getLast?_eq_some_getLast hne] at z
                rw [decide_eq_false (p := (o.length : Int) = 0) (by omega), notF, hC, hC, cV (by omega), dD (by omega), bA, rM hne, al z, decide_eq_true rfl, notT, Bool.or_self, ei,
                  cV (by omega), fD (by omega), bA, show (o.length : Int) - 1 = ((o.length - 1 : Nat) : Int) by omega, md, ← List.dropLast_eq_take, eN (by simp; omega)]
                exact step _ (by simp; omega) hr
              · rw [if_neg z] at e; cases e
            · rw [if_neg k1] at e
              rw [bF k1]
              by_cases z : (l[i].1 = 2 ∧ l[i].2.2.1 ≠ []) ∧ o ≠ []
              · rw [if_pos z] at e
                cases e
                have hp := List.length_pos_iff.2 z.2
                rw [decide_eq_true z.1.1, decide_eq_false z.1.2, decide_eq_false (p := (o.length : Int) = 0) (by omega), notT, Bool.or_self, Bool.or_self, ei]
                exact step _ ho hr
              · rw [if_neg z] at e; cases e
    · rw [bh (by omega)] at hr
      unfold rp at hr
      cases hr
      rw [bF (by omega)]
      unfold dh
      rw [decide_eq_true (p := ((([] : List Bs).length : Nat) : Int) = 0) (by simp), decide_eq_true (by omega), Bool.and_self, hC, dD (by omega), bA, at_zero (by omega), decide_eq_true h0]; rfl
theorem XmlNested_t (s : Bs) : eY 2000000 s = some true := by
  have hF : 1500000 < 2000000 := by omega
  generalize hG : (2000000 : Nat) = F at hF
  unfold eY
  rw [← hG, awake, hG, bP, notT, Bool.false_or]
  by_cases h : 2000 < s.length
  · rw [bT (by omega)]
  · rw [bF (by omega), tok_eq hF (by omega)]
    rw [show mx (dec F) s = ((mx (dec F) s).1, (mx (dec F) s).2) from rfl, aU]
    by_cases g : (mx (dec F) s).2 = 0
    · rw [decide_eq_true g, bnT]
      obtain ⟨h1, h2, t, r, h3, h4⟩ := tok_nest (dec := dec F) (s := s) (l := (mx (dec F) s).1) (by rw [← g]) fun e he => run_no he
      refine oa _ (by have := rt (d := dec F) (s := s) (by omega); omega) h2 (by simp only [h3]; exact h4) F 0 [] ?_ (by omega) (by simp) h1
      have := rt (d := dec F) (s := s) (by omega); omega
    · rw [decide_eq_false g, bnF, tok_err g]; rfl
end Go.Xm
