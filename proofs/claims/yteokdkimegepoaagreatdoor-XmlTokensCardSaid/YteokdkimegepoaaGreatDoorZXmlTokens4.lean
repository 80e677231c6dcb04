/-
  Texts in one (only what XmlTokens needs): XmlBW, XmlLP, XmlLW, RefEP, RefEW, XmlRP.
-/
import Derived.Test.YteokdkimegepoaaGreatDoorZXmlTokens3
import Derived.Test.YteokdkimegepoaaGreatDoorShelf
import Derived.Lib.ItoaNum
import Derived.Lib.IndexLaws
import Derived.Test.YteokdkimegepoaaGreatDoorChecked
set_option linter.unusedVariables false
set_option linter.unusedSimpArgs false
set_option linter.unusedSectionVars false
namespace Go.Proofs.YteokdkimegepoaaGreatDoor
open Go.RowKit Go.Av Go.Pv
theorem wB : ∀ (args : Array Value) (w : World), (callFunc 25 args).run Tryz.prog w = .ok (.enter 25 args) w := fun _ _ => by kernel_rfl
theorem wA : ∀ (args : Array Value) (w : World), (callFunc 26 args).run Tryz.prog w = .ok (.enter 26 args) w := fun _ _ => by kernel_rfl
theorem wz : ∀ (args : Array Value) (w : World), (callFunc 27 args).run Tryz.prog w = .ok (.enter 27 args) w := fun _ _ => by kernel_rfl
theorem wv : ∀ (args : Array Value) (w : World), (callFunc 36 args).run Tryz.prog w = .ok (.enter 36 args) w := fun _ _ => by kernel_rfl
theorem wo : ∀ (args : Array Value) (w : World), (callFunc 63 args).run Tryz.prog w = .ok (.enter 63 args) w := fun _ _ => by kernel_rfl
set_option maxRecDepth 100000 in
set_option maxHeartbeats 1000000 in
theorem uu (F : Nat) (a1 : List ((List UInt8) × List UInt8)) (q2 : Option Nat) (a3 : List ((List UInt8) × List UInt8)) (q4 : Option Nat) (r5 : Bool) (H : qs F a1 a3 = some r5) : ACalls Tryz.prog 27 [slE (ab Enc.str Enc.str) a1 q2, slE (ab Enc.str Enc.str) a3 q4] [] (Ret (B r5) []) := by
 unfold qs at H
 refine aw Tryz.func27 rfl rfl ?_;show AW _ _ 26 _ _ _;refine af <| aa ?_;show AR _ _ _ _ _ [0] _;refine za rfl <| aj <| af <| af <| aa ?_;show AR _ _ _ _ _ [0, 1, 2, 3, 4] _;refine zS rfl (ah (av := slE _ _ _) rfl) <| zS rfl (bn aV rfl) <| zS rfl (ah (av := slE _ _ _) rfl) <| zS rfl (bn aV rfl) <| zS rfl (iG rfl rfl) <| aj <| ay rfl (fun c6 => ?_) (fun c6 => ?_)
 ·replace H := aZ c6 H;refine af <| aa ?_;show AR _ _ _ _ _ [0] _;refine za rfl <| aj <| aK ?_;obtain rfl := ap H;exact And.intro rfl (Exists.intro _ (Exists.intro _ ⟨aJ rfl (.refl _), aH [] rfl, rfl, rfl⟩))
 ·replace H := ba c6 H;refine aC <| bt (X := Unit) (fun _ => ⟨[], [], []⟩) (fun _ => kz = some r5) ?_ ?_
  ·refine af <| aa ?_;show AR _ _ _ _ _ [0, 1, 2] _;refine zS rfl (ah (av := slE _ _ _) rfl) <| zS rfl (bn aV rfl) <| zm rfl <| aj <| aX <| cA (X := Nat × Int) (fun (n9, y7) => ⟨[(0, slE (ab Enc.str Enc.str) a1 q2), (1, slE (ab Enc.str Enc.str) a3 q4), (12, i64 (a1.length : Int)), (13, i64 y7)], [], []⟩) (fun (n9, y7) => lV a1 a3 n9 y7 = some r5) (fun (n9, y7) => n9) (F, 0) H (aQ [] (.cons (.refl _) (.cons (.refl _) (.cons (.refl _) (.cons (.refl _) (.nil _))))) rfl) ?_;rintro ⟨n9, y7⟩ H;obtain ⟨n9, rfl, H⟩ := dx H;replace H : lW a1 a3 (lV a1 a3 n9) y7 = some r5 := H
   unfold lW at H
   refine af <| aa ?_;show AR _ _ _ _ _ [0] _;refine zS rfl (bQ rfl rfl) <| aj <| af <| ay rfl (fun c10 => ?_) (fun c10 => ?_)
   ·replace H := aZ c10 H;refine aC <| af <| aX <| af <| aa ?_;show AR _ _ _ _ _ [0, 1] _;refine zm rfl <| za rfl <| aj <| af ?_;obtain ⟨g11, H⟩ := aP H;obtain ⟨x12, e13, H⟩ := bM H;obtain ⟨g14, H⟩ := aP H;obtain ⟨x15, e16, H⟩ := bM H;refine bg (by kernel_rfl) ?_;show AI _ _ _ _ _ 9 (Array.replicate 9 false) _;refine zk 0 rfl (ah (av := slE _ _ _) rfl) ?_;show AI _ _ _ _ _ _ #[true, false, false, false, false, false, false, false, false] _;refine zk 1 rfl (mv rfl) ?_;show AI _ _ _ _ _ _ #[true, true, false, false, false, false, false, false, false] _;refine zk 2 rfl (bV (E := (ab Enc.str Enc.str)) aV (by kernel_rfl) rfl rfl g11 e13) ?_;show AI _ _ _ _ _ _ #[true, true, true, false, false, false, false, false, false] _;refine zk 3 rfl (cD bI rfl (n := 2) (by kernel_rfl) rfl (ai rfl)) ?_;show AI _ _ _ _ _ _ #[true, true, true, true, false, false, false, false, false] _;refine zk 4 rfl (ah (av := slE _ _ _) rfl) ?_;show AI _ _ _ _ _ _ #[true, true, true, true, true, false, false, false, false] _;refine zk 5 rfl (mv rfl) ?_;show AI _ _ _ _ _ _ #[true, true, true, true, true, true, false, false, false] _;refine zk 6 rfl (bV (E := (ab Enc.str Enc.str)) aV (by kernel_rfl) rfl rfl g14 e16) ?_;show AI _ _ _ _ _ _ #[true, true, true, true, true, true, true, false, false] _;refine zk 7 rfl (cD bI rfl (n := 2) (by kernel_rfl) rfl (ai rfl)) ?_
    show AI _ _ _ _ _ _ #[true, true, true, true, true, true, true, true, false] _;refine zk 8 rfl (mT (r := (decide (x12.1 = x15.1)) && (decide (x12.2 = x15.2))) (.inr rfl) bI (by kernel_rfl) (by kernel_rfl) (by kernel_rfl) rfl rfl rfl (by simp only [List.all_cons, List.all_nil, id, vj, Bool.and_true])) ?_;show AI _ _ _ _ _ _ #[true, true, true, true, true, true, true, true, true] _;refine bm rfl <| ay rfl (fun c17 => ?_) (fun c17 => ?_)
    ·replace H := aZ c17 H;refine af <| aa ?_;show AR _ _ _ _ _ [0] _;refine za rfl <| aj <| aK ?_;obtain rfl := ap H;exact And.intro rfl (Exists.intro _ (Exists.intro _ ⟨aJ rfl (.refl _), aH [] rfl, rfl, rfl⟩))
    ·replace H := ba c17 H;refine aC ?_;obtain ⟨g18, H⟩ := aP H;refine aa ?_;show AR _ _ _ _ _ [0, 1] _;refine zS rfl (bD rfl rfl g18) <| zm rfl <| aj ?_;exact Exists.intro (n9, y7 + 1) ⟨H, Nat.lt_succ_self _, aQ [] (.cons (.refl _) (.cons (.refl _) (.cons (.refl _) (.cons (.refl _) (.nil _))))) rfl⟩
   ·replace H := ba c10 H;refine bW ?_;exact Exists.intro () ⟨H, aQ [] (.nil _) rfl⟩
  rintro _ H;replace H : kz = some r5 := H
  unfold kz at H
  refine af <| aa ?_;show AR _ _ _ _ _ [0] _;refine za rfl <| aj <| aK ?_;obtain rfl := ap H;exact And.intro rfl (Exists.intro _ (Exists.intro _ ⟨aJ rfl (.refl _), aH [] rfl, rfl, rfl⟩))
set_option maxRecDepth 100000 in
set_option maxHeartbeats 1000000 in
theorem ur (F : Nat) (a1 : Int) (a2 : List UInt8) (a3 : List UInt8) (a4 : List ((List UInt8) × List UInt8)) (a5 : Int) (a6 : List UInt8) (a7 : List UInt8) (a8 : List ((List UInt8) × List UInt8)) (r9 : Bool) (H : qq F a1 a2 a3 a4 a5 a6 a7 a8 = some r9) : ACalls Tryz.prog 26 [.agg [i64 a1, S a2, S a3, slE (ab Enc.str Enc.str) a4 none], .agg [i64 a5, S a6, S a7, slE (ab Enc.str Enc.str) a8 none]] [] (Ret (B r9) []) := by
 unfold qq at H
 refine aw Tryz.func26 rfl rfl ?_;show AW _ _ 31 _ _ _;refine af <| aa ?_;show AR _ _ _ _ _ [0, 1, 2] _;refine zR rfl (oo rfl (.inr ⟨_, rfl⟩)) <| zR rfl (oo rfl (.inr ⟨_, rfl⟩)) <| za rfl <| aj <| af ?_;obtain ⟨x13, e14, H⟩ := gV H;refine aa ?_;show AR _ _ _ _ _ [0, 1, 2, 3, 4, 5, 6, 7, 8, 9, 10, 11, 12, 13, 14, 15, 16, 17, 18, 19, 20, 21, 22, 23, 24, 25, 26] _;refine zS rfl (bo (n := 0) (by kernel_rfl) rfl (ai rfl)) <| zS rfl (bh ar rfl rfl) <| zS rfl (bo (n := 0) (by kernel_rfl) rfl (ai rfl)) <| zS rfl (bh ar rfl rfl) <| zS rfl (bC rfl rfl) <| zm rfl <| bf (l := [12, 13, 14, 15, 16, 17, 18, 19, 20, 21, 22, 23, 24, 25, 26]) 16 (B ((decide (a1 = a5)) && (decide (a2 = a6)))) (fun K => ?_) ?_
 ·rcases am (decide (a1 = a5)) with h10 | h10
  ·refine zU h10 rfl (bo (n := 1) (by kernel_rfl) rfl (ai rfl)) <| zU h10 rfl (bh ac rfl rfl) <| zU h10 rfl (bo (n := 1) (by kernel_rfl) rfl (ai rfl)) <| zU h10 rfl (bh ac rfl rfl) <| zU h10 rfl (cm rfl rfl) <| zS rfl (aB (av := .v _) rfl h10 rfl) ?_;exact K _ 5 _ (au (bN h10)) rfl rfl
  ·refine zF h10 rfl <| zF h10 rfl <| zF h10 rfl <| zF h10 rfl <| zF h10 rfl <| zS rfl (aD (av := .v _) rfl h10 rfl) ?_;exact K _ 5 _ (au (ca h10)) rfl rfl
 refine zm rfl <| bf (l := [19, 20, 21, 22, 23, 24, 25, 26]) 23 (B (((decide (a1 = a5)) && (decide (a2 = a6))) && (decide (a3 = a7)))) (fun K => ?_) ?_
 ·rcases am ((decide (a1 = a5)) && (decide (a2 = a6))) with h11 | h11
  ·refine zU h11 rfl (bo (n := 2) (by kernel_rfl) rfl (ai rfl)) <| zU h11 rfl (bh ac rfl rfl) <| zU h11 rfl (bo (n := 2) (by kernel_rfl) rfl (ai rfl)) <| zU h11 rfl (bh ac rfl rfl) <| zU h11 rfl (cm rfl rfl) <| zS rfl (aB (av := .v _) rfl h11 rfl) ?_;exact K _ 5 _ (au (bN h11)) rfl rfl
  ·refine zF h11 rfl <| zF h11 rfl <| zF h11 rfl <| zF h11 rfl <| zF h11 rfl <| zS rfl (aD (av := .v _) rfl h11 rfl) ?_;exact K _ 5 _ (au (ca h11)) rfl rfl
 refine zm rfl <| bf (l := [26]) 30 (B ((((decide (a1 = a5)) && (decide (a2 = a6))) && (decide (a3 = a7))) && x13)) (fun K => ?_) ?_
 ·rcases am (((decide (a1 = a5)) && (decide (a2 = a6))) && (decide (a3 = a7))) with h12 | h12
  ·refine zU h12 rfl (bo (n := 3) (by kernel_rfl) rfl (ai rfl)) <| zU h12 rfl (bh aV rfl rfl) <| zU h12 rfl (bo (n := 3) (by kernel_rfl) rfl (ai rfl)) <| zU h12 rfl (bh aV rfl rfl) <| zT h12 rfl (aO rfl wz rfl (uu F a4 none a8 none x13 (e14 h12)) ?_);refine zS rfl (aB (av := .v _) rfl h12 rfl) ?_;exact K _ 5 _ (au (bN h12)) rfl rfl
  ·refine zF h12 rfl <| zF h12 rfl <| zF h12 rfl <| zF h12 rfl <| zF h12 rfl <| zS rfl (aD (av := .v _) rfl h12 rfl) ?_;exact K _ 5 _ (au (ca h12)) rfl rfl
 refine za rfl <| aj <| aK ?_;obtain rfl := ap H;exact And.intro rfl (Exists.intro _ (Exists.intro _ ⟨aJ rfl (.refl _), aH [] rfl, rfl, rfl⟩))
set_option maxRecDepth 100000 in
set_option maxHeartbeats 1000000 in
theorem pM (F : Nat) (a1 : List (Int × (List UInt8) × (List UInt8) × List ((List UInt8) × List UInt8))) (q2 : Option Nat) (a3 : List (Int × (List UInt8) × (List UInt8) × List ((List UInt8) × List UInt8))) (q4 : Option Nat) (r5 : Bool) (H : lk F a1 a3 = some r5) : ACalls Tryz.prog 25 [slE (ab Enc.int (ab Enc.str (ab Enc.str (Enc.sl (ab Enc.str Enc.str))))) a1 q2, slE (ab Enc.int (ab Enc.str (ab Enc.str (Enc.sl (ab Enc.str Enc.str))))) a3 q4, .v (.func (.func 26) #[] #[])] [] (Ret (B r5) []) := by
 unfold lk at H
 refine aw Tryz.func25 rfl rfl ?_;show AW _ _ 32 _ _ _;refine af <| aa ?_;show AR _ _ _ _ _ [0] _;refine za rfl <| aj <| af <| af <| aa ?_;show AR _ _ _ _ _ [0, 1, 2, 3, 4] _;refine zS rfl (ah (av := slE _ _ _) rfl) <| zS rfl (bn ax rfl) <| zS rfl (ah (av := slE _ _ _) rfl) <| zS rfl (bn ax rfl) <| zS rfl (iG rfl rfl) <| aj <| ay rfl (fun c6 => ?_) (fun c6 => ?_)
 ·replace H := aZ c6 H;refine af <| aa ?_;show AR _ _ _ _ _ [0] _;refine za rfl <| aj <| aK ?_;obtain rfl := ap H;exact And.intro rfl (Exists.intro _ (Exists.intro _ ⟨aJ rfl (.refl _), aH [] rfl, rfl, rfl⟩))
 ·replace H := ba c6 H;refine aC <| bt (X := Unit) (fun _ => ⟨[], [], []⟩) (fun _ => im = some r5) ?_ ?_
  ·refine af <| aa ?_;show AR _ _ _ _ _ [0, 1, 2] _;refine zS rfl (ah (av := slE _ _ _) rfl) <| zS rfl (bn ax rfl) <| zm rfl <| aj <| aX <| cA (X := Nat × Int) (fun (n9, y7) => ⟨[(1, slE (ab Enc.int (ab Enc.str (ab Enc.str (Enc.sl (ab Enc.str Enc.str))))) a3 q4), (2, .v (.func (.func 26) #[] #[])), (15, slE (ab Enc.int (ab Enc.str (ab Enc.str (Enc.sl (ab Enc.str Enc.str))))) a1 q2), (16, i64 (a1.length : Int)), (17, i64 y7)], [], []⟩) (fun (n9, y7) => jN F a1 a3 n9 y7 = some r5) (fun (n9, y7) => n9) (F, 0) H (aQ [] (.cons (.refl _) (.cons (.refl _) (.cons (.refl _) (.cons (.refl _) (.cons (.refl _) (.nil _)))))) rfl) ?_;rintro ⟨n9, y7⟩ H;obtain ⟨n9, rfl, H⟩ := dx H;replace H : jO F a1 a3 (jN F a1 a3 n9) y7 = some r5 := H
   unfold jO at H
   refine af <| aa ?_;show AR _ _ _ _ _ [0] _;refine zS rfl (bQ rfl rfl) <| aj <| af <| ay rfl (fun c10 => ?_) (fun c10 => ?_)
   ·replace H := aZ c10 H;refine aC <| af <| aX <| af ?_;obtain ⟨g11, H⟩ := aP H;obtain ⟨x12, e13, H⟩ := bM H;refine aa ?_;show AR _ _ _ _ _ [0, 1, 2, 3, 4, 5] _;refine zm rfl <| zS rfl (bV (E := (ab Enc.int (ab Enc.str (ab Enc.str (Enc.sl (ab Enc.str Enc.str)))))) ax (by kernel_rfl) rfl rfl g11 e13) <| zS rfl (cD dp rfl (n := 4) (by kernel_rfl) rfl (ai rfl)) <| zX rfl (dR (zs := [.int .i64 0, .string ⟨#[]⟩, .string ⟨#[]⟩, .slice none 0 0]) (by kernel_rfl)) ?_;rintro _ _ ⟨o14, rfl, rfl⟩;refine za rfl <| s0 rfl rfl (cw (i := 0) (vs := [i64 x12.1, S x12.2.1, S x12.2.2.1, slE (ab Enc.str Enc.str) x12.2.2.2 none]) (by kernel_rfl) rfl rfl (by simp [cr, slE]) rfl (ai rfl)) <| AR.freezeCp 8 0 rfl rfl ?_;show AR _ _ _ _ _ _ ⟨_, _, []⟩;refine aj <| af ?_;obtain ⟨g15, H⟩ := aP H;obtain ⟨x16, e17, H⟩ := bM H;refine aa ?_;show AR _ _ _ _ _ [0, 1, 2, 3, 4, 5] _;refine zS rfl (ah (av := slE _ _ _) rfl) <| zm rfl <| zS rfl (bV (E := (ab Enc.int (ab Enc.str (ab Enc.str (Enc.sl (ab Enc.str Enc.str)))))) ax (by kernel_rfl) rfl rfl g15 e17) <| zS rfl (cD dp rfl (n := 4) (by kernel_rfl) rfl (ai rfl)) <| zX rfl (dR (zs := [.int .i64 0, .string ⟨#[]⟩, .string ⟨#[]⟩, .slice none 0 0]) (by kernel_rfl)) ?_;rintro _ _ ⟨o18, rfl, rfl⟩
    refine s0 rfl rfl (cw (i := 0) (vs := [i64 x16.1, S x16.2.1, S x16.2.2.1, slE (ab Enc.str Enc.str) x16.2.2.2 none]) (by kernel_rfl) rfl rfl (by simp [cr, slE]) rfl (ai rfl)) <| AR.freezeCp 9 0 rfl rfl ?_;show AR _ _ _ _ _ _ ⟨_, _, []⟩;refine aj <| af ?_;obtain ⟨x19, e20, H⟩ := ci H;refine aa ?_;show AR _ _ _ _ _ [0, 1, 2, 3, 4] _;refine zm rfl <| zS rfl (cD dp rfl (n := 4) (by kernel_rfl) rfl (ai rfl)) <| zS rfl (cD dp rfl (n := 4) (by kernel_rfl) rfl (ai rfl)) <| aq rfl rfl (AO.callFp rfl (.inr ⟨rfl, rfl, rfl⟩) wA rfl (ur F x12.1 x12.2.1 x12.2.2.1 x12.2.2.2 x16.1 x16.2.1 x16.2.2.1 x16.2.2.2 x19 e20) ?_);refine zS rfl (bS rfl) <| aj <| ay rfl (fun c21 => ?_) (fun c21 => ?_)
    ·replace H := aZ c21 H;refine af <| aa ?_;show AR _ _ _ _ _ [0] _;refine za rfl <| aj <| aK ?_;obtain rfl := ap H;exact And.intro rfl (Exists.intro _ (Exists.intro _ ⟨aJ rfl (.refl _), aH [] rfl, rfl, rfl⟩))
    ·replace H := ba c21 H;refine aC ?_;obtain ⟨g22, H⟩ := aP H;refine aa ?_;show AR _ _ _ _ _ [0, 1] _;refine zS rfl (bD rfl rfl g22) <| zm rfl <| aj ?_;exact Exists.intro (n9, y7 + 1) ⟨H, Nat.lt_succ_self _, aQ [] (.cons (.refl _) (.cons (.refl _) (.cons (.refl _) (.cons (.refl _) (.cons (.refl _) (.nil _)))))) rfl⟩
   ·replace H := ba c10 H;refine bW ?_;exact Exists.intro () ⟨H, aQ [] (.nil _) rfl⟩
  rintro _ H;replace H : im = some r5 := H
  unfold im at H
  refine af <| aa ?_;show AR _ _ _ _ _ [0] _;refine za rfl <| aj <| aK ?_;obtain rfl := ap H;exact And.intro rfl (Exists.intro _ (Exists.intro _ ⟨aJ rfl (.refl _), aH [] rfl, rfl, rfl⟩))
set_option maxRecDepth 100000 in
set_option maxHeartbeats 1000000 in
theorem vK (F : Nat) (a1 : List (Int × (List UInt8) × (List UInt8) × List ((List UInt8) × List UInt8))) (q2 : Option Nat) (a3 : List (Int × (List UInt8) × (List UInt8) × List ((List UInt8) × List UInt8))) (q4 : Option Nat) (r5 : Bool) (H : sL F a1 a3 = some r5) : ACalls Tryz.prog 13 [slE (ab Enc.int (ab Enc.str (ab Enc.str (Enc.sl (ab Enc.str Enc.str))))) a1 q2, slE (ab Enc.int (ab Enc.str (ab Enc.str (Enc.sl (ab Enc.str Enc.str))))) a3 q4] [] (Ret (B r5) []) := by
 unfold sL at H
 refine aw Tryz.func13 rfl rfl ?_;show AW _ _ 8 _ _ _;refine af <| aa ?_;show AR _ _ _ _ _ [0] _;refine za rfl <| aj <| af ?_;obtain ⟨x6, e7, H⟩ := ci H;refine aa ?_;show AR _ _ _ _ _ [0, 1, 2, 3] _;refine zS rfl (ah (av := slE _ _ _) rfl) <| zS rfl (ah (av := slE _ _ _) rfl) <| aq rfl rfl (aO rfl wB rfl (pM F a1 q2 a3 q4 x6 e7) ?_);refine za rfl <| aj <| aK ?_;obtain rfl := ap H;exact And.intro rfl (Exists.intro _ (Exists.intro _ ⟨aJ rfl (.refl _), aH [] rfl, rfl, rfl⟩))
set_option maxRecDepth 100000 in
set_option maxHeartbeats 1000000 in
theorem sp (F : Nat) (a1 : List UInt8) (a2 : UInt8) (r3 : Int) (H : na F a1 a2 = some r3) : ACalls Tryz.prog 63 [S a1, u8 a2] [] (Ret (i64 r3) []) := by
 unfold na at H
 refine aw Tryz.func63 rfl rfl ?_;show AW _ _ 19 _ _ _;refine af <| aa ?_;show AR _ _ _ _ _ [0] _;refine za rfl <| aj <| bt (X := Unit) (fun _ => ⟨[], [], []⟩) (fun _ => jw = some r3) ?_ ?_
 ·refine af ?_;obtain ⟨g4, H⟩ := aP H;refine aa ?_;show AR _ _ _ _ _ [0, 1, 2, 3] _;refine zm rfl <| zS rfl (aW ac rfl) <| zS rfl (nZ rfl rfl g4) <| za rfl <| aj <| aX <| cA (X := Nat × Int) (fun (n7, y5) => ⟨[(0, S a1), (1, u8 a2), (5, i64 y5)], [], []⟩) (fun (n7, y5) => kF a1 a2 n7 y5 = some r3) (fun (n7, y5) => n7) (F, (a1.length : Int) - 1) H (aQ [] (.cons (.refl _) (.cons (.refl _) (.cons (.refl _) (.nil _)))) rfl) ?_;rintro ⟨n7, y5⟩ H;obtain ⟨n7, rfl, H⟩ := dx H;replace H : kG a1 a2 (kF a1 a2 n7) y5 = some r3 := H
  unfold kG at H
  refine af <| af <| aa ?_;show AR _ _ _ _ _ [0, 1] _;refine zm rfl <| zS rfl (dd rfl rfl) <| aj <| ay rfl (fun c8 => ?_) (fun c8 => ?_)
  ·replace H := aZ c8 H;refine aC <| af <| aX <| af ?_;obtain ⟨g9, H⟩ := aP H;obtain ⟨x10, e11, H⟩ := bM H;refine aa ?_;show AR _ _ _ _ _ [0, 1, 2, 3, 4] _;refine zm rfl <| zm rfl <| zS rfl (bb ac rfl rfl g9 e11) <| zm rfl <| zS rfl (fw (a := x10) (b := a2) rfl rfl) <| aj <| ay rfl (fun c12 => ?_) (fun c12 => ?_)
   ·replace H := aZ c12 H;refine af <| aa ?_;show AR _ _ _ _ _ [0, 1] _;refine zm rfl <| za rfl <| aj <| aK ?_;obtain rfl := ap H;exact And.intro rfl (Exists.intro _ (Exists.intro _ ⟨aJ rfl (.refl _), aH [] rfl, rfl, rfl⟩))
   ·replace H := ba c12 H;refine aC ?_;obtain ⟨g13, H⟩ := aP H;refine aa ?_;show AR _ _ _ _ _ [0, 1, 2] _;refine zm rfl <| zS rfl (nZ rfl rfl g13) <| za rfl <| aj ?_;exact Exists.intro (n7, y5 - 1) ⟨H, Nat.lt_succ_self _, aQ [] (.cons (.refl _) (.cons (.refl _) (.cons (.refl _) (.nil _)))) rfl⟩
  ·replace H := ba c8 H;refine bW ?_;exact Exists.intro () ⟨H, aQ [] (.nil _) rfl⟩
 rintro _ H;replace H : jw = some r3 := H
 unfold jw at H
 refine af <| aa ?_;show AR _ _ _ _ _ [0] _;refine za rfl <| aj <| aK ?_;obtain rfl := ap H;exact And.intro rfl (Exists.intro _ (Exists.intro _ ⟨aJ rfl (.refl _), aH [] rfl, rfl, rfl⟩))
set_option maxRecDepth 100000 in
set_option maxHeartbeats 1000000 in
theorem mV (F : Nat) (a1 : List UInt8) (a2 : UInt8) (r3 : Int) (H : ji F a1 a2 = some r3) : ACalls Tryz.prog 36 [S a1, u8 a2] [] (Ret (i64 r3) []) := by
 unfold ji at H
 refine aw Tryz.func36 rfl rfl ?_;show AW _ _ 8 _ _ _;refine af <| aa ?_;show AR _ _ _ _ _ [0] _;refine za rfl <| aj <| af ?_;obtain ⟨x4, e5, H⟩ := ci H;refine aa ?_;show AR _ _ _ _ _ [0, 1, 2, 3] _;refine zm rfl <| zm rfl <| aq rfl rfl (aO rfl wo rfl (sp F a1 a2 x4 e5) ?_);refine za rfl <| aj <| aK ?_;obtain rfl := ap H;exact And.intro rfl (Exists.intro _ (Exists.intro _ ⟨aJ rfl (.refl _), aH [] rfl, rfl, rfl⟩))
set_option maxRecDepth 100000 in
set_option maxHeartbeats 1000000 in
theorem ut (F : Nat) (a1 : List UInt8) (r2 : List UInt8) (H : qr F a1 = some r2) : ACalls Tryz.prog 19 [S a1] [] (Ret (S r2) []) := by
 unfold qr at H
 refine aw Tryz.func19 rfl rfl ?_;show AW _ _ 8 _ _ _;refine af <| aa ?_;show AR _ _ _ _ _ [0] _;refine za rfl <| aj <| af ?_;obtain ⟨x3, e4, H⟩ := ci H;obtain ⟨g5, H⟩ := aP H;obtain ⟨g6, H⟩ := aP H;obtain ⟨x7, e8, H⟩ := bM H;refine aa ?_;show AR _ _ _ _ _ [0, 1, 2, 3, 4, 5] _;refine zm rfl <| zm rfl <| aq rfl rfl (aO rfl wv rfl (mV F a1 58 x3 e4) ?_);refine zS rfl (bD rfl rfl g5) <| zS rfl (dT ac rfl rfl g6 e8) <| za rfl <| aj <| aK ?_;obtain rfl := ap H;exact And.intro rfl (Exists.intro _ (Exists.intro _ ⟨aJ rfl (.refl _), aH [] rfl, rfl, rfl⟩))
end Go.Proofs.YteokdkimegepoaaGreatDoor
namespace Go.Pv
def jy : Option Bool :=
some true
def fX (y7 : Int) (rec8 : Int → Option Bool) : Option Bool :=
grd (okI (y7 + 1)) <|
rec8 (y7 + 1)
def ia (a1 : List (Int × (List UInt8) × (List UInt8) × List ((List UInt8) × List UInt8))) (a3 : List (Int × (List UInt8) × (List UInt8) × List ((List UInt8) × List UInt8))) (y7 : Int) (rec8 : Int → Option Bool) (rec40 : Int → Option Bool) (y39 : Int) : Option Bool :=
grd (cR y7 a1.length) <|
lt (at_ a1 y7) fun x43 =>
bif decide (y39 < (x43.2.2.2.length : Int)) then
  grd (cR y7 a1.length) <|
  lt (at_ a1 y7) fun x47 =>
  grd (cR y39 x47.2.2.2.length) <|
  lt (at_ x47.2.2.2 y39) fun x50 =>
  grd (cR y7 a3.length) <|
  lt (at_ a3 y7) fun x53 =>
  grd (cR y39 x53.2.2.2.length) <|
  lt (at_ x53.2.2.2 y39) fun x56 =>
  bif !((decide (x50.1 = x56.1)) && (decide (x50.2 = x56.2))) then
    some false
  else
    grd (okI (y39 + 1)) <|
    rec40 (y39 + 1)
else
  fX y7 rec8
def hY (a1 : List (Int × (List UInt8) × (List UInt8) × List ((List UInt8) × List UInt8))) (a3 : List (Int × (List UInt8) × (List UInt8) × List ((List UInt8) × List UInt8))) (y7 : Int) (rec8 : Int → Option Bool) (n : Nat) : Int → Option Bool :=
  loop (fun rec x => ia a1 a3 y7 rec8 rec x) n
def hZ (F : Nat) (a1 : List (Int × (List UInt8) × (List UInt8) × List ((List UInt8) × List UInt8))) (a3 : List (Int × (List UInt8) × (List UInt8) × List ((List UInt8) × List UInt8))) (rec8 : Int → Option Bool) (y7 : Int) : Option Bool :=
bif decide (y7 < (a1.length : Int)) then
  grd (cR y7 a1.length) <|
  lt (at_ a1 y7) fun x12 =>
  grd (cR y7 a3.length) <|
  lt (at_ a3 y7) fun x15 =>
  ff (!(!decide (x12.1 = x15.1))) (cR y7 a1.length) <|
  lt (at_ a1 y7) fun x19 =>
  ff (!(!decide (x12.1 = x15.1))) (cR y7 a3.length) <|
  lt (at_ a3 y7) fun x22 =>
  ff (!((!decide (x12.1 = x15.1)) || (!decide (x19.2.1 = x22.2.1)))) (cR y7 a1.length) <|
  lt (at_ a1 y7) fun x26 =>
  ff (!((!decide (x12.1 = x15.1)) || (!decide (x19.2.1 = x22.2.1)))) (cR y7 a3.length) <|
  lt (at_ a3 y7) fun x29 =>
  ff (!(((!decide (x12.1 = x15.1)) || (!decide (x19.2.1 = x22.2.1))) || (!decide (x26.2.2.1 = x29.2.2.1)))) (cR y7 a1.length) <|
  lt (at_ a1 y7) fun x33 =>
  ff (!(((!decide (x12.1 = x15.1)) || (!decide (x19.2.1 = x22.2.1))) || (!decide (x26.2.2.1 = x29.2.2.1)))) (cR y7 a3.length) <|
  lt (at_ a3 y7) fun x36 =>
  bif (((!decide (x12.1 = x15.1)) || (!decide (x19.2.1 = x22.2.1))) || (!decide (x26.2.2.1 = x29.2.2.1))) || (!decide ((x33.2.2.2.length : Int) = (x36.2.2.2.length : Int))) then
    some false
  else
    hY a1 a3 y7 rec8 F 0
else
  jy
def cV (F : Nat) (a1 : List (Int × (List UInt8) × (List UInt8) × List ((List UInt8) × List UInt8))) (a3 : List (Int × (List UInt8) × (List UInt8) × List ((List UInt8) × List UInt8))) (n : Nat) : Int → Option Bool :=
  loop (fun rec x => hZ F a1 a3 rec x) n
def jm (F : Nat) (a1 : List (Int × (List UInt8) × (List UInt8) × List ((List UInt8) × List UInt8))) (a3 : List (Int × (List UInt8) × (List UInt8) × List ((List UInt8) × List UInt8))) : Option Bool :=
bif !decide ((a1.length : Int) = (a3.length : Int)) then
  some false
else
  cV F a1 a3 F 0
def jH (F : Nat) : Option Bool :=
gW (kc F ([60, 97, 32, 98, 61, 34, 49, 34, 62, 120, 38, 97, 109, 112, 59, 60] ++ [99, 47, 62, 60, 47, 97, 62] : List UInt8)) fun x3 x4 =>
bnd (jm F x3 ([(0, ([97] : List UInt8), ([] : List UInt8), ([(([98] : List UInt8), ([49] : List UInt8))] : List ((List UInt8) × List UInt8))), (2, ([] : List UInt8), ([120, 38] : List UInt8), ([] : List ((List UInt8) × List UInt8))), (0, ([99] : List UInt8), ([] : List UInt8), ([] : List ((List UInt8) × List UInt8))), (1, ([99] : List UInt8), ([] : List UInt8), ([] : List ((List UInt8) × List UInt8))), (1, ([97] : List UInt8), ([] : List UInt8), ([] : List ((List UInt8) × List UInt8)))] : List (Int × (List UInt8) × (List UInt8) × List ((List UInt8) × List UInt8)))) fun x6 =>
lj ((decide (x4 = 0)) && x6) (mz F ([97, 58, 98] : List UInt8)) fun x10 =>
lj (((decide (x4 = 0)) && x6) && x10) (qr F ([97, 58, 98] : List UInt8)) fun x13 =>
lj ((((decide (x4 = 0)) && x6) && x10) && (decide (x13 = ([98] : List UInt8)))) (sL F x3 ([(0, ([97] : List UInt8), ([] : List UInt8), ([(([98] : List UInt8), ([49] : List UInt8))] : List ((List UInt8) × List UInt8))), (2, ([] : List UInt8), ([120, 38] : List UInt8), ([] : List ((List UInt8) × List UInt8))), (0, ([99] : List UInt8), ([] : List UInt8), ([] : List ((List UInt8) × List UInt8))), (1, ([99] : List UInt8), ([] : List UInt8), ([] : List ((List UInt8) × List UInt8))), (1, ([97] : List UInt8), ([] : List UInt8), ([] : List ((List UInt8) × List UInt8)))] : List (Int × (List UInt8) × (List UInt8) × List ((List UInt8) × List UInt8)))) fun x16 =>
some (((((decide (x4 = 0)) && x6) && x10) && (decide (x13 = ([98] : List UInt8)))) && x16)
end Go.Pv
namespace Go.Proofs.YteokdkimegepoaaGreatDoor
open Go.RowKit Go.Av Go.Pv
theorem wP : ∀ (args : Array Value) (w : World), (callFunc 10 args).run Tryz.prog w = .ok (.enter 10 args) w := fun _ _ => by kernel_rfl
theorem wN : ∀ (args : Array Value) (w : World), (callFunc 12 args).run Tryz.prog w = .ok (.enter 12 args) w := fun _ _ => by kernel_rfl
theorem wL : ∀ (args : Array Value) (w : World), (callFunc 13 args).run Tryz.prog w = .ok (.enter 13 args) w := fun _ _ => by kernel_rfl
theorem wE : ∀ (args : Array Value) (w : World), (callFunc 18 args).run Tryz.prog w = .ok (.enter 18 args) w := fun _ _ => by kernel_rfl
theorem wD : ∀ (args : Array Value) (w : World), (callFunc 19 args).run Tryz.prog w = .ok (.enter 19 args) w := fun _ _ => by kernel_rfl
set_option maxRecDepth 100000 in
set_option maxHeartbeats 1000000 in
theorem nr (F : Nat) (a1 : List (Int × (List UInt8) × (List UInt8) × List ((List UInt8) × List UInt8))) (q2 : Option Nat) (a3 : List (Int × (List UInt8) × (List UInt8) × List ((List UInt8) × List UInt8))) (q4 : Option Nat) (r5 : Bool) (H : jm F a1 a3 = some r5) : ACalls Tryz.prog 12 [slE (ab Enc.int (ab Enc.str (ab Enc.str (Enc.sl (ab Enc.str Enc.str))))) a1 q2, slE (ab Enc.int (ab Enc.str (ab Enc.str (Enc.sl (ab Enc.str Enc.str))))) a3 q4] [] (Ret (B r5) []) := by
 unfold jm at H
 refine aw Tryz.func12 rfl rfl ?_;show AW _ _ 97 _ _ _;refine af <| aa ?_;show AR _ _ _ _ _ [0] _;refine za rfl <| aj <| af <| af <| aa ?_;show AR _ _ _ _ _ [0, 1, 2, 3, 4] _;refine zS rfl (ah (av := slE _ _ _) rfl) <| zS rfl (bn ax rfl) <| zS rfl (ah (av := slE _ _ _) rfl) <| zS rfl (bn ax rfl) <| zS rfl (iG rfl rfl) <| aj <| ay rfl (fun c6 => ?_) (fun c6 => ?_)
 ·replace H := aZ c6 H;refine af <| aa ?_;show AR _ _ _ _ _ [0] _;refine za rfl <| aj <| aK ?_;obtain rfl := ap H;exact And.intro rfl (Exists.intro _ (Exists.intro _ ⟨aJ rfl (.refl _), aH [] rfl, rfl, rfl⟩))
 ·replace H := ba c6 H;refine aC <| bt (X := Unit) (fun _ => ⟨[], [], []⟩) (fun _ => jy = some r5) ?_ ?_
  ·refine af <| aa ?_;show AR _ _ _ _ _ [0] _;refine za rfl <| aj <| aX <| cA (X := Nat × Int) (fun (n9, y7) => ⟨[(0, slE (ab Enc.int (ab Enc.str (ab Enc.str (Enc.sl (ab Enc.str Enc.str))))) a1 q2), (1, slE (ab Enc.int (ab Enc.str (ab Enc.str (Enc.sl (ab Enc.str Enc.str))))) a3 q4), (5, i64 y7)], [], []⟩) (fun (n9, y7) => cV F a1 a3 n9 y7 = some r5) (fun (n9, y7) => n9) (F, 0) H (aQ [] (.cons (.refl _) (.cons (.refl _) (.cons (.refl _) (.nil _)))) rfl) ?_;rintro ⟨n9, y7⟩ H;obtain ⟨n9, rfl, H⟩ := dx H;replace H : hZ F a1 a3 (cV F a1 a3 n9) y7 = some r5 := H
   unfold hZ at H
   refine af <| af <| aa ?_;show AR _ _ _ _ _ [0, 1, 2, 3] _;refine zm rfl <| zS rfl (ah (av := slE _ _ _) rfl) <| zS rfl (bn ax rfl) <| zS rfl (bQ rfl rfl) <| aj <| ay rfl (fun c10 => ?_) (fun c10 => ?_)
   ·replace H := aZ c10 H;refine aC <| bt (X := Unit) (fun _ => ⟨[(0, slE (ab Enc.int (ab Enc.str (ab Enc.str (Enc.sl (ab Enc.str Enc.str))))) a1 q2), (1, slE (ab Enc.int (ab Enc.str (ab Enc.str (Enc.sl (ab Enc.str Enc.str))))) a3 q4), (5, i64 y7)], [], []⟩) (fun _ => fX y7 (cV F a1 a3 n9) = some r5) ?_ ?_
    ·refine aX <| af <| af ?_;obtain ⟨g11, H⟩ := aP H;obtain ⟨x12, e13, H⟩ := bM H;obtain ⟨g14, H⟩ := aP H;obtain ⟨x15, e16, H⟩ := bM H;obtain ⟨g18, H⟩ := cG H;obtain ⟨x19, e20, H⟩ := bM H;obtain ⟨g21, H⟩ := cG H;obtain ⟨x22, e23, H⟩ := bM H;obtain ⟨g25, H⟩ := cG H;obtain ⟨x26, e27, H⟩ := bM H;obtain ⟨g28, H⟩ := cG H;obtain ⟨x29, e30, H⟩ := bM H;obtain ⟨g32, H⟩ := cG H;obtain ⟨x33, e34, H⟩ := bM H;obtain ⟨g35, H⟩ := cG H;obtain ⟨x36, e37, H⟩ := bM H;refine bg (by kernel_rfl) ?_;show AI _ _ _ _ _ 52 (Array.replicate 52 false) _;refine zk 0 rfl (ah (av := slE _ _ _) rfl) ?_;show AI _ _ _ _ _ _ #[true, false, false, false, false, false, false, false, false, false, false, false, false, false, false, false, false, false, false, false, false, false, false, false, false, false, false, false, false, false, false, false, false, false, false, false, false, false, false, false, false, false, false, false, false, false, false, false, false, false, false, false] _;refine zk 1 rfl (mv rfl) ?_;show AI _ _ _ _ _ _ #[true, true, false, false, false, false, false, false, false, false, false, false, false, false, false, false, false, false, false, false, false, false, false, false, false, false, false, false, false, false, false, false, false, false, false, false, false, false, false, false, false, false, false, false, false, false, false, false, false, false, false, false] _
     refine zk 2 rfl (bV (E := (ab Enc.int (ab Enc.str (ab Enc.str (Enc.sl (ab Enc.str Enc.str)))))) ax (by kernel_rfl) rfl rfl g11 e13) ?_;show AI _ _ _ _ _ _ #[true, true, true, false, false, false, false, false, false, false, false, false, false, false, false, false, false, false, false, false, false, false, false, false, false, false, false, false, false, false, false, false, false, false, false, false, false, false, false, false, false, false, false, false, false, false, false, false, false, false, false, false] _;refine zk 3 rfl (bo (n := 0) (by kernel_rfl) rfl (ai rfl)) ?_;show AI _ _ _ _ _ _ #[true, true, true, true, false, false, false, false, false, false, false, false, false, false, false, false, false, false, false, false, false, false, false, false, false, false, false, false, false, false, false, false, false, false, false, false, false, false, false, false, false, false, false, false, false, false, false, false, false, false, false, false] _;refine zk 4 rfl (bh ar rfl rfl) ?_;show AI _ _ _ _ _ _ #[true, true, true, true, true, false, false, false, false, false, false, false, false, false, false, false, false, false, false, false, false, false, false, false, false, false, false, false, false, false, false, false, false, false, false, false, false, false, false, false, false, false, false, false, false, false, false, false, false, false, false, false] _;refine zk 5 rfl (ah (av := slE _ _ _) rfl) ?_
     show AI _ _ _ _ _ _ #[true, true, true, true, true, true, false, false, false, false, false, false, false, false, false, false, false, false, false, false, false, false, false, false, false, false, false, false, false, false, false, false, false, false, false, false, false, false, false, false, false, false, false, false, false, false, false, false, false, false, false, false] _;refine zk 6 rfl (mv rfl) ?_;show AI _ _ _ _ _ _ #[true, true, true, true, true, true, true, false, false, false, false, false, false, false, false, false, false, false, false, false, false, false, false, false, false, false, false, false, false, false, false, false, false, false, false, false, false, false, false, false, false, false, false, false, false, false, false, false, false, false, false, false] _;refine zk 7 rfl (bV (E := (ab Enc.int (ab Enc.str (ab Enc.str (Enc.sl (ab Enc.str Enc.str)))))) ax (by kernel_rfl) rfl rfl g14 e16) ?_;show AI _ _ _ _ _ _ #[true, true, true, true, true, true, true, true, false, false, false, false, false, false, false, false, false, false, false, false, false, false, false, false, false, false, false, false, false, false, false, false, false, false, false, false, false, false, false, false, false, false, false, false, false, false, false, false, false, false, false, false] _;refine zk 8 rfl (bo (n := 0) (by kernel_rfl) rfl (ai rfl)) ?_
     show AI _ _ _ _ _ _ #[true, true, true, true, true, true, true, true, true, false, false, false, false, false, false, false, false, false, false, false, false, false, false, false, false, false, false, false, false, false, false, false, false, false, false, false, false, false, false, false, false, false, false, false, false, false, false, false, false, false, false, false] _;refine zk 9 rfl (bh ar rfl rfl) ?_;show AI _ _ _ _ _ _ #[true, true, true, true, true, true, true, true, true, true, false, false, false, false, false, false, false, false, false, false, false, false, false, false, false, false, false, false, false, false, false, false, false, false, false, false, false, false, false, false, false, false, false, false, false, false, false, false, false, false, false, false] _;refine zk 10 rfl (iG rfl rfl) ?_;show AI _ _ _ _ _ _ #[true, true, true, true, true, true, true, true, true, true, true, false, false, false, false, false, false, false, false, false, false, false, false, false, false, false, false, false, false, false, false, false, false, false, false, false, false, false, false, false, false, false, false, false, false, false, false, false, false, false, false, false] _;refine zk 11 rfl (mv rfl) ?_
     show AI _ _ _ _ _ _ #[true, true, true, true, true, true, true, true, true, true, true, true, false, false, false, false, false, false, false, false, false, false, false, false, false, false, false, false, false, false, false, false, false, false, false, false, false, false, false, false, false, false, false, false, false, false, false, false, false, false, false, false] _;refine AI.meet 28 #[true, true, true, true, true, true, true, true, true, true, true, true, true, true, true, true, true, true, true, true, true, true, true, true, false, false, false, false, false, false, false, false, false, false, false, false, false, false, false, false, false, false, false, false, false, false, false, false, false, false, false, false] 41 (B ((!decide (x12.1 = x15.1)) || (!decide (x19.2.1 = x22.2.1)))) (fun K23 => ?_) ?_
     ·refine gi (t := 29) rfl (fun h17 => ?_) (fun h17 => ?_)
      ·refine aI (i := 12) rfl rfl (by kernel_rfl) (by kernel_rfl) (by kernel_rfl) rfl rfl rfl (fun _ _ h => h) h17 ?_;show AI _ _ _ _ _ _ #[true, true, true, true, true, true, true, true, true, true, true, true, true, false, false, false, false, false, false, false, false, false, false, false, false, false, false, false, false, false, false, false, false, false, false, false, false, false, false, false, false, false, false, false, false, false, false, false, false, false, false, false] _;refine aI (i := 13) rfl rfl (by kernel_rfl) (by kernel_rfl) (by kernel_rfl) rfl rfl rfl (fun _ _ h => h) h17 ?_;show AI _ _ _ _ _ _ #[true, true, true, true, true, true, true, true, true, true, true, true, true, true, false, false, false, false, false, false, false, false, false, false, false, false, false, false, false, false, false, false, false, false, false, false, false, false, false, false, false, false, false, false, false, false, false, false, false, false, false, false] _;refine aI (i := 14) rfl rfl (by kernel_rfl) (by kernel_rfl) (by kernel_rfl) rfl rfl rfl (fun _ _ h => h) h17 ?_;show AI _ _ _ _ _ _ #[true, true, true, true, true, true, true, true, true, true, true, true, true, true, true, false, false, false, false, false, false, false, false, false, false, false, false, false, false, false, false, false, false, false, false, false, false, false, false, false, false, false, false, false, false, false, false, false, false, false, false, false] _;refine aI (i := 15) rfl rfl (by kernel_rfl) (by kernel_rfl) (by kernel_rfl) rfl rfl rfl (fun _ _ h => h) h17 ?_
       show AI _ _ _ _ _ _ #[true, true, true, true, true, true, true, true, true, true, true, true, true, true, true, true, false, false, false, false, false, false, false, false, false, false, false, false, false, false, false, false, false, false, false, false, false, false, false, false, false, false, false, false, false, false, false, false, false, false, false, false] _;refine aI (i := 16) rfl rfl (by kernel_rfl) (by kernel_rfl) (by kernel_rfl) rfl rfl rfl (fun _ _ h => h) h17 ?_;show AI _ _ _ _ _ _ #[true, true, true, true, true, true, true, true, true, true, true, true, true, true, true, true, true, false, false, false, false, false, false, false, false, false, false, false, false, false, false, false, false, false, false, false, false, false, false, false, false, false, false, false, false, false, false, false, false, false, false, false] _;refine aI (i := 17) rfl rfl (by kernel_rfl) (by kernel_rfl) (by kernel_rfl) rfl rfl rfl (fun _ _ h => h) h17 ?_;show AI _ _ _ _ _ _ #[true, true, true, true, true, true, true, true, true, true, true, true, true, true, true, true, true, true, false, false, false, false, false, false, false, false, false, false, false, false, false, false, false, false, false, false, false, false, false, false, false, false, false, false, false, false, false, false, false, false, false, false] _;refine aI (i := 18) rfl rfl (by kernel_rfl) (by kernel_rfl) (by kernel_rfl) rfl rfl rfl (fun _ _ h => h) h17 ?_
       show AI _ _ _ _ _ _ #[true, true, true, true, true, true, true, true, true, true, true, true, true, true, true, true, true, true, true, false, false, false, false, false, false, false, false, false, false, false, false, false, false, false, false, false, false, false, false, false, false, false, false, false, false, false, false, false, false, false, false, false] _;refine aI (i := 19) rfl rfl (by kernel_rfl) (by kernel_rfl) (by kernel_rfl) rfl rfl rfl (fun _ _ h => h) h17 ?_;show AI _ _ _ _ _ _ #[true, true, true, true, true, true, true, true, true, true, true, true, true, true, true, true, true, true, true, true, false, false, false, false, false, false, false, false, false, false, false, false, false, false, false, false, false, false, false, false, false, false, false, false, false, false, false, false, false, false, false, false] _;refine aI (i := 20) rfl rfl (by kernel_rfl) (by kernel_rfl) (by kernel_rfl) rfl rfl rfl (fun _ _ h => h) h17 ?_;show AI _ _ _ _ _ _ #[true, true, true, true, true, true, true, true, true, true, true, true, true, true, true, true, true, true, true, true, true, false, false, false, false, false, false, false, false, false, false, false, false, false, false, false, false, false, false, false, false, false, false, false, false, false, false, false, false, false, false, false] _;refine aI (i := 21) rfl rfl (by kernel_rfl) (by kernel_rfl) (by kernel_rfl) rfl rfl rfl (fun _ _ h => h) h17 ?_
       show AI _ _ _ _ _ _ #[true, true, true, true, true, true, true, true, true, true, true, true, true, true, true, true, true, true, true, true, true, true, false, false, false, false, false, false, false, false, false, false, false, false, false, false, false, false, false, false, false, false, false, false, false, false, false, false, false, false, false, false] _;refine aI (i := 22) rfl rfl (by kernel_rfl) (by kernel_rfl) (by kernel_rfl) rfl rfl rfl (fun _ _ h => h) h17 ?_;show AI _ _ _ _ _ _ #[true, true, true, true, true, true, true, true, true, true, true, true, true, true, true, true, true, true, true, true, true, true, true, false, false, false, false, false, false, false, false, false, false, false, false, false, false, false, false, false, false, false, false, false, false, false, false, false, false, false, false, false] _;refine zk 23 rfl (bU (av' := B ((!decide (x12.1 = x15.1)) || (!decide (x19.2.1 = x22.2.1)))) (aB (av := .v _) rfl h17 rfl) (au (iU h17))) ?_;show AI _ _ _ _ _ _ #[true, true, true, true, true, true, true, true, true, true, true, true, true, true, true, true, true, true, true, true, true, true, true, true, false, false, false, false, false, false, false, false, false, false, false, false, false, false, false, false, false, false, false, false, false, false, false, false, false, false, false, false] _;exact K23 _ 11 rfl rfl
      ·refine aF (i := 12) rfl rfl (by kernel_rfl) (by kernel_rfl) (by kernel_rfl) rfl rfl rfl (fun _ _ h => h) h17 (ah (av := slE _ _ _) rfl) ?_;show AI _ _ _ _ _ _ #[true, true, true, true, true, true, true, true, true, true, true, true, true, false, false, false, false, false, false, false, false, false, false, false, false, false, false, false, false, false, false, false, false, false, false, false, false, false, false, false, false, false, false, false, false, false, false, false, false, false, false, false] _;refine aF (i := 13) rfl rfl (by kernel_rfl) (by kernel_rfl) (by kernel_rfl) rfl rfl rfl (fun _ _ h => h) h17 (mv rfl) ?_;show AI _ _ _ _ _ _ #[true, true, true, true, true, true, true, true, true, true, true, true, true, true, false, false, false, false, false, false, false, false, false, false, false, false, false, false, false, false, false, false, false, false, false, false, false, false, false, false, false, false, false, false, false, false, false, false, false, false, false, false] _;refine aF (i := 14) rfl rfl (by kernel_rfl) (by kernel_rfl) (by kernel_rfl) rfl rfl rfl (fun _ _ h => h) h17 (bV (E := (ab Enc.int (ab Enc.str (ab Enc.str (Enc.sl (ab Enc.str Enc.str)))))) ax (by kernel_rfl) rfl rfl (g18 (nf h17)) e20) ?_
       show AI _ _ _ _ _ _ #[true, true, true, true, true, true, true, true, true, true, true, true, true, true, true, false, false, false, false, false, false, false, false, false, false, false, false, false, false, false, false, false, false, false, false, false, false, false, false, false, false, false, false, false, false, false, false, false, false, false, false, false] _;refine aF (i := 15) rfl rfl (by kernel_rfl) (by kernel_rfl) (by kernel_rfl) rfl rfl rfl (fun _ _ h => h) h17 (bo (n := 1) (by kernel_rfl) rfl (ai rfl)) ?_;show AI _ _ _ _ _ _ #[true, true, true, true, true, true, true, true, true, true, true, true, true, true, true, true, false, false, false, false, false, false, false, false, false, false, false, false, false, false, false, false, false, false, false, false, false, false, false, false, false, false, false, false, false, false, false, false, false, false, false, false] _;refine aF (i := 16) rfl rfl (by kernel_rfl) (by kernel_rfl) (by kernel_rfl) rfl rfl rfl (fun _ _ h => h) h17 (bh ac rfl rfl) ?_;show AI _ _ _ _ _ _ #[true, true, true, true, true, true, true, true, true, true, true, true, true, true, true, true, true, false, false, false, false, false, false, false, false, false, false, false, false, false, false, false, false, false, false, false, false, false, false, false, false, false, false, false, false, false, false, false, false, false, false, false] _
       refine aF (i := 17) rfl rfl (by kernel_rfl) (by kernel_rfl) (by kernel_rfl) rfl rfl rfl (fun _ _ h => h) h17 (ah (av := slE _ _ _) rfl) ?_;show AI _ _ _ _ _ _ #[true, true, true, true, true, true, true, true, true, true, true, true, true, true, true, true, true, true, false, false, false, false, false, false, false, false, false, false, false, false, false, false, false, false, false, false, false, false, false, false, false, false, false, false, false, false, false, false, false, false, false, false] _;refine aF (i := 18) rfl rfl (by kernel_rfl) (by kernel_rfl) (by kernel_rfl) rfl rfl rfl (fun _ _ h => h) h17 (mv rfl) ?_;show AI _ _ _ _ _ _ #[true, true, true, true, true, true, true, true, true, true, true, true, true, true, true, true, true, true, true, false, false, false, false, false, false, false, false, false, false, false, false, false, false, false, false, false, false, false, false, false, false, false, false, false, false, false, false, false, false, false, false, false] _;refine aF (i := 19) rfl rfl (by kernel_rfl) (by kernel_rfl) (by kernel_rfl) rfl rfl rfl (fun _ _ h => h) h17 (bV (E := (ab Enc.int (ab Enc.str (ab Enc.str (Enc.sl (ab Enc.str Enc.str)))))) ax (by kernel_rfl) rfl rfl (g21 (nf h17)) e23) ?_
       show AI _ _ _ _ _ _ #[true, true, true, true, true, true, true, true, true, true, true, true, true, true, true, true, true, true, true, true, false, false, false, false, false, false, false, false, false, false, false, false, false, false, false, false, false, false, false, false, false, false, false, false, false, false, false, false, false, false, false, false] _;refine aF (i := 20) rfl rfl (by kernel_rfl) (by kernel_rfl) (by kernel_rfl) rfl rfl rfl (fun _ _ h => h) h17 (bo (n := 1) (by kernel_rfl) rfl (ai rfl)) ?_;show AI _ _ _ _ _ _ #[true, true, true, true, true, true, true, true, true, true, true, true, true, true, true, true, true, true, true, true, true, false, false, false, false, false, false, false, false, false, false, false, false, false, false, false, false, false, false, false, false, false, false, false, false, false, false, false, false, false, false, false] _;refine aF (i := 21) rfl rfl (by kernel_rfl) (by kernel_rfl) (by kernel_rfl) rfl rfl rfl (fun _ _ h => h) h17 (bh ac rfl rfl) ?_;show AI _ _ _ _ _ _ #[true, true, true, true, true, true, true, true, true, true, true, true, true, true, true, true, true, true, true, true, true, true, false, false, false, false, false, false, false, false, false, false, false, false, false, false, false, false, false, false, false, false, false, false, false, false, false, false, false, false, false, false] _;refine aF (i := 22) rfl rfl (by kernel_rfl) (by kernel_rfl) (by kernel_rfl) rfl rfl rfl (fun _ _ h => h) h17 (mB rfl rfl) ?_
       show AI _ _ _ _ _ _ #[true, true, true, true, true, true, true, true, true, true, true, true, true, true, true, true, true, true, true, true, true, true, true, false, false, false, false, false, false, false, false, false, false, false, false, false, false, false, false, false, false, false, false, false, false, false, false, false, false, false, false, false] _;refine zk 23 rfl (bU (av' := B ((!decide (x12.1 = x15.1)) || (!decide (x19.2.1 = x22.2.1)))) (aD (av := .v _) rfl h17 rfl) (au (iD h17))) ?_;show AI _ _ _ _ _ _ #[true, true, true, true, true, true, true, true, true, true, true, true, true, true, true, true, true, true, true, true, true, true, true, true, false, false, false, false, false, false, false, false, false, false, false, false, false, false, false, false, false, false, false, false, false, false, false, false, false, false, false, false] _;exact K23 _ 11 rfl rfl
     refine zk 24 rfl (mv rfl) ?_;show AI _ _ _ _ _ _ #[true, true, true, true, true, true, true, true, true, true, true, true, true, true, true, true, true, true, true, true, true, true, true, true, true, false, false, false, false, false, false, false, false, false, false, false, false, false, false, false, false, false, false, false, false, false, false, false, false, false, false, false] _;refine AI.meet 15 #[true, true, true, true, true, true, true, true, true, true, true, true, true, true, true, true, true, true, true, true, true, true, true, true, true, true, true, true, true, true, true, true, true, true, true, true, true, false, false, false, false, false, false, false, false, false, false, false, false, false, false, false] 54 (B (((!decide (x12.1 = x15.1)) || (!decide (x19.2.1 = x22.2.1))) || (!decide (x26.2.2.1 = x29.2.2.1)))) (fun K36 => ?_) ?_
     ·refine gi (t := 42) rfl (fun h24 => ?_) (fun h24 => ?_)
      ·refine aI (i := 25) rfl rfl (by kernel_rfl) (by kernel_rfl) (by kernel_rfl) rfl rfl rfl (fun _ _ h => h) h24 ?_;show AI _ _ _ _ _ _ #[true, true, true, true, true, true, true, true, true, true, true, true, true, true, true, true, true, true, true, true, true, true, true, true, true, true, false, false, false, false, false, false, false, false, false, false, false, false, false, false, false, false, false, false, false, false, false, false, false, false, false, false] _;refine aI (i := 26) rfl rfl (by kernel_rfl) (by kernel_rfl) (by kernel_rfl) rfl rfl rfl (fun _ _ h => h) h24 ?_;show AI _ _ _ _ _ _ #[true, true, true, true, true, true, true, true, true, true, true, true, true, true, true, true, true, true, true, true, true, true, true, true, true, true, true, false, false, false, false, false, false, false, false, false, false, false, false, false, false, false, false, false, false, false, false, false, false, false, false, false] _;refine aI (i := 27) rfl rfl (by kernel_rfl) (by kernel_rfl) (by kernel_rfl) rfl rfl rfl (fun _ _ h => h) h24 ?_;show AI _ _ _ _ _ _ #[true, true, true, true, true, true, true, true, true, true, true, true, true, true, true, true, true, true, true, true, true, true, true, true, true, true, true, true, false, false, false, false, false, false, false, false, false, false, false, false, false, false, false, false, false, false, false, false, false, false, false, false] _;refine aI (i := 28) rfl rfl (by kernel_rfl) (by kernel_rfl) (by kernel_rfl) rfl rfl rfl (fun _ _ h => h) h24 ?_
       show AI _ _ _ _ _ _ #[true, true, true, true, true, true, true, true, true, true, true, true, true, true, true, true, true, true, true, true, true, true, true, true, true, true, true, true, true, false, false, false, false, false, false, false, false, false, false, false, false, false, false, false, false, false, false, false, false, false, false, false] _;refine aI (i := 29) rfl rfl (by kernel_rfl) (by kernel_rfl) (by kernel_rfl) rfl rfl rfl (fun _ _ h => h) h24 ?_;show AI _ _ _ _ _ _ #[true, true, true, true, true, true, true, true, true, true, true, true, true, true, true, true, true, true, true, true, true, true, true, true, true, true, true, true, true, true, false, false, false, false, false, false, false, false, false, false, false, false, false, false, false, false, false, false, false, false, false, false] _;refine aI (i := 30) rfl rfl (by kernel_rfl) (by kernel_rfl) (by kernel_rfl) rfl rfl rfl (fun _ _ h => h) h24 ?_;show AI _ _ _ _ _ _ #[true, true, true, true, true, true, true, true, true, true, true, true, true, true, true, true, true, true, true, true, true, true, true, true, true, true, true, true, true, true, true, false, false, false, false, false, false, false, false, false, false, false, false, false, false, false, false, false, false, false, false, false] _;refine aI (i := 31) rfl rfl (by kernel_rfl) (by kernel_rfl) (by kernel_rfl) rfl rfl rfl (fun _ _ h => h) h24 ?_
       show AI _ _ _ _ _ _ #[true, true, true, true, true, true, true, true, true, true, true, true, true, true, true, true, true, true, true, true, true, true, true, true, true, true, true, true, true, true, true, true, false, false, false, false, false, false, false, false, false, false, false, false, false, false, false, false, false, false, false, false] _;refine aI (i := 32) rfl rfl (by kernel_rfl) (by kernel_rfl) (by kernel_rfl) rfl rfl rfl (fun _ _ h => h) h24 ?_;show AI _ _ _ _ _ _ #[true, true, true, true, true, true, true, true, true, true, true, true, true, true, true, true, true, true, true, true, true, true, true, true, true, true, true, true, true, true, true, true, true, false, false, false, false, false, false, false, false, false, false, false, false, false, false, false, false, false, false, false] _;refine aI (i := 33) rfl rfl (by kernel_rfl) (by kernel_rfl) (by kernel_rfl) rfl rfl rfl (fun _ _ h => h) h24 ?_;show AI _ _ _ _ _ _ #[true, true, true, true, true, true, true, true, true, true, true, true, true, true, true, true, true, true, true, true, true, true, true, true, true, true, true, true, true, true, true, true, true, true, false, false, false, false, false, false, false, false, false, false, false, false, false, false, false, false, false, false] _;refine aI (i := 34) rfl rfl (by kernel_rfl) (by kernel_rfl) (by kernel_rfl) rfl rfl rfl (fun _ _ h => h) h24 ?_
       show AI _ _ _ _ _ _ #[true, true, true, true, true, true, true, true, true, true, true, true, true, true, true, true, true, true, true, true, true, true, true, true, true, true, true, true, true, true, true, true, true, true, true, false, false, false, false, false, false, false, false, false, false, false, false, false, false, false, false, false] _;refine aI (i := 35) rfl rfl (by kernel_rfl) (by kernel_rfl) (by kernel_rfl) rfl rfl rfl (fun _ _ h => h) h24 ?_;show AI _ _ _ _ _ _ #[true, true, true, true, true, true, true, true, true, true, true, true, true, true, true, true, true, true, true, true, true, true, true, true, true, true, true, true, true, true, true, true, true, true, true, true, false, false, false, false, false, false, false, false, false, false, false, false, false, false, false, false] _;refine zk 36 rfl (bU (av' := B (((!decide (x12.1 = x15.1)) || (!decide (x19.2.1 = x22.2.1))) || (!decide (x26.2.2.1 = x29.2.2.1)))) (aB (av := .v _) rfl h24 rfl) (au (iU h24))) ?_;show AI _ _ _ _ _ _ #[true, true, true, true, true, true, true, true, true, true, true, true, true, true, true, true, true, true, true, true, true, true, true, true, true, true, true, true, true, true, true, true, true, true, true, true, true, false, false, false, false, false, false, false, false, false, false, false, false, false, false, false] _;exact K36 _ 11 rfl rfl
      ·refine aF (i := 25) rfl rfl (by kernel_rfl) (by kernel_rfl) (by kernel_rfl) rfl rfl rfl (fun _ _ h => h) h24 (ah (av := slE _ _ _) rfl) ?_;show AI _ _ _ _ _ _ #[true, true, true, true, true, true, true, true, true, true, true, true, true, true, true, true, true, true, true, true, true, true, true, true, true, true, false, false, false, false, false, false, false, false, false, false, false, false, false, false, false, false, false, false, false, false, false, false, false, false, false, false] _;refine aF (i := 26) rfl rfl (by kernel_rfl) (by kernel_rfl) (by kernel_rfl) rfl rfl rfl (fun _ _ h => h) h24 (mv rfl) ?_;show AI _ _ _ _ _ _ #[true, true, true, true, true, true, true, true, true, true, true, true, true, true, true, true, true, true, true, true, true, true, true, true, true, true, true, false, false, false, false, false, false, false, false, false, false, false, false, false, false, false, false, false, false, false, false, false, false, false, false, false] _;refine aF (i := 27) rfl rfl (by kernel_rfl) (by kernel_rfl) (by kernel_rfl) rfl rfl rfl (fun _ _ h => h) h24 (bV (E := (ab Enc.int (ab Enc.str (ab Enc.str (Enc.sl (ab Enc.str Enc.str)))))) ax (by kernel_rfl) rfl rfl (g25 (nf h24)) e27) ?_
       show AI _ _ _ _ _ _ #[true, true, true, true, true, true, true, true, true, true, true, true, true, true, true, true, true, true, true, true, true, true, true, true, true, true, true, true, false, false, false, false, false, false, false, false, false, false, false, false, false, false, false, false, false, false, false, false, false, false, false, false] _;refine aF (i := 28) rfl rfl (by kernel_rfl) (by kernel_rfl) (by kernel_rfl) rfl rfl rfl (fun _ _ h => h) h24 (bo (n := 2) (by kernel_rfl) rfl (ai rfl)) ?_;show AI _ _ _ _ _ _ #[true, true, true, true, true, true, true, true, true, true, true, true, true, true, true, true, true, true, true, true, true, true, true, true, true, true, true, true, true, false, false, false, false, false, false, false, false, false, false, false, false, false, false, false, false, false, false, false, false, false, false, false] _;refine aF (i := 29) rfl rfl (by kernel_rfl) (by kernel_rfl) (by kernel_rfl) rfl rfl rfl (fun _ _ h => h) h24 (bh ac rfl rfl) ?_;show AI _ _ _ _ _ _ #[true, true, true, true, true, true, true, true, true, true, true, true, true, true, true, true, true, true, true, true, true, true, true, true, true, true, true, true, true, true, false, false, false, false, false, false, false, false, false, false, false, false, false, false, false, false, false, false, false, false, false, false] _;refine aF (i := 30) rfl rfl (by kernel_rfl) (by kernel_rfl) (by kernel_rfl) rfl rfl rfl (fun _ _ h => h) h24 (ah (av := slE _ _ _) rfl) ?_
       show AI _ _ _ _ _ _ #[true, true, true, true, true, true, true, true, true, true, true, true, true, true, true, true, true, true, true, true, true, true, true, true, true, true, true, true, true, true, true, false, false, false, false, false, false, false, false, false, false, false, false, false, false, false, false, false, false, false, false, false] _;refine aF (i := 31) rfl rfl (by kernel_rfl) (by kernel_rfl) (by kernel_rfl) rfl rfl rfl (fun _ _ h => h) h24 (mv rfl) ?_;show AI _ _ _ _ _ _ #[true, true, true, true, true, true, true, true, true, true, true, true, true, true, true, true, true, true, true, true, true, true, true, true, true, true, true, true, true, true, true, true, false, false, false, false, false, false, false, false, false, false, false, false, false, false, false, false, false, false, false, false] _;refine aF (i := 32) rfl rfl (by kernel_rfl) (by kernel_rfl) (by kernel_rfl) rfl rfl rfl (fun _ _ h => h) h24 (bV (E := (ab Enc.int (ab Enc.str (ab Enc.str (Enc.sl (ab Enc.str Enc.str)))))) ax (by kernel_rfl) rfl rfl (g28 (nf h24)) e30) ?_;show AI _ _ _ _ _ _ #[true, true, true, true, true, true, true, true, true, true, true, true, true, true, true, true, true, true, true, true, true, true, true, true, true, true, true, true, true, true, true, true, true, false, false, false, false, false, false, false, false, false, false, false, false, false, false, false, false, false, false, false] _
       refine aF (i := 33) rfl rfl (by kernel_rfl) (by kernel_rfl) (by kernel_rfl) rfl rfl rfl (fun _ _ h => h) h24 (bo (n := 2) (by kernel_rfl) rfl (ai rfl)) ?_;show AI _ _ _ _ _ _ #[true, true, true, true, true, true, true, true, true, true, true, true, true, true, true, true, true, true, true, true, true, true, true, true, true, true, true, true, true, true, true, true, true, true, false, false, false, false, false, false, false, false, false, false, false, false, false, false, false, false, false, false] _;refine aF (i := 34) rfl rfl (by kernel_rfl) (by kernel_rfl) (by kernel_rfl) rfl rfl rfl (fun _ _ h => h) h24 (bh ac rfl rfl) ?_;show AI _ _ _ _ _ _ #[true, true, true, true, true, true, true, true, true, true, true, true, true, true, true, true, true, true, true, true, true, true, true, true, true, true, true, true, true, true, true, true, true, true, true, false, false, false, false, false, false, false, false, false, false, false, false, false, false, false, false, false] _;refine aF (i := 35) rfl rfl (by kernel_rfl) (by kernel_rfl) (by kernel_rfl) rfl rfl rfl (fun _ _ h => h) h24 (mB rfl rfl) ?_;show AI _ _ _ _ _ _ #[true, true, true, true, true, true, true, true, true, true, true, true, true, true, true, true, true, true, true, true, true, true, true, true, true, true, true, true, true, true, true, true, true, true, true, true, false, false, false, false, false, false, false, false, false, false, false, false, false, false, false, false] _
       refine zk 36 rfl (bU (av' := B (((!decide (x12.1 = x15.1)) || (!decide (x19.2.1 = x22.2.1))) || (!decide (x26.2.2.1 = x29.2.2.1)))) (aD (av := .v _) rfl h24 rfl) (au (iD h24))) ?_;show AI _ _ _ _ _ _ #[true, true, true, true, true, true, true, true, true, true, true, true, true, true, true, true, true, true, true, true, true, true, true, true, true, true, true, true, true, true, true, true, true, true, true, true, true, false, false, false, false, false, false, false, false, false, false, false, false, false, false, false] _;exact K36 _ 11 rfl rfl
     refine zk 37 rfl (mv rfl) ?_;show AI _ _ _ _ _ _ #[true, true, true, true, true, true, true, true, true, true, true, true, true, true, true, true, true, true, true, true, true, true, true, true, true, true, true, true, true, true, true, true, true, true, true, true, true, true, false, false, false, false, false, false, false, false, false, false, false, false, false, false] _;refine AI.meet 0 #[true, true, true, true, true, true, true, true, true, true, true, true, true, true, true, true, true, true, true, true, true, true, true, true, true, true, true, true, true, true, true, true, true, true, true, true, true, true, true, true, true, true, true, true, true, true, true, true, true, true, true, true] 69 (B ((((!decide (x12.1 = x15.1)) || (!decide (x19.2.1 = x22.2.1))) || (!decide (x26.2.2.1 = x29.2.2.1))) || (!decide ((x33.2.2.2.length : Int) = (x36.2.2.2.length : Int))))) (fun K51 => ?_) ?_
     ·refine gi (t := 55) rfl (fun h31 => ?_) (fun h31 => ?_)
      ·refine aI (i := 38) rfl rfl (by kernel_rfl) (by kernel_rfl) (by kernel_rfl) rfl rfl rfl (fun _ _ h => h) h31 ?_;show AI _ _ _ _ _ _ #[true, true, true, true, true, true, true, true, true, true, true, true, true, true, true, true, true, true, true, true, true, true, true, true, true, true, true, true, true, true, true, true, true, true, true, true, true, true, true, false, false, false, false, false, false, false, false, false, false, false, false, false] _;refine aI (i := 39) rfl rfl (by kernel_rfl) (by kernel_rfl) (by kernel_rfl) rfl rfl rfl (fun _ _ h => h) h31 ?_;show AI _ _ _ _ _ _ #[true, true, true, true, true, true, true, true, true, true, true, true, true, true, true, true, true, true, true, true, true, true, true, true, true, true, true, true, true, true, true, true, true, true, true, true, true, true, true, true, false, false, false, false, false, false, false, false, false, false, false, false] _;refine aI (i := 40) rfl rfl (by kernel_rfl) (by kernel_rfl) (by kernel_rfl) rfl rfl rfl (fun _ _ h => h) h31 ?_;show AI _ _ _ _ _ _ #[true, true, true, true, true, true, true, true, true, true, true, true, true, true, true, true, true, true, true, true, true, true, true, true, true, true, true, true, true, true, true, true, true, true, true, true, true, true, true, true, true, false, false, false, false, false, false, false, false, false, false, false] _;refine aI (i := 41) rfl rfl (by kernel_rfl) (by kernel_rfl) (by kernel_rfl) rfl rfl rfl (fun _ _ h => h) h31 ?_
       show AI _ _ _ _ _ _ #[true, true, true, true, true, true, true, true, true, true, true, true, true, true, true, true, true, true, true, true, true, true, true, true, true, true, true, true, true, true, true, true, true, true, true, true, true, true, true, true, true, true, false, false, false, false, false, false, false, false, false, false] _;refine aI (i := 42) rfl rfl (by kernel_rfl) (by kernel_rfl) (by kernel_rfl) rfl rfl rfl (fun _ _ h => h) h31 ?_;show AI _ _ _ _ _ _ #[true, true, true, true, true, true, true, true, true, true, true, true, true, true, true, true, true, true, true, true, true, true, true, true, true, true, true, true, true, true, true, true, true, true, true, true, true, true, true, true, true, true, true, false, false, false, false, false, false, false, false, false] _;refine aI (i := 43) rfl rfl (by kernel_rfl) (by kernel_rfl) (by kernel_rfl) rfl rfl rfl (fun _ _ h => h) h31 ?_;show AI _ _ _ _ _ _ #[true, true, true, true, true, true, true, true, true, true, true, true, true, true, true, true, true, true, true, true, true, true, true, true, true, true, true, true, true, true, true, true, true, true, true, true, true, true, true, true, true, true, true, true, false, false, false, false, false, false, false, false] _;refine aI (i := 44) rfl rfl (by kernel_rfl) (by kernel_rfl) (by kernel_rfl) rfl rfl rfl (fun _ _ h => h) h31 ?_
       show AI _ _ _ _ _ _ #[true, true, true, true, true, true, true, true, true, true, true, true, true, true, true, true, true, true, true, true, true, true, true, true, true, true, true, true, true, true, true, true, true, true, true, true, true, true, true, true, true, true, true, true, true, false, false, false, false, false, false, false] _;refine aI (i := 45) rfl rfl (by kernel_rfl) (by kernel_rfl) (by kernel_rfl) rfl rfl rfl (fun _ _ h => h) h31 ?_;show AI _ _ _ _ _ _ #[true, true, true, true, true, true, true, true, true, true, true, true, true, true, true, true, true, true, true, true, true, true, true, true, true, true, true, true, true, true, true, true, true, true, true, true, true, true, true, true, true, true, true, true, true, true, false, false, false, false, false, false] _;refine aI (i := 46) rfl rfl (by kernel_rfl) (by kernel_rfl) (by kernel_rfl) rfl rfl rfl (fun _ _ h => h) h31 ?_;show AI _ _ _ _ _ _ #[true, true, true, true, true, true, true, true, true, true, true, true, true, true, true, true, true, true, true, true, true, true, true, true, true, true, true, true, true, true, true, true, true, true, true, true, true, true, true, true, true, true, true, true, true, true, true, false, false, false, false, false] _;refine aI (i := 47) rfl rfl (by kernel_rfl) (by kernel_rfl) (by kernel_rfl) rfl rfl rfl (fun _ _ h => h) h31 ?_
       show AI _ _ _ _ _ _ #[true, true, true, true, true, true, true, true, true, true, true, true, true, true, true, true, true, true, true, true, true, true, true, true, true, true, true, true, true, true, true, true, true, true, true, true, true, true, true, true, true, true, true, true, true, true, true, true, false, false, false, false] _;refine aI (i := 48) rfl rfl (by kernel_rfl) (by kernel_rfl) (by kernel_rfl) rfl rfl rfl (fun _ _ h => h) h31 ?_;show AI _ _ _ _ _ _ #[true, true, true, true, true, true, true, true, true, true, true, true, true, true, true, true, true, true, true, true, true, true, true, true, true, true, true, true, true, true, true, true, true, true, true, true, true, true, true, true, true, true, true, true, true, true, true, true, true, false, false, false] _;refine aI (i := 49) rfl rfl (by kernel_rfl) (by kernel_rfl) (by kernel_rfl) rfl rfl rfl (fun _ _ h => h) h31 ?_;show AI _ _ _ _ _ _ #[true, true, true, true, true, true, true, true, true, true, true, true, true, true, true, true, true, true, true, true, true, true, true, true, true, true, true, true, true, true, true, true, true, true, true, true, true, true, true, true, true, true, true, true, true, true, true, true, true, true, false, false] _;refine aI (i := 50) rfl rfl (by kernel_rfl) (by kernel_rfl) (by kernel_rfl) rfl rfl rfl (fun _ _ h => h) h31 ?_
       show AI _ _ _ _ _ _ #[true, true, true, true, true, true, true, true, true, true, true, true, true, true, true, true, true, true, true, true, true, true, true, true, true, true, true, true, true, true, true, true, true, true, true, true, true, true, true, true, true, true, true, true, true, true, true, true, true, true, true, false] _;refine zk 51 rfl (bU (av' := B ((((!decide (x12.1 = x15.1)) || (!decide (x19.2.1 = x22.2.1))) || (!decide (x26.2.2.1 = x29.2.2.1))) || (!decide ((x33.2.2.2.length : Int) = (x36.2.2.2.length : Int))))) (aB (av := .v _) rfl h31 rfl) (au (iU h31))) ?_;show AI _ _ _ _ _ _ #[true, true, true, true, true, true, true, true, true, true, true, true, true, true, true, true, true, true, true, true, true, true, true, true, true, true, true, true, true, true, true, true, true, true, true, true, true, true, true, true, true, true, true, true, true, true, true, true, true, true, true, true] _;exact K51 _ 13 rfl rfl
      ·refine aF (i := 38) rfl rfl (by kernel_rfl) (by kernel_rfl) (by kernel_rfl) rfl rfl rfl (fun _ _ h => h) h31 (ah (av := slE _ _ _) rfl) ?_;show AI _ _ _ _ _ _ #[true, true, true, true, true, true, true, true, true, true, true, true, true, true, true, true, true, true, true, true, true, true, true, true, true, true, true, true, true, true, true, true, true, true, true, true, true, true, true, false, false, false, false, false, false, false, false, false, false, false, false, false] _;refine aF (i := 39) rfl rfl (by kernel_rfl) (by kernel_rfl) (by kernel_rfl) rfl rfl rfl (fun _ _ h => h) h31 (mv rfl) ?_;show AI _ _ _ _ _ _ #[true, true, true, true, true, true, true, true, true, true, true, true, true, true, true, true, true, true, true, true, true, true, true, true, true, true, true, true, true, true, true, true, true, true, true, true, true, true, true, true, false, false, false, false, false, false, false, false, false, false, false, false] _;refine aF (i := 40) rfl rfl (by kernel_rfl) (by kernel_rfl) (by kernel_rfl) rfl rfl rfl (fun _ _ h => h) h31 (bV (E := (ab Enc.int (ab Enc.str (ab Enc.str (Enc.sl (ab Enc.str Enc.str)))))) ax (by kernel_rfl) rfl rfl (g32 (nf h31)) e34) ?_
       show AI _ _ _ _ _ _ #[true, true, true, true, true, true, true, true, true, true, true, true, true, true, true, true, true, true, true, true, true, true, true, true, true, true, true, true, true, true, true, true, true, true, true, true, true, true, true, true, true, false, false, false, false, false, false, false, false, false, false, false] _;refine aF (i := 41) rfl rfl (by kernel_rfl) (by kernel_rfl) (by kernel_rfl) rfl rfl rfl (fun _ _ h => h) h31 (bo (n := 3) (by kernel_rfl) rfl (ai rfl)) ?_;show AI _ _ _ _ _ _ #[true, true, true, true, true, true, true, true, true, true, true, true, true, true, true, true, true, true, true, true, true, true, true, true, true, true, true, true, true, true, true, true, true, true, true, true, true, true, true, true, true, true, false, false, false, false, false, false, false, false, false, false] _;refine aF (i := 42) rfl rfl (by kernel_rfl) (by kernel_rfl) (by kernel_rfl) rfl rfl rfl (fun _ _ h => h) h31 (bh aV rfl rfl) ?_;show AI _ _ _ _ _ _ #[true, true, true, true, true, true, true, true, true, true, true, true, true, true, true, true, true, true, true, true, true, true, true, true, true, true, true, true, true, true, true, true, true, true, true, true, true, true, true, true, true, true, true, false, false, false, false, false, false, false, false, false] _;refine aF (i := 43) rfl rfl (by kernel_rfl) (by kernel_rfl) (by kernel_rfl) rfl rfl rfl (fun _ _ h => h) h31 (bn aV rfl) ?_
       show AI _ _ _ _ _ _ #[true, true, true, true, true, true, true, true, true, true, true, true, true, true, true, true, true, true, true, true, true, true, true, true, true, true, true, true, true, true, true, true, true, true, true, true, true, true, true, true, true, true, true, true, false, false, false, false, false, false, false, false] _;refine aF (i := 44) rfl rfl (by kernel_rfl) (by kernel_rfl) (by kernel_rfl) rfl rfl rfl (fun _ _ h => h) h31 (ah (av := slE _ _ _) rfl) ?_;show AI _ _ _ _ _ _ #[true, true, true, true, true, true, true, true, true, true, true, true, true, true, true, true, true, true, true, true, true, true, true, true, true, true, true, true, true, true, true, true, true, true, true, true, true, true, true, true, true, true, true, true, true, false, false, false, false, false, false, false] _;refine aF (i := 45) rfl rfl (by kernel_rfl) (by kernel_rfl) (by kernel_rfl) rfl rfl rfl (fun _ _ h => h) h31 (mv rfl) ?_;show AI _ _ _ _ _ _ #[true, true, true, true, true, true, true, true, true, true, true, true, true, true, true, true, true, true, true, true, true, true, true, true, true, true, true, true, true, true, true, true, true, true, true, true, true, true, true, true, true, true, true, true, true, true, false, false, false, false, false, false] _;refine aF (i := 46) rfl rfl (by kernel_rfl) (by kernel_rfl) (by kernel_rfl) rfl rfl rfl (fun _ _ h => h) h31 (bV (E := (ab Enc.int (ab Enc.str (ab Enc.str (Enc.sl (ab Enc.str Enc.str)))))) ax (by kernel_rfl) rfl rfl (g35 (nf h31)) e37) ?_
       show AI _ _ _ _ _ _ #[true, true, true, true, true, true, true, true, true, true, true, true, true, true, true, true, true, true, true, true, true, true, true, true, true, true, true, true, true, true, true, true, true, true, true, true, true, true, true, true, true, true, true, true, true, true, true, false, false, false, false, false] _;refine aF (i := 47) rfl rfl (by kernel_rfl) (by kernel_rfl) (by kernel_rfl) rfl rfl rfl (fun _ _ h => h) h31 (bo (n := 3) (by kernel_rfl) rfl (ai rfl)) ?_;show AI _ _ _ _ _ _ #[true, true, true, true, true, true, true, true, true, true, true, true, true, true, true, true, true, true, true, true, true, true, true, true, true, true, true, true, true, true, true, true, true, true, true, true, true, true, true, true, true, true, true, true, true, true, true, true, false, false, false, false] _;refine aF (i := 48) rfl rfl (by kernel_rfl) (by kernel_rfl) (by kernel_rfl) rfl rfl rfl (fun _ _ h => h) h31 (bh aV rfl rfl) ?_;show AI _ _ _ _ _ _ #[true, true, true, true, true, true, true, true, true, true, true, true, true, true, true, true, true, true, true, true, true, true, true, true, true, true, true, true, true, true, true, true, true, true, true, true, true, true, true, true, true, true, true, true, true, true, true, true, true, false, false, false] _;refine aF (i := 49) rfl rfl (by kernel_rfl) (by kernel_rfl) (by kernel_rfl) rfl rfl rfl (fun _ _ h => h) h31 (bn aV rfl) ?_
       show AI _ _ _ _ _ _ #[true, true, true, true, true, true, true, true, true, true, true, true, true, true, true, true, true, true, true, true, true, true, true, true, true, true, true, true, true, true, true, true, true, true, true, true, true, true, true, true, true, true, true, true, true, true, true, true, true, true, false, false] _;refine aF (i := 50) rfl rfl (by kernel_rfl) (by kernel_rfl) (by kernel_rfl) rfl rfl rfl (fun _ _ h => h) h31 (iG rfl rfl) ?_;show AI _ _ _ _ _ _ #[true, true, true, true, true, true, true, true, true, true, true, true, true, true, true, true, true, true, true, true, true, true, true, true, true, true, true, true, true, true, true, true, true, true, true, true, true, true, true, true, true, true, true, true, true, true, true, true, true, true, true, false] _;refine zk 51 rfl (bU (av' := B ((((!decide (x12.1 = x15.1)) || (!decide (x19.2.1 = x22.2.1))) || (!decide (x26.2.2.1 = x29.2.2.1))) || (!decide ((x33.2.2.2.length : Int) = (x36.2.2.2.length : Int))))) (aD (av := .v _) rfl h31 rfl) (au (iD h31))) ?_;show AI _ _ _ _ _ _ #[true, true, true, true, true, true, true, true, true, true, true, true, true, true, true, true, true, true, true, true, true, true, true, true, true, true, true, true, true, true, true, true, true, true, true, true, true, true, true, true, true, true, true, true, true, true, true, true, true, true, true, true] _;exact K51 _ 13 rfl rfl
     refine bm rfl <| ay rfl (fun c38 => ?_) (fun c38 => ?_)
     ·replace H := aZ c38 H;refine af <| aa ?_;show AR _ _ _ _ _ [0] _;refine za rfl <| aj <| aK ?_;obtain rfl := ap H;exact And.intro rfl (Exists.intro _ (Exists.intro _ ⟨aJ rfl (.refl _), aH [] rfl, rfl, rfl⟩))
     ·replace H := ba c38 H;refine aC <| af <| aa ?_;show AR _ _ _ _ _ [0] _;refine za rfl <| aj <| aX <| cA (X := Nat × Int) (fun (n41, y39) => ⟨[(0, slE (ab Enc.int (ab Enc.str (ab Enc.str (Enc.sl (ab Enc.str Enc.str))))) a1 q2), (1, slE (ab Enc.int (ab Enc.str (ab Enc.str (Enc.sl (ab Enc.str Enc.str))))) a3 q4), (5, i64 y7), (6, i64 y39)], [], []⟩) (fun (n41, y39) => hY a1 a3 y7 (cV F a1 a3 n9) n41 y39 = some r5) (fun (n41, y39) => n41) (F, 0) H (aQ [] (.cons (.refl _) (.cons (.refl _) (.cons (.refl _) (.cons (.refl _) (.nil _))))) rfl) ?_;rintro ⟨n41, y39⟩ H;obtain ⟨n41, rfl, H⟩ := dx H;replace H : ia a1 a3 y7 (cV F a1 a3 n9) (hY a1 a3 y7 (cV F a1 a3 n9) n41) y39 = some r5 := H
      unfold ia at H
      refine af <| af ?_;obtain ⟨g42, H⟩ := aP H;obtain ⟨x43, e44, H⟩ := bM H;refine aa ?_;show AR _ _ _ _ _ [0, 1, 2, 3, 4, 5, 6, 7] _;refine zm rfl <| zS rfl (ah (av := slE _ _ _) rfl) <| zm rfl <| zS rfl (bV (E := (ab Enc.int (ab Enc.str (ab Enc.str (Enc.sl (ab Enc.str Enc.str)))))) ax (by kernel_rfl) rfl rfl g42 e44) <| zS rfl (bo (n := 3) (by kernel_rfl) rfl (ai rfl)) <| zS rfl (bh aV rfl rfl) <| zS rfl (bn aV rfl) <| zS rfl (bQ rfl rfl) <| aj <| ay rfl (fun c45 => ?_) (fun c45 => ?_)
      ·replace H := aZ c45 H;refine aC <| af <| aX <| af ?_;obtain ⟨g46, H⟩ := aP H;obtain ⟨x47, e48, H⟩ := bM H;obtain ⟨g49, H⟩ := aP H;obtain ⟨x50, e51, H⟩ := bM H;obtain ⟨g52, H⟩ := aP H;obtain ⟨x53, e54, H⟩ := bM H;obtain ⟨g55, H⟩ := aP H;obtain ⟨x56, e57, H⟩ := bM H;refine bg (by kernel_rfl) ?_;show AI _ _ _ _ _ 17 (Array.replicate 17 false) _;refine zk 0 rfl (ah (av := slE _ _ _) rfl) ?_;show AI _ _ _ _ _ _ #[true, false, false, false, false, false, false, false, false, false, false, false, false, false, false, false, false] _;refine zk 1 rfl (mv rfl) ?_;show AI _ _ _ _ _ _ #[true, true, false, false, false, false, false, false, false, false, false, false, false, false, false, false, false] _;refine zk 2 rfl (bV (E := (ab Enc.int (ab Enc.str (ab Enc.str (Enc.sl (ab Enc.str Enc.str)))))) ax (by kernel_rfl) rfl rfl g46 e48) ?_;show AI _ _ _ _ _ _ #[true, true, true, false, false, false, false, false, false, false, false, false, false, false, false, false, false] _;refine zk 3 rfl (bo (n := 3) (by kernel_rfl) rfl (ai rfl)) ?_;show AI _ _ _ _ _ _ #[true, true, true, true, false, false, false, false, false, false, false, false, false, false, false, false, false] _;refine zk 4 rfl (bh aV rfl rfl) ?_;show AI _ _ _ _ _ _ #[true, true, true, true, true, false, false, false, false, false, false, false, false, false, false, false, false] _;refine zk 5 rfl (mv rfl) ?_
       show AI _ _ _ _ _ _ #[true, true, true, true, true, true, false, false, false, false, false, false, false, false, false, false, false] _;refine zk 6 rfl (bV (E := (ab Enc.str Enc.str)) aV (by kernel_rfl) rfl rfl g49 e51) ?_;show AI _ _ _ _ _ _ #[true, true, true, true, true, true, true, false, false, false, false, false, false, false, false, false, false] _;refine zk 7 rfl (cD bI rfl (n := 2) (by kernel_rfl) rfl (ai rfl)) ?_;show AI _ _ _ _ _ _ #[true, true, true, true, true, true, true, true, false, false, false, false, false, false, false, false, false] _;refine zk 8 rfl (ah (av := slE _ _ _) rfl) ?_;show AI _ _ _ _ _ _ #[true, true, true, true, true, true, true, true, true, false, false, false, false, false, false, false, false] _;refine zk 9 rfl (mv rfl) ?_;show AI _ _ _ _ _ _ #[true, true, true, true, true, true, true, true, true, true, false, false, false, false, false, false, false] _;refine zk 10 rfl (bV (E := (ab Enc.int (ab Enc.str (ab Enc.str (Enc.sl (ab Enc.str Enc.str)))))) ax (by kernel_rfl) rfl rfl g52 e54) ?_;show AI _ _ _ _ _ _ #[true, true, true, true, true, true, true, true, true, true, true, false, false, false, false, false, false] _;refine zk 11 rfl (bo (n := 3) (by kernel_rfl) rfl (ai rfl)) ?_;show AI _ _ _ _ _ _ #[true, true, true, true, true, true, true, true, true, true, true, true, false, false, false, false, false] _;refine zk 12 rfl (bh aV rfl rfl) ?_
       show AI _ _ _ _ _ _ #[true, true, true, true, true, true, true, true, true, true, true, true, true, false, false, false, false] _;refine zk 13 rfl (mv rfl) ?_;show AI _ _ _ _ _ _ #[true, true, true, true, true, true, true, true, true, true, true, true, true, true, false, false, false] _;refine zk 14 rfl (bV (E := (ab Enc.str Enc.str)) aV (by kernel_rfl) rfl rfl g55 e57) ?_;show AI _ _ _ _ _ _ #[true, true, true, true, true, true, true, true, true, true, true, true, true, true, true, false, false] _;refine zk 15 rfl (cD bI rfl (n := 2) (by kernel_rfl) rfl (ai rfl)) ?_;show AI _ _ _ _ _ _ #[true, true, true, true, true, true, true, true, true, true, true, true, true, true, true, true, false] _;refine zk 16 rfl (mT (r := (decide (x50.1 = x56.1)) && (decide (x50.2 = x56.2))) (.inr rfl) bI (by kernel_rfl) (by kernel_rfl) (by kernel_rfl) rfl rfl rfl (by simp only [List.all_cons, List.all_nil, id, vj, Bool.and_true])) ?_;show AI _ _ _ _ _ _ #[true, true, true, true, true, true, true, true, true, true, true, true, true, true, true, true, true] _;refine bm rfl <| ay rfl (fun c58 => ?_) (fun c58 => ?_)
       ·replace H := aZ c58 H;refine af <| aa ?_;show AR _ _ _ _ _ [0] _;refine za rfl <| aj <| aK ?_;obtain rfl := ap H;exact And.intro rfl (Exists.intro _ (Exists.intro _ ⟨aJ rfl (.refl _), aH [] rfl, rfl, rfl⟩))
       ·replace H := ba c58 H;refine aC ?_;obtain ⟨g59, H⟩ := aP H;refine aa ?_;show AR _ _ _ _ _ [0, 1, 2] _;refine zm rfl <| zS rfl (bD rfl rfl g59) <| za rfl <| aj ?_;exact Exists.intro (n41, y39 + 1) ⟨H, Nat.lt_succ_self _, aQ [] (.cons (.refl _) (.cons (.refl _) (.cons (.refl _) (.cons (.refl _) (.nil _))))) rfl⟩
      ·replace H := ba c45 H;refine bW ?_;exact Exists.intro () ⟨H, aQ [] (.cons (.refl _) (.cons (.refl _) (.cons (.refl _) (.nil _)))) rfl⟩
    rintro _ H;replace H : fX y7 (cV F a1 a3 n9) = some r5 := H
    unfold fX at H
    obtain ⟨g61, H⟩ := aP H;refine aa ?_;show AR _ _ _ _ _ [0, 1, 2] _;refine zm rfl <| zS rfl (bD rfl rfl g61) <| za rfl <| aj ?_;exact Exists.intro (n9, y7 + 1) ⟨H, Nat.lt_succ_self _, aQ [] (.cons (.refl _) (.cons (.refl _) (.cons (.refl _) (.nil _)))) rfl⟩
   ·replace H := ba c10 H;refine bW ?_;exact Exists.intro () ⟨H, aQ [] (.nil _) rfl⟩
  rintro _ H;replace H : jy = some r5 := H
  unfold jy at H
  refine af <| aa ?_;show AR _ _ _ _ _ [0] _;refine za rfl <| aj <| aK ?_;obtain rfl := ap H;exact And.intro rfl (Exists.intro _ (Exists.intro _ ⟨aJ rfl (.refl _), aH [] rfl, rfl, rfl⟩))
set_option maxRecDepth 100000 in
set_option maxHeartbeats 1000000 in
theorem qR (F : Nat) (r1 : Bool) (H : jH F = some r1) : ACalls Tryz.prog 9 [] [] (Ret (B r1) []) := by
 unfold jH at H
 refine aw Tryz.func9 rfl rfl ?_;show AW _ _ 39 _ _ _;refine af <| aa ?_;show AR _ _ _ _ _ [0] _;refine za rfl <| aj <| af ?_;obtain ⟨x3, x4, e5, H⟩ := cQ H;refine aa ?_;show AR _ _ _ _ _ [0, 1, 2, 3, 4, 5, 6, 7] _;refine zX rfl (uD (E := Enc.byte) (bytes := 1) (xs := [.const _, .const _, .const _, .const _, .const _, .const _, .const _, .const _, .const _, .const _, .const _, .const _, .const _, .const _, .const _, .const _] ++ [.const _, .const _, .const _, .const _, .const _, .const _, .const _]) (l := ([60, 97, 32, 98, 61, 34, 49, 34, 62, 120, 38, 97, 109, 112, 59, 60] ++ [99, 47, 62, 60, 47, 97, 62] : List UInt8)) an (by kernel_rfl) rfl rfl (by decide) rfl rfl) ?_;rintro _ _ ⟨t2, rfl, rfl⟩;refine zR rfl (qY 0 an bp rfl (by simp) rfl) <| aq rfl rfl (aO rfl wP rfl (oH F ([60, 97, 32, 98, 61, 34, 49, 34, 62, 120, 38, 97, 109, 112, 59, 60] ++ [99, 47, 62, 60, 47, 97, 62] : List UInt8) (some t2) x3 x4 e5) ?_);refine zS rfl (ah (av := .tup _) rfl) <| zS rfl (aL (av := slE _ _ _) rfl rfl) <| zS rfl (aL (av := .v _) rfl rfl) <| zS rfl (aY (av := slE _ _ _) rfl) <| za rfl <| aj <| af <| aa ?_;show AR _ _ _ _ _ [0, 1, 2, 3, 4, 5, 6, 7, 8] _
 refine zS rfl (eG (zs := [.string ⟨#[]⟩, .string ⟨#[]⟩]) (ps := [(0, 1), (1, 1)]) (cs := [S ([98] : List UInt8), S ([49] : List UInt8)]) (by kernel_rfl) rfl rfl) <| zR rfl (cC (E := (ab Enc.str Enc.str)) (bytes := 32) (zs := [.string ⟨#[]⟩, .string ⟨#[]⟩]) (l := ([(([98] : List UInt8), ([49] : List UInt8))] : List ((List UInt8) × List UInt8))) aV (by kernel_rfl) (by kernel_rfl) rfl rfl rfl rfl rfl) <| zS rfl (eG (zs := [.int .i64 0, .string ⟨#[]⟩, .string ⟨#[]⟩, .slice none 0 0]) (ps := [(0, 1), (1, 1), (2, 1), (3, 1)]) (cs := [i64 0, S ([97] : List UInt8), S ([] : List UInt8), slE (ab Enc.str Enc.str) ([(([98] : List UInt8), ([49] : List UInt8))] : List ((List UInt8) × List UInt8)) none]) (by kernel_rfl) rfl rfl) <| zS rfl (eG (zs := [.int .i64 0, .string ⟨#[]⟩, .string ⟨#[]⟩, .slice none 0 0]) (ps := [(0, 1), (1, 1), (2, 1), (3, 1)]) (cs := [i64 2, S ([] : List UInt8), S ([120, 38] : List UInt8), gj]) (by kernel_rfl) rfl rfl) <| zS rfl (eG (zs := [.int .i64 0, .string ⟨#[]⟩, .string ⟨#[]⟩, .slice none 0 0]) (ps := [(0, 1), (1, 1), (2, 1), (3, 1)]) (cs := [i64 0, S ([99] : List UInt8), S ([] : List UInt8), gj]) (by kernel_rfl) rfl rfl) <| zS rfl (eG (zs := [.int .i64 0, .string ⟨#[]⟩, .string ⟨#[]⟩, .slice none 0 0]) (ps := [(0, 1), (1, 1), (2, 1), (3, 1)]) (cs := [i64 1, S ([99] : List UInt8), S ([] : List UInt8), gj]) (by kernel_rfl) rfl rfl) <| zS rfl (eG (zs := [.int .i64 0, .string ⟨#[]⟩, .string ⟨#[]⟩, .slice none 0 0]) (ps := [(0, 1), (1, 1), (2, 1), (3, 1)]) (cs := [i64 1, S ([97] : List UInt8), S ([] : List UInt8), gj]) (by kernel_rfl) rfl rfl) <| zR rfl (dq (ds := [i64 2, S ([] : List UInt8), S ([120, 38] : List UInt8), slE (ab Enc.str Enc.str) ([] : List ((List UInt8) × List UInt8)) none]) 14 (.cons (.refl _) (.cons (.refl _) (.cons (.refl _) (.cons (.nil _) (.nil))))) (hc := rfl) <| dq (ds := [i64 0, S ([99] : List UInt8), S ([] : List UInt8), slE (ab Enc.str Enc.str) ([] : List ((List UInt8) × List UInt8)) none]) 15 (.cons (.refl _) (.cons (.refl _) (.cons (.refl _) (.cons (.nil _) (.nil))))) (hc := rfl) <| dq (ds := [i64 1, S ([99] : List UInt8), S ([] : List UInt8), slE (ab Enc.str Enc.str) ([] : List ((List UInt8) × List UInt8)) none]) 16 (.cons (.refl _) (.cons (.refl _) (.cons (.refl _) (.cons (.nil _) (.nil))))) (hc := rfl) <| dq (ds := [i64 1, S ([97] : List UInt8), S ([] : List UInt8), slE (ab Enc.str Enc.str) ([] : List ((List UInt8) × List UInt8)) none]) 17 (.cons (.refl _) (.cons (.refl _) (.cons (.refl _) (.cons (.nil _) (.nil))))) (hc := rfl) <| cC (E := (ab Enc.int (ab Enc.str (ab Enc.str (Enc.sl (ab Enc.str Enc.str)))))) (bytes := 64) (zs := [.int .i64 0, .string ⟨#[]⟩, .string ⟨#[]⟩, .slice none 0 0]) (l := ([(0, ([97] : List UInt8), ([] : List UInt8), ([(([98] : List UInt8), ([49] : List UInt8))] : List ((List UInt8) × List UInt8))), (2, ([] : List UInt8), ([120, 38] : List UInt8), ([] : List ((List UInt8) × List UInt8))), (0, ([99] : List UInt8), ([] : List UInt8), ([] : List ((List UInt8) × List UInt8))), (1, ([99] : List UInt8), ([] : List UInt8), ([] : List ((List UInt8) × List UInt8))), (1, ([97] : List UInt8), ([] : List UInt8), ([] : List ((List UInt8) × List UInt8)))] : List (Int × (List UInt8) × (List UInt8) × List ((List UInt8) × List UInt8)))) ax (by kernel_rfl) (by kernel_rfl) rfl rfl rfl rfl rfl) <| zS rfl (aY (av := slE _ _ _) rfl) <| aj <| af ?_
 obtain ⟨x6, e7, H⟩ := ci H;refine aa ?_;show AR _ _ _ _ _ [0, 1, 2, 3] _;refine zS rfl (ah (av := slE _ _ _) rfl) <| zS rfl (ah (av := slE _ _ _) rfl) <| aq rfl rfl (aO rfl wN rfl (nr F x3 none ([(0, ([97] : List UInt8), ([] : List UInt8), ([(([98] : List UInt8), ([49] : List UInt8))] : List ((List UInt8) × List UInt8))), (2, ([] : List UInt8), ([120, 38] : List UInt8), ([] : List ((List UInt8) × List UInt8))), (0, ([99] : List UInt8), ([] : List UInt8), ([] : List ((List UInt8) × List UInt8))), (1, ([99] : List UInt8), ([] : List UInt8), ([] : List ((List UInt8) × List UInt8))), (1, ([97] : List UInt8), ([] : List UInt8), ([] : List ((List UInt8) × List UInt8)))] : List (Int × (List UInt8) × (List UInt8) × List ((List UInt8) × List UInt8))) none x6 e7) ?_);refine za rfl <| aj <| af ?_;obtain ⟨x10, e11, H⟩ := gV H;obtain ⟨x13, e14, H⟩ := gV H;obtain ⟨x16, e17, H⟩ := gV H;refine aa ?_;show AR _ _ _ _ _ [0, 1, 2, 3, 4, 5, 6, 7, 8, 9, 10, 11, 12, 13, 14, 15, 16, 17] _;refine zm rfl <| zS rfl (bC rfl rfl) <| zm rfl <| bf (l := [5, 6, 7, 8, 9, 10, 11, 12, 13, 14, 15, 16, 17]) 26 (B ((decide (x4 = 0)) && x6)) (fun K => ?_) ?_
 ·rcases am (decide (x4 = 0)) with h8 | h8
  ·refine zM h8 rfl <| zS rfl (aB (av := .v _) rfl h8 rfl) ?_;exact K _ 1 _ (au (bN h8)) rfl rfl
  ·refine zF h8 rfl <| zS rfl (aD (av := .v _) rfl h8 rfl) ?_;exact K _ 1 _ (au (ca h8)) rfl rfl
 refine zm rfl <| bf (l := [8, 9, 10, 11, 12, 13, 14, 15, 16, 17]) 29 (B (((decide (x4 = 0)) && x6) && x10)) (fun K => ?_) ?_
 ·rcases am ((decide (x4 = 0)) && x6) with h9 | h9
  ·refine zT h9 rfl (aO rfl wE rfl (oe F ([97, 58, 98] : List UInt8) x10 (e11 h9)) ?_);refine zS rfl (aB (av := .v _) rfl h9 rfl) ?_;exact K _ 1 _ (au (bN h9)) rfl rfl
  ·refine zF h9 rfl <| zS rfl (aD (av := .v _) rfl h9 rfl) ?_;exact K _ 1 _ (au (ca h9)) rfl rfl
 refine zm rfl <| bf (l := [12, 13, 14, 15, 16, 17]) 33 (B ((((decide (x4 = 0)) && x6) && x10) && (decide (x13 = ([98] : List UInt8))))) (fun K => ?_) ?_
 ·rcases am (((decide (x4 = 0)) && x6) && x10) with h12 | h12
  ·refine zT h12 rfl (aO rfl wD rfl (ut F ([97, 58, 98] : List UInt8) x13 (e14 h12)) ?_);refine zU h12 rfl (cm rfl rfl) <| zS rfl (aB (av := .v _) rfl h12 rfl) ?_;exact K _ 2 _ (au (bN h12)) rfl rfl
  ·refine zF h12 rfl <| zF h12 rfl <| zS rfl (aD (av := .v _) rfl h12 rfl) ?_;exact K _ 2 _ (au (ca h12)) rfl rfl
 refine zm rfl <| bf (l := [17]) 38 (B (((((decide (x4 = 0)) && x6) && x10) && (decide (x13 = ([98] : List UInt8)))) && x16)) (fun K => ?_) ?_
 ·rcases am ((((decide (x4 = 0)) && x6) && x10) && (decide (x13 = ([98] : List UInt8)))) with h15 | h15
  ·refine zU h15 rfl (ah (av := slE _ _ _) rfl) <| zU h15 rfl (ah (av := slE _ _ _) rfl) <| zT h15 rfl (aO rfl wL rfl (vK F x3 none ([(0, ([97] : List UInt8), ([] : List UInt8), ([(([98] : List UInt8), ([49] : List UInt8))] : List ((List UInt8) × List UInt8))), (2, ([] : List UInt8), ([120, 38] : List UInt8), ([] : List ((List UInt8) × List UInt8))), (0, ([99] : List UInt8), ([] : List UInt8), ([] : List ((List UInt8) × List UInt8))), (1, ([99] : List UInt8), ([] : List UInt8), ([] : List ((List UInt8) × List UInt8))), (1, ([97] : List UInt8), ([] : List UInt8), ([] : List ((List UInt8) × List UInt8)))] : List (Int × (List UInt8) × (List UInt8) × List ((List UInt8) × List UInt8))) none x16 (e17 h15)) ?_);refine zS rfl (aB (av := .v _) rfl h15 rfl) ?_;exact K _ 3 _ (au (bN h15)) rfl rfl
  ·refine zF h15 rfl <| zF h15 rfl <| zF h15 rfl <| zS rfl (aD (av := .v _) rfl h15 rfl) ?_;exact K _ 3 _ (au (ca h15)) rfl rfl
 refine za rfl <| aj <| aK ?_;obtain rfl := ap H;exact And.intro rfl (Exists.intro _ (Exists.intro _ ⟨aJ rfl (.refl _), aH [] rfl, rfl, rfl⟩))
end Go.Proofs.YteokdkimegepoaaGreatDoor
namespace Go.Pv
def jG (F : Nat) (a1 : UInt8) : Option Bool :=
some ((((decide (a1 = 9)) || (decide (a1 = 10))) || (decide (a1 = 13))) || (decide (a1 = 32)))
def eC (F : Nat) (a1 : Int) : Option ((List UInt8) × Bool) :=
bif ((!((((decide (a1 = 9)) || (decide (a1 = 10))) || (decide (a1 = 13))) || ((decide (32 ≤ a1)) && (decide (a1 ≤ 55295))))) && (!((decide (57344 ≤ a1)) && (decide (a1 ≤ 65533))))) && (!((decide (65536 ≤ a1)) && (decide (a1 ≤ 1114111)))) then
  some (([] : List UInt8), false)
else
  bif decide (a1 < 128) then
    some (([Go.Av.toB a1] : List UInt8), true)
  else
    bif decide (a1 < 2048) then
      grd (jV a1 64) <|
      grd (okI (192 + (a1 / 64))) <|
      grd (jV a1 64) <|
      grd (okI (128 + (a1 % 64))) <|
      some (([Go.Av.toB (192 + (a1 / 64)), Go.Av.toB (128 + (a1 % 64))] : List UInt8), true)
    else
      bif decide (a1 < 65536) then
        grd (jV a1 4096) <|
        grd (okI (224 + (a1 / 4096))) <|
        grd (jV a1 64) <|
        grd (jV (a1 / 64) 64) <|
        grd (okI (128 + ((a1 / 64) % 64))) <|
        grd (jV a1 64) <|
        grd (okI (128 + (a1 % 64))) <|
        some (([Go.Av.toB (224 + (a1 / 4096)), Go.Av.toB (128 + ((a1 / 64) % 64)), Go.Av.toB (128 + (a1 % 64))] : List UInt8), true)
      else
        grd (jV a1 262144) <|
        grd (okI (240 + (a1 / 262144))) <|
        grd (jV a1 4096) <|
        grd (jV (a1 / 4096) 64) <|
        grd (okI (128 + ((a1 / 4096) % 64))) <|
        grd (jV a1 64) <|
        grd (jV (a1 / 64) 64) <|
        grd (okI (128 + ((a1 / 64) % 64))) <|
        grd (jV a1 64) <|
        grd (okI (128 + (a1 % 64))) <|
        some (([Go.Av.toB (240 + (a1 / 262144)), Go.Av.toB (128 + ((a1 / 4096) % 64)), Go.Av.toB (128 + ((a1 / 64) % 64)), Go.Av.toB (128 + (a1 % 64))] : List UInt8), true)
def iK (F : Nat) (a1 : UInt8) : Option Int :=
bif (decide (48 ≤ (a1.toNat : Int))) && (decide ((a1.toNat : Int) ≤ 57)) then
  some ((a1 - 48).toNat : Int)
else
  bif (decide (97 ≤ (a1.toNat : Int))) && (decide ((a1.toNat : Int) ≤ 102)) then
    grd (okI (((a1 - 97).toNat : Int) + 10)) <|
    some (((a1 - 97).toNat : Int) + 10)
  else
    bif (decide (65 ≤ (a1.toNat : Int))) && (decide ((a1.toNat : Int) ≤ 70)) then
      grd (okI (((a1 - 65).toNat : Int) + 10)) <|
      some (((a1 - 65).toNat : Int) + 10)
    else
      some 99
def fQ (a1 : List UInt8) (y21 : Int) : Option Int :=
bif decide ((a1.length : Int) = 0) then
  some (-1)
else
  some y21
def eQ (y5 : Int) (rec6 : (Int × Int) → Option Int) (y18 : Int) : Option Int :=
grd (okI (y5 + 1)) <|
rec6 (y18, y5 + 1)
def fR (F : Nat) (a1 : List UInt8) (a2 : Int) (rec6 : (Int × Int) → Option Int) (y4 : Int) (y5 : Int) : Option Int :=
bif decide (y5 < (a1.length : Int)) then
  grd (cR y5 a1.length) <|
  lt (at_ a1 y5) fun x10 =>
  bnd (iK F x10) fun x12 =>
  bif decide (a2 ≤ x12) then
    some (-1)
  else
    grd (okI (a2 * y4)) <|
    grd (okI ((a2 * y4) + x12)) <|
    bif decide (1114111 < (a2 * y4) + x12) then
      eQ y5 rec6 1114112
    else
      eQ y5 rec6 ((a2 * y4) + x12)
else
  fQ a1 y4
def dQ (F : Nat) (a1 : List UInt8) (a2 : Int) (n : Nat) : (Int × Int) → Option Int :=
  loop (fun rec x => fR F a1 a2 rec x.1 x.2) n
def eV (F : Nat) (a1 : List UInt8) (a2 : Int) : Option Int :=
dQ F a1 a2 F (0, 0)
def ga (F : Nat) (y28 : Int) : Option ((List UInt8) × Bool) :=
gW (eC F y28) fun x30 x31 =>
some (x30, x31)
def gH (F : Nat) (a1 : List UInt8) : Option ((List UInt8) × Bool) :=
bif decide (a1 = ([97, 109, 112] : List UInt8)) then
  some (([38] : List UInt8), true)
else
  bif decide (a1 = ([108, 116] : List UInt8)) then
    some (([60] : List UInt8), true)
  else
    bif decide (a1 = ([103, 116] : List UInt8)) then
      some (([62] : List UInt8), true)
    else
      bif decide (a1 = ([113, 117, 111, 116] : List UInt8)) then
        some (([34] : List UInt8), true)
      else
        bif decide (a1 = ([97, 112, 111, 115] : List UInt8)) then
          some (([39] : List UInt8), true)
        else
          ff (!(decide ((a1.length : Int) < 2))) (cR 0 a1.length) <|
          lt (at_ a1 0) fun x11 =>
          bif (decide ((a1.length : Int) < 2)) || (!decide (x11 = 35)) then
            some (([] : List UInt8), false)
          else
            grd (kw 1 a1.length) <|
            lt (gk a1 1) fun x15 =>
            bnd (eV F x15 10) fun x17 =>
            grd (cR 1 a1.length) <|
            lt (at_ a1 1) fun x20 =>
            bif decide (x20 = 120) then
              grd (kw 2 a1.length) <|
              lt (gk a1 2) fun x24 =>
              bnd (eV F x24 16) fun x26 =>
              ga F x26
            else
              ga F x17
def ig : Option ((List UInt8) × Bool) :=
some (([] : List UInt8), false)
def ij (a1 : List UInt8) (a2 : Int) (rec7 : Int → Option ((List UInt8) × Bool)) (y6 : Int) : Option ((List UInt8) × Bool) :=
ff (decide (y6 < (a1.length : Int))) (okI (a2 + 11)) <|
bif (decide (y6 < (a1.length : Int))) && (decide (y6 ≤ a2 + 11)) then
  grd (cR y6 a1.length) <|
  lt (at_ a1 y6) fun x13 =>
  bif decide (x13 = 38) then
    some (([] : List UInt8), false)
  else
    grd (cR y6 a1.length) <|
    lt (at_ a1 y6) fun x17 =>
    bif decide (x17 = 59) then
      grd (okI (a2 + 1)) <|
      grd (kE (a2 + 1) y6 a1.length) <|
      lt (sub a1 (a2 + 1) y6) fun x22 =>
      grd (okI (a2 + 1)) <|
      some (x22, decide (a2 + 1 < y6))
    else
      grd (okI (y6 + 1)) <|
      rec7 (y6 + 1)
else
  ig
def ii (a1 : List UInt8) (a2 : Int) (n : Nat) : Int → Option ((List UInt8) × Bool) :=
  loop (fun rec x => ij a1 a2 rec x) n
def kn (F : Nat) (a1 : List UInt8) (a2 : Int) : Option ((List UInt8) × Bool) :=
grd (okI (a2 + 1)) <|
ii a1 a2 F (a2 + 1)
def ic (y40 : List UInt8) (y42 : Bool) : Option ((List UInt8) × Bool) :=
some (y40, y42)
def gb (a1 : List UInt8) (y5 : List UInt8) (y8 : Int) (rec9 : ((List UInt8) × Bool × Int) → Option ((List UInt8) × Bool)) (y30 : Bool) : Option ((List UInt8) × Bool) :=
grd (cR y8 a1.length) <|
lt (at_ a1 y8) fun x33 =>
grd (gQ (y5.length + ([x33] : List UInt8).length)) <|
lt (y5 ++ ([x33] : List UInt8)) fun x37 =>
grd (okI (y8 + 1)) <|
rec9 (x37, y30, y8 + 1)
def ie (F : Nat) (a1 : List UInt8) (rec9 : ((List UInt8) × Bool × Int) → Option ((List UInt8) × Bool)) (y5 : List UInt8) (y7 : Bool) (y8 : Int) : Option ((List UInt8) × Bool) :=
bif decide (y8 < (a1.length : Int)) then
  grd (cR y8 a1.length) <|
  lt (at_ a1 y8) fun x13 =>
  bif decide (x13 = 38) then
    gW (kn F a1 y8) fun x16 x17 =>
    gW (gH F x16) fun x19 x20 =>
    bif x17 && x20 then
      grd (gQ (y5.length + x19.length)) <|
      lt (y5 ++ x19) fun x26 =>
      grd (okI (y8 + (x16.length : Int))) <|
      grd (okI ((y8 + (x16.length : Int)) + 2)) <|
      rec9 (x26, y7, (y8 + (x16.length : Int)) + 2)
    else
      gb a1 y5 y8 rec9 false
  else
    gb a1 y5 y8 rec9 y7
else
  ic y5 y7
def fc (F : Nat) (a1 : List UInt8) (n : Nat) : ((List UInt8) × Bool × Int) → Option ((List UInt8) × Bool) :=
  loop (fun rec x => ie F a1 rec x.1 x.2.1 x.2.2) n
def km (F : Nat) (a1 : List UInt8) : Option ((List UInt8) × Bool) :=
fc F a1 F ([], true, 0)
def gN (F : Nat) (a1 : List UInt8) : Option ((List UInt8) × Int) :=
gW (km F a1) fun x4 x5 =>
bif !x5 then
  some (([] : List UInt8), 2)
else
  some (x4, 0)
end Go.Pv
namespace Go.Proofs.YteokdkimegepoaaGreatDoor
open Go.RowKit Go.Av Go.Pv
theorem vZ : ∀ (args : Array Value) (w : World), (callFunc 97 args).run Tryz.prog w = .ok (.enter 97 args) w := fun _ _ => by kernel_rfl
theorem uZ : ∀ (args : Array Value) (w : World), (callFunc 112 args).run Tryz.prog w = .ok (.enter 112 args) w := fun _ _ => by kernel_rfl
theorem uY : ∀ (args : Array Value) (w : World), (callFunc 113 args).run Tryz.prog w = .ok (.enter 113 args) w := fun _ _ => by kernel_rfl
theorem qn : ∀ (args : Array Value) (w : World), (callFunc 125 args).run Tryz.prog w = .ok (.enter 125 args) w := fun _ _ => by kernel_rfl
theorem uW : ∀ (args : Array Value) (w : World), (callFunc 126 args).run Tryz.prog w = .ok (.enter 126 args) w := fun _ _ => by kernel_rfl
theorem uT : ∀ (args : Array Value) (w : World), (callFunc 137 args).run Tryz.prog w = .ok (.enter 137 args) w := fun _ _ => by kernel_rfl
set_option maxRecDepth 100000 in
set_option maxHeartbeats 1000000 in
theorem jx (F : Nat) (a1 : UInt8) (r2 : Bool) (H : jG F a1 = some r2) : ACalls Tryz.prog 75 [u8 a1] [] (Ret (B r2) []) := by
 unfold jG at H
 refine aw Tryz.func75 rfl rfl ?_;show AW _ _ 17 _ _ _;refine af <| aa ?_;show AR _ _ _ _ _ [0] _;refine za rfl <| aj <| af <| aa ?_;show AR _ _ _ _ _ [0, 1, 2, 3, 4, 5, 6, 7, 8, 9, 10, 11, 12, 13, 14] _;refine zm rfl <| zS rfl (fw (a := a1) (b := 9) rfl rfl) <| zm rfl <| bf (l := [6, 7, 8, 9, 10, 11, 12, 13, 14]) 8 (B ((decide (a1 = 9)) || (decide (a1 = 10)))) (fun K => ?_) ?_
 ·rcases am (decide (a1 = 9)) with h3 | h3
  ·refine zF h3 rfl <| zF h3 rfl <| zS rfl (aB (av := .v _) rfl h3 rfl) ?_;exact K _ 2 _ (au (iU h3)) rfl rfl
  ·refine zM h3 rfl <| zU h3 rfl (fw (a := a1) (b := 10) rfl rfl) <| zS rfl (aD (av := .v _) rfl h3 rfl) ?_;exact K _ 2 _ (au (iD h3)) rfl rfl
 refine zm rfl <| bf (l := [10, 11, 12, 13, 14]) 12 (B (((decide (a1 = 9)) || (decide (a1 = 10))) || (decide (a1 = 13)))) (fun K => ?_) ?_
 ·rcases am ((decide (a1 = 9)) || (decide (a1 = 10))) with h4 | h4
  ·refine zF h4 rfl <| zF h4 rfl <| zS rfl (aB (av := .v _) rfl h4 rfl) ?_;exact K _ 2 _ (au (iU h4)) rfl rfl
  ·refine zM h4 rfl <| zU h4 rfl (fw (a := a1) (b := 13) rfl rfl) <| zS rfl (aD (av := .v _) rfl h4 rfl) ?_;exact K _ 2 _ (au (iD h4)) rfl rfl
 refine zm rfl <| bf (l := [14]) 16 (B ((((decide (a1 = 9)) || (decide (a1 = 10))) || (decide (a1 = 13))) || (decide (a1 = 32)))) (fun K => ?_) ?_
 ·rcases am (((decide (a1 = 9)) || (decide (a1 = 10))) || (decide (a1 = 13))) with h5 | h5
  ·refine zF h5 rfl <| zF h5 rfl <| zS rfl (aB (av := .v _) rfl h5 rfl) ?_;exact K _ 2 _ (au (iU h5)) rfl rfl
  ·refine zM h5 rfl <| zU h5 rfl (fw (a := a1) (b := 32) rfl rfl) <| zS rfl (aD (av := .v _) rfl h5 rfl) ?_;exact K _ 2 _ (au (iD h5)) rfl rfl
 refine za rfl <| aj <| aK ?_;obtain rfl := ap H;exact And.intro rfl (Exists.intro _ (Exists.intro _ ⟨aJ rfl (.refl _), aH [] rfl, rfl, rfl⟩))
set_option maxRecDepth 100000 in
set_option maxHeartbeats 1000000 in
theorem sv (F : Nat) (a1 : Int) (r2 : List UInt8) (r3 : Bool) (H : eC F a1 = some (r2, r3)) : ACalls Tryz.prog 126 [i64 a1] [] (Ret (.tup [S r2, B r3]) []) := by
 unfold eC at H
 refine aw Tryz.func126 rfl rfl ?_;show AW _ _ 98 _ _ _;refine af <| aa ?_;show AR _ _ _ _ _ [0, 1] _;refine za rfl <| za rfl <| aj <| af <| aa ?_;show AR _ _ _ _ _ [0, 1, 2, 3, 4, 5, 6, 7, 8, 9, 10, 11, 12, 13, 14, 15, 16, 17, 18] _;refine zm rfl <| zS rfl (bC rfl rfl) <| zm rfl <| bf (l := [6, 7, 8, 9, 10, 11, 12, 13, 14, 15, 16, 17, 18]) 10 (B ((decide (a1 = 9)) || (decide (a1 = 10)))) (fun K => ?_) ?_
 ·rcases am (decide (a1 = 9)) with h4 | h4
  ·refine zF h4 rfl <| zF h4 rfl <| zS rfl (aB (av := .v _) rfl h4 rfl) ?_;exact K _ 2 _ (au (iU h4)) rfl rfl
  ·refine zM h4 rfl <| zU h4 rfl (bC rfl rfl) <| zS rfl (aD (av := .v _) rfl h4 rfl) ?_;exact K _ 2 _ (au (iD h4)) rfl rfl
 refine zm rfl <| bf (l := [10, 11, 12, 13, 14, 15, 16, 17, 18]) 14 (B (((decide (a1 = 9)) || (decide (a1 = 10))) || (decide (a1 = 13)))) (fun K => ?_) ?_
 ·rcases am ((decide (a1 = 9)) || (decide (a1 = 10))) with h5 | h5
  ·refine zF h5 rfl <| zF h5 rfl <| zS rfl (aB (av := .v _) rfl h5 rfl) ?_;exact K _ 2 _ (au (iU h5)) rfl rfl
  ·refine zM h5 rfl <| zU h5 rfl (bC rfl rfl) <| zS rfl (aD (av := .v _) rfl h5 rfl) ?_;exact K _ 2 _ (au (iD h5)) rfl rfl
 refine zm rfl <| bf (l := [18]) 22 (B ((((decide (a1 = 9)) || (decide (a1 = 10))) || (decide (a1 = 13))) || ((decide (32 ≤ a1)) && (decide (a1 ≤ 55295))))) (fun K => ?_) ?_
 ·rcases am (((decide (a1 = 9)) || (decide (a1 = 10))) || (decide (a1 = 13))) with h6 | h6
  ·refine zF h6 rfl <| zF h6 rfl <| zF h6 rfl <| gU rfl rfl rfl rfl rfl <| gU rfl rfl rfl rfl rfl <| zF h6 rfl <| zS rfl (aB (av := .v _) rfl h6 rfl) ?_;exact K _ 6 _ (au (iU h6)) rfl rfl
  ·refine zM h6 rfl <| zU h6 rfl (dd rfl rfl) <| zM h6 rfl <| bf (l := [17, 18]) 21 (B ((decide (32 ≤ a1)) && (decide (a1 ≤ 55295)))) (fun K => ?_) ?_
   ·rcases am (decide (32 ≤ a1)) with h7 | h7
    ·refine zM h7 rfl <| zU h7 rfl (dC rfl rfl) <| zU h6 rfl (aB (av := .v _) rfl h7 rfl) ?_;exact K _ 2 _ (au (bN h7)) rfl rfl
    ·refine zF h7 rfl <| zF h7 rfl <| zU h6 rfl (aD (av := .v _) rfl h7 rfl) ?_;exact K _ 2 _ (au (ca h7)) rfl rfl
   refine zS rfl (aD (av := .v _) rfl h6 rfl) ?_;exact K _ 4 _ (au (iD h6)) rfl rfl
 refine za rfl <| aj <| af <| af <| aa ?_;show AR _ _ _ _ _ [0, 1, 2, 3, 4, 5, 6, 7, 8, 9, 10, 11, 12, 13, 14, 15, 16, 17, 18, 19] _;refine zm rfl <| zS rfl (bS rfl) <| zm rfl <| bf (l := [11, 12, 13, 14, 15, 16, 17, 18, 19]) 33 (B ((!((((decide (a1 = 9)) || (decide (a1 = 10))) || (decide (a1 = 13))) || ((decide (32 ≤ a1)) && (decide (a1 ≤ 55295))))) && (!((decide (57344 ≤ a1)) && (decide (a1 ≤ 65533)))))) (fun K => ?_) ?_
 ·rcases am (!((((decide (a1 = 9)) || (decide (a1 = 10))) || (decide (a1 = 13))) || ((decide (32 ≤ a1)) && (decide (a1 ≤ 55295))))) with h8 | h8
  ·refine zM h8 rfl <| zU h8 rfl (dd rfl rfl) <| zM h8 rfl <| bf (l := [9, 10, 11, 12, 13, 14, 15, 16, 17, 18, 19]) 31 (B ((decide (57344 ≤ a1)) && (decide (a1 ≤ 65533)))) (fun K => ?_) ?_
   ·rcases am (decide (57344 ≤ a1)) with h9 | h9
    ·refine zM h9 rfl <| zU h9 rfl (dC rfl rfl) <| zU h8 rfl (aB (av := .v _) rfl h9 rfl) ?_;exact K _ 2 _ (au (bN h9)) rfl rfl
    ·refine zF h9 rfl <| zF h9 rfl <| zU h8 rfl (aD (av := .v _) rfl h9 rfl) ?_;exact K _ 2 _ (au (ca h9)) rfl rfl
   refine zU h8 rfl (bS rfl) <| zS rfl (aB (av := .v _) rfl h8 rfl) ?_;exact K _ 5 _ (au (bN h8)) rfl rfl
  ·refine zF h8 rfl <| zF h8 rfl <| zF h8 rfl <| gU rfl rfl rfl rfl rfl <| gU rfl rfl rfl rfl rfl <| zF h8 rfl <| zF h8 rfl <| zS rfl (aD (av := .v _) rfl h8 rfl) ?_;exact K _ 7 _ (au (ca h8)) rfl rfl
 refine zm rfl <| bf (l := []) 42 (B (((!((((decide (a1 = 9)) || (decide (a1 = 10))) || (decide (a1 = 13))) || ((decide (32 ≤ a1)) && (decide (a1 ≤ 55295))))) && (!((decide (57344 ≤ a1)) && (decide (a1 ≤ 65533))))) && (!((decide (65536 ≤ a1)) && (decide (a1 ≤ 1114111)))))) (fun K => ?_) ?_
 ·rcases am ((!((((decide (a1 = 9)) || (decide (a1 = 10))) || (decide (a1 = 13))) || ((decide (32 ≤ a1)) && (decide (a1 ≤ 55295))))) && (!((decide (57344 ≤ a1)) && (decide (a1 ≤ 65533))))) with h10 | h10
  ·refine zM h10 rfl <| zU h10 rfl (dd rfl rfl) <| zM h10 rfl <| bf (l := [18, 19]) 40 (B ((decide (65536 ≤ a1)) && (decide (a1 ≤ 1114111)))) (fun K => ?_) ?_
   ·rcases am (decide (65536 ≤ a1)) with h11 | h11
    ·refine zM h11 rfl <| zU h11 rfl (dC rfl rfl) <| zU h10 rfl (aB (av := .v _) rfl h11 rfl) ?_;exact K _ 2 _ (au (bN h11)) rfl rfl
    ·refine zF h11 rfl <| zF h11 rfl <| zU h10 rfl (aD (av := .v _) rfl h11 rfl) ?_;exact K _ 2 _ (au (ca h11)) rfl rfl
   refine zU h10 rfl (bS rfl) <| zS rfl (aB (av := .v _) rfl h10 rfl) ?_;exact K _ 5 _ (au (bN h10)) rfl rfl
  ·refine zF h10 rfl <| zF h10 rfl <| zF h10 rfl <| gU rfl rfl rfl rfl rfl <| gU rfl rfl rfl rfl rfl <| zF h10 rfl <| zF h10 rfl <| zS rfl (aD (av := .v _) rfl h10 rfl) ?_;exact K _ 7 _ (au (ca h10)) rfl rfl
 refine aj <| ay rfl (fun c12 => ?_) (fun c12 => ?_)
 ·replace H := aZ c12 H;refine af <| aa ?_;show AR _ _ _ _ _ [0, 1] _;refine za rfl <| za rfl <| aj <| aK ?_;obtain ⟨rfl, rfl⟩ := dX H;exact And.intro rfl (Exists.intro _ (Exists.intro _ ⟨bj rfl (.refl _) (.refl _), aH [] rfl, rfl, rfl⟩))
 ·replace H := ba c12 H;refine aC <| af <| af <| aa ?_;show AR _ _ _ _ _ [0, 1] _;refine zm rfl <| zS rfl (bQ rfl rfl) <| aj <| ay rfl (fun c13 => ?_) (fun c13 => ?_)
  ·replace H := aZ c13 H;refine af <| aa ?_;show AR _ _ _ _ _ [0, 1, 2, 3, 4, 5] _;refine zm rfl <| zS rfl (dU (by kernel_rfl) bp rfl) <| zR rfl (cP (E := Enc.byte) (bytes := 1) (xs := [.tmp 46]) (l := ([Go.Av.toB a1] : List UInt8)) an (by kernel_rfl) rfl rfl (by decide) rfl rfl) <| zS rfl (da an bp ac rfl) <| za rfl <| za rfl <| aj <| aK ?_;obtain ⟨rfl, rfl⟩ := dX H;exact And.intro rfl (Exists.intro _ (Exists.intro _ ⟨bj rfl (.refl _) (.refl _), aH [] rfl, rfl, rfl⟩))
  ·replace H := ba c13 H;refine aC <| af <| af <| aa ?_;show AR _ _ _ _ _ [0, 1] _;refine zm rfl <| zS rfl (bQ rfl rfl) <| aj <| ay rfl (fun c14 => ?_) (fun c14 => ?_)
   ·replace H := aZ c14 H;refine af ?_;obtain ⟨g15, H⟩ := aP H;obtain ⟨g16, H⟩ := aP H;obtain ⟨g17, H⟩ := aP H;obtain ⟨g18, H⟩ := aP H;refine aa ?_;show AR _ _ _ _ _ [0, 1, 2, 3, 4, 5, 6, 7, 8, 9, 10, 11] _;refine zm rfl <| zS rfl (sJ rfl rfl g15) <| zS rfl (bD rfl rfl g16) <| zS rfl (dU (by kernel_rfl) bp rfl) <| zm rfl <| zS rfl (sI rfl rfl g17) <| zS rfl (bD rfl rfl g18) <| zS rfl (dU (by kernel_rfl) bp rfl) <| zR rfl (cP (E := Enc.byte) (bytes := 1) (xs := [.tmp 54, .tmp 58]) (l := ([Go.Av.toB (192 + (a1 / 64)), Go.Av.toB (128 + (a1 % 64))] : List UInt8)) an (by kernel_rfl) rfl rfl (by decide) rfl rfl) <| zS rfl (da an bp ac rfl) <| za rfl <| za rfl <| aj <| aK ?_;obtain ⟨rfl, rfl⟩ := dX H;exact And.intro rfl (Exists.intro _ (Exists.intro _ ⟨bj rfl (.refl _) (.refl _), aH [] rfl, rfl, rfl⟩))
   ·replace H := ba c14 H;refine aC <| af <| af <| aa ?_;show AR _ _ _ _ _ [0, 1] _;refine zm rfl <| zS rfl (bQ rfl rfl) <| aj <| ay rfl (fun c19 => ?_) (fun c19 => ?_)
    ·replace H := aZ c19 H;refine af ?_;obtain ⟨g20, H⟩ := aP H;obtain ⟨g21, H⟩ := aP H;obtain ⟨g22, H⟩ := aP H;obtain ⟨g23, H⟩ := aP H;obtain ⟨g24, H⟩ := aP H;obtain ⟨g25, H⟩ := aP H;obtain ⟨g26, H⟩ := aP H;refine aa ?_;show AR _ _ _ _ _ [0, 1, 2, 3, 4, 5, 6, 7, 8, 9, 10, 11, 12, 13, 14, 15, 16] _;refine zm rfl <| zS rfl (sJ rfl rfl g20) <| zS rfl (bD rfl rfl g21) <| zS rfl (dU (by kernel_rfl) bp rfl) <| zm rfl <| zS rfl (sJ rfl rfl g22) <| zS rfl (sI rfl rfl g23) <| zS rfl (bD rfl rfl g24) <| zS rfl (dU (by kernel_rfl) bp rfl) <| zm rfl <| zS rfl (sI rfl rfl g25) <| zS rfl (bD rfl rfl g26) <| zS rfl (dU (by kernel_rfl) bp rfl) <| zR rfl (cP (E := Enc.byte) (bytes := 1) (xs := [.tmp 66, .tmp 71, .tmp 75]) (l := ([Go.Av.toB (224 + (a1 / 4096)), Go.Av.toB (128 + ((a1 / 64) % 64)), Go.Av.toB (128 + (a1 % 64))] : List UInt8)) an (by kernel_rfl) rfl rfl (by decide) rfl rfl) <| zS rfl (da an bp ac rfl) <| za rfl <| za rfl <| aj <| aK ?_;obtain ⟨rfl, rfl⟩ := dX H;exact And.intro rfl (Exists.intro _ (Exists.intro _ ⟨bj rfl (.refl _) (.refl _), aH [] rfl, rfl, rfl⟩))
    ·replace H := ba c19 H;refine aC <| af ?_;obtain ⟨g27, H⟩ := aP H;obtain ⟨g28, H⟩ := aP H;obtain ⟨g29, H⟩ := aP H;obtain ⟨g30, H⟩ := aP H;obtain ⟨g31, H⟩ := aP H;obtain ⟨g32, H⟩ := aP H;obtain ⟨g33, H⟩ := aP H;obtain ⟨g34, H⟩ := aP H;obtain ⟨g35, H⟩ := aP H;obtain ⟨g36, H⟩ := aP H;refine aa ?_;show AR _ _ _ _ _ [0, 1, 2, 3, 4, 5, 6, 7, 8, 9, 10, 11, 12, 13, 14, 15, 16, 17, 18, 19, 20, 21] _;refine zm rfl <| zS rfl (sJ rfl rfl g27) <| zS rfl (bD rfl rfl g28) <| zS rfl (dU (by kernel_rfl) bp rfl) <| zm rfl <| zS rfl (sJ rfl rfl g29) <| zS rfl (sI rfl rfl g30) <| zS rfl (bD rfl rfl g31) <| zS rfl (dU (by kernel_rfl) bp rfl) <| zm rfl <| zS rfl (sJ rfl rfl g32) <| zS rfl (sI rfl rfl g33) <| zS rfl (bD rfl rfl g34) <| zS rfl (dU (by kernel_rfl) bp rfl) <| zm rfl <| zS rfl (sI rfl rfl g35) <| zS rfl (bD rfl rfl g36) <| zS rfl (dU (by kernel_rfl) bp rfl) <| zR rfl (cP (E := Enc.byte) (bytes := 1) (xs := [.tmp 81, .tmp 86, .tmp 91, .tmp 95]) (l := ([Go.Av.toB (240 + (a1 / 262144)), Go.Av.toB (128 + ((a1 / 4096) % 64)), Go.Av.toB (128 + ((a1 / 64) % 64)), Go.Av.toB (128 + (a1 % 64))] : List UInt8)) an (by kernel_rfl) rfl rfl (by decide) rfl rfl) <| zS rfl (da an bp ac rfl) <| za rfl <| za rfl <| aj <| aK ?_;obtain ⟨rfl, rfl⟩ := dX H
     exact And.intro rfl (Exists.intro _ (Exists.intro _ ⟨bj rfl (.refl _) (.refl _), aH [] rfl, rfl, rfl⟩))
set_option maxRecDepth 100000 in
set_option maxHeartbeats 1000000 in
theorem qQ (F : Nat) (a1 : UInt8) (r2 : Int) (H : iK F a1 = some r2) : ACalls Tryz.prog 137 [u8 a1] [] (Ret (i64 r2) []) := by
 unfold iK at H
 refine aw Tryz.func137 rfl rfl ?_;show AW _ _ 32 _ _ _;refine af <| aa ?_;show AR _ _ _ _ _ [0] _;refine za rfl <| aj <| af <| af <| aa ?_;show AR _ _ _ _ _ [0, 1, 2, 3, 4, 5] _;refine zm rfl <| zS rfl (dd rfl rfl) <| zm rfl <| bf (l := []) 8 (B ((decide (48 ≤ (a1.toNat : Int))) && (decide ((a1.toNat : Int) ≤ 57)))) (fun K => ?_) ?_
 ·rcases am (decide (48 ≤ (a1.toNat : Int))) with h3 | h3
  ·refine zM h3 rfl <| zU h3 rfl (dC rfl rfl) <| zS rfl (aB (av := .v _) rfl h3 rfl) ?_;exact K _ 2 _ (au (bN h3)) rfl rfl
  ·refine zF h3 rfl <| zF h3 rfl <| zS rfl (aD (av := .v _) rfl h3 rfl) ?_;exact K _ 2 _ (au (ca h3)) rfl rfl
 refine aj <| ay rfl (fun c4 => ?_) (fun c4 => ?_)
 ·replace H := aZ c4 H;refine af <| aa ?_;show AR _ _ _ _ _ [0, 1, 2, 3] _;refine zm rfl <| zS rfl (qD (a := a1) (b := 48) rfl rfl) <| zS rfl (lY (c := a1 - 48) (by kernel_rfl) ar rfl) <| za rfl <| aj <| aK ?_;obtain rfl := ap H;exact And.intro rfl (Exists.intro _ (Exists.intro _ ⟨aJ rfl (.refl _), aH [] rfl, rfl, rfl⟩))
 ·replace H := ba c4 H;refine aC <| af <| af <| aa ?_;show AR _ _ _ _ _ [0, 1, 2, 3, 4, 5] _;refine zm rfl <| zS rfl (dd rfl rfl) <| zm rfl <| bf (l := []) 17 (B ((decide (97 ≤ (a1.toNat : Int))) && (decide ((a1.toNat : Int) ≤ 102)))) (fun K => ?_) ?_
  ·rcases am (decide (97 ≤ (a1.toNat : Int))) with h5 | h5
   ·refine zM h5 rfl <| zU h5 rfl (dC rfl rfl) <| zS rfl (aB (av := .v _) rfl h5 rfl) ?_;exact K _ 2 _ (au (bN h5)) rfl rfl
   ·refine zF h5 rfl <| zF h5 rfl <| zS rfl (aD (av := .v _) rfl h5 rfl) ?_;exact K _ 2 _ (au (ca h5)) rfl rfl
  refine aj <| ay rfl (fun c6 => ?_) (fun c6 => ?_)
  ·replace H := aZ c6 H;refine af ?_;obtain ⟨g7, H⟩ := aP H;refine aa ?_;show AR _ _ _ _ _ [0, 1, 2, 3, 4] _;refine zm rfl <| zS rfl (qD (a := a1) (b := 97) rfl rfl) <| zS rfl (lY (c := a1 - 97) (by kernel_rfl) ar rfl) <| zS rfl (bD rfl rfl g7) <| za rfl <| aj <| aK ?_;obtain rfl := ap H;exact And.intro rfl (Exists.intro _ (Exists.intro _ ⟨aJ rfl (.refl _), aH [] rfl, rfl, rfl⟩))
  ·replace H := ba c6 H;refine aC <| af <| af <| aa ?_;show AR _ _ _ _ _ [0, 1, 2, 3, 4, 5] _;refine zm rfl <| zS rfl (dd rfl rfl) <| zm rfl <| bf (l := []) 27 (B ((decide (65 ≤ (a1.toNat : Int))) && (decide ((a1.toNat : Int) ≤ 70)))) (fun K => ?_) ?_
   ·rcases am (decide (65 ≤ (a1.toNat : Int))) with h8 | h8
    ·refine zM h8 rfl <| zU h8 rfl (dC rfl rfl) <| zS rfl (aB (av := .v _) rfl h8 rfl) ?_;exact K _ 2 _ (au (bN h8)) rfl rfl
    ·refine zF h8 rfl <| zF h8 rfl <| zS rfl (aD (av := .v _) rfl h8 rfl) ?_;exact K _ 2 _ (au (ca h8)) rfl rfl
   refine aj <| ay rfl (fun c9 => ?_) (fun c9 => ?_)
   ·replace H := aZ c9 H;refine af ?_;obtain ⟨g10, H⟩ := aP H;refine aa ?_;show AR _ _ _ _ _ [0, 1, 2, 3, 4] _;refine zm rfl <| zS rfl (qD (a := a1) (b := 65) rfl rfl) <| zS rfl (lY (c := a1 - 65) (by kernel_rfl) ar rfl) <| zS rfl (bD rfl rfl g10) <| za rfl <| aj <| aK ?_;obtain rfl := ap H;exact And.intro rfl (Exists.intro _ (Exists.intro _ ⟨aJ rfl (.refl _), aH [] rfl, rfl, rfl⟩))
   ·replace H := ba c9 H;refine aC <| af <| aa ?_;show AR _ _ _ _ _ [0] _;refine za rfl <| aj <| aK ?_;obtain rfl := ap H;exact And.intro rfl (Exists.intro _ (Exists.intro _ ⟨aJ rfl (.refl _), aH [] rfl, rfl, rfl⟩))
set_option maxRecDepth 100000 in
set_option maxHeartbeats 1000000 in
theorem lR (F : Nat) (a1 : List UInt8) (a2 : Int) (r3 : Int) (H : eV F a1 a2 = some r3) : ACalls Tryz.prog 125 [S a1, i64 a2] [] (Ret (i64 r3) []) := by
 unfold eV at H
 refine aw Tryz.func125 rfl rfl ?_;show AW _ _ 32 _ _ _;refine af <| aa ?_;show AR _ _ _ _ _ [0] _;refine za rfl <| aj <| af <| aa ?_;show AR _ _ _ _ _ [0] _;refine za rfl <| aj <| bt (X := Int) (fun y21 => ⟨[(0, S a1), (5, i64 y21)], [], []⟩) (fun y21 => fQ a1 y21 = some r3) ?_ ?_
 ·refine af <| aa ?_;show AR _ _ _ _ _ [0] _;refine za rfl <| aj <| aX <| cA (X := Nat × Int × Int) (fun (n7, y4, y5) => ⟨[(0, S a1), (1, i64 a2), (5, i64 y4), (6, i64 y5)], [], []⟩) (fun (n7, y4, y5) => dQ F a1 a2 n7 (y4, y5) = some r3) (fun (n7, y4, y5) => n7) (F, 0, 0) H (aQ [] (.cons (.refl _) (.cons (.refl _) (.cons (.refl _) (.cons (.refl _) (.nil _))))) rfl) ?_;rintro ⟨n7, y4, y5⟩ H;obtain ⟨n7, rfl, H⟩ := dx H;replace H : fR F a1 a2 (dQ F a1 a2 n7) y4 y5 = some r3 := H
  unfold fR at H
  refine af <| af <| aa ?_;show AR _ _ _ _ _ [0, 1, 2, 3] _;refine zm rfl <| zm rfl <| zS rfl (aW ac rfl) <| zS rfl (bQ rfl rfl) <| aj <| ay rfl (fun c8 => ?_) (fun c8 => ?_)
  ·replace H := aZ c8 H;refine aC <| bt (X := Int) (fun y18 => ⟨[(0, S a1), (1, i64 a2), (5, i64 y18), (6, i64 y5)], [], []⟩) (fun y18 => eQ y5 (dQ F a1 a2 n7) y18 = some r3) ?_ ?_
   ·refine aX <| af ?_;obtain ⟨g9, H⟩ := aP H;obtain ⟨x10, e11, H⟩ := bM H;obtain ⟨x12, e13, H⟩ := ci H;refine aa ?_;show AR _ _ _ _ _ [0, 1, 2, 3, 4] _;refine zm rfl <| zm rfl <| zS rfl (bb ac rfl rfl g9 e11) <| aq rfl rfl (aO rfl uT rfl (qQ F x10 x12 e13) ?_);refine za rfl <| aj <| af <| af <| aa ?_;show AR _ _ _ _ _ [0, 1, 2] _;refine zm rfl <| zm rfl <| zS rfl (dd rfl rfl) <| aj <| ay rfl (fun c14 => ?_) (fun c14 => ?_)
    ·replace H := aZ c14 H;refine af <| aa ?_;show AR _ _ _ _ _ [0] _;refine za rfl <| aj <| aK ?_;obtain rfl := ap H;exact And.intro rfl (Exists.intro _ (Exists.intro _ ⟨aJ rfl (.refl _), aH [] rfl, rfl, rfl⟩))
    ·replace H := ba c14 H;refine aC <| af ?_;obtain ⟨g15, H⟩ := aP H;obtain ⟨g16, H⟩ := aP H;refine aa ?_;show AR _ _ _ _ _ [0, 1, 2, 3, 4, 5] _;refine zm rfl <| zm rfl <| zS rfl (g_mul rfl rfl g15) <| zm rfl <| zS rfl (bD rfl rfl g16) <| za rfl <| aj <| af <| aa ?_;show AR _ _ _ _ _ [0, 1] _;refine zm rfl <| zS rfl (gg rfl rfl) <| aj <| ay rfl (fun c17 => ?_) (fun c17 => ?_)
     ·replace H := aZ c17 H;refine aa ?_;show AR _ _ _ _ _ [0] _;refine za rfl <| aj ?_;exact Exists.intro 1114112 ⟨H, aQ [] (.cons (.refl _) (.cons (.refl _) (.cons (.refl _) (.cons (.refl _) (.nil _))))) rfl⟩
     ·replace H := ba c17 H;refine aC ?_;exact Exists.intro ((a2 * y4) + x12) ⟨H, aQ [] (.cons (.refl _) (.cons (.refl _) (.cons (.refl _) (.cons (.refl _) (.nil _))))) rfl⟩
   rintro y18 H;replace H : eQ y5 (dQ F a1 a2 n7) y18 = some r3 := H
   unfold eQ at H
   obtain ⟨g20, H⟩ := aP H;refine aa ?_;show AR _ _ _ _ _ [0, 1, 2] _;refine zm rfl <| zS rfl (bD rfl rfl g20) <| za rfl <| aj ?_;exact Exists.intro (n7, y18, y5 + 1) ⟨H, Nat.lt_succ_self _, aQ [] (.cons (.refl _) (.cons (.refl _) (.cons (.refl _) (.cons (.refl _) (.nil _))))) rfl⟩
  ·replace H := ba c8 H;refine bW ?_;exact Exists.intro y4 ⟨H, aQ [] (.cons (.refl _) (.cons (.refl _) (.nil _))) rfl⟩
 rintro y21 H;replace H : fQ a1 y21 = some r3 := H
 unfold fQ at H
 refine af <| af <| aa ?_;show AR _ _ _ _ _ [0, 1, 2] _;refine zm rfl <| zS rfl (aW ac rfl) <| zS rfl (bC rfl rfl) <| aj <| ay rfl (fun c23 => ?_) (fun c23 => ?_)
 ·replace H := aZ c23 H;refine af <| aa ?_;show AR _ _ _ _ _ [0] _;refine za rfl <| aj <| aK ?_;obtain rfl := ap H;exact And.intro rfl (Exists.intro _ (Exists.intro _ ⟨aJ rfl (.refl _), aH [] rfl, rfl, rfl⟩))
 ·replace H := ba c23 H;refine aC <| af <| aa ?_;show AR _ _ _ _ _ [0, 1] _;refine zm rfl <| za rfl <| aj <| aK ?_;obtain rfl := ap H;exact And.intro rfl (Exists.intro _ (Exists.intro _ ⟨aJ rfl (.refl _), aH [] rfl, rfl, rfl⟩))
set_option maxRecDepth 100000 in
set_option maxHeartbeats 1000000 in
theorem sr (F : Nat) (a1 : List UInt8) (r2 : List UInt8) (r3 : Bool) (H : gH F a1 = some (r2, r3)) : ACalls Tryz.prog 113 [S a1] [] (Ret (.tup [S r2, B r3]) []) := by
 unfold gH at H
 refine aw Tryz.func113 rfl rfl ?_;show AW _ _ 42 _ _ _;refine af <| aa ?_;show AR _ _ _ _ _ [0, 1] _;refine za rfl <| za rfl <| aj <| af <| af <| aa ?_;show AR _ _ _ _ _ [0] _;refine zm rfl <| aj <| aX <| af <| aa ?_;show AR _ _ _ _ _ [0, 1] _;refine zS rfl (cm rfl rfl) <| za rfl <| aj <| ay rfl (fun c4 => ?_) (fun c4 => ?_)
 ·replace H := aZ c4 H;refine af <| aa ?_;show AR _ _ _ _ _ [0, 1] _;refine za rfl <| za rfl <| aj <| aK ?_;obtain ⟨rfl, rfl⟩ := dX H;exact And.intro rfl (Exists.intro _ (Exists.intro _ ⟨bj rfl (.refl _) (.refl _), aH [] rfl, rfl, rfl⟩))
 ·replace H := ba c4 H;refine af <| aa ?_;show AR _ _ _ _ _ [0, 1] _;refine zS rfl (cm rfl rfl) <| za rfl <| aj <| ay rfl (fun c5 => ?_) (fun c5 => ?_)
  ·replace H := aZ c5 H;refine af <| aa ?_;show AR _ _ _ _ _ [0, 1] _;refine za rfl <| za rfl <| aj <| aK ?_;obtain ⟨rfl, rfl⟩ := dX H;exact And.intro rfl (Exists.intro _ (Exists.intro _ ⟨bj rfl (.refl _) (.refl _), aH [] rfl, rfl, rfl⟩))
  ·replace H := ba c5 H;refine af <| aa ?_;show AR _ _ _ _ _ [0, 1] _;refine zS rfl (cm rfl rfl) <| za rfl <| aj <| ay rfl (fun c6 => ?_) (fun c6 => ?_)
   ·replace H := aZ c6 H;refine af <| aa ?_;show AR _ _ _ _ _ [0, 1] _;refine za rfl <| za rfl <| aj <| aK ?_;obtain ⟨rfl, rfl⟩ := dX H;exact And.intro rfl (Exists.intro _ (Exists.intro _ ⟨bj rfl (.refl _) (.refl _), aH [] rfl, rfl, rfl⟩))
   ·replace H := ba c6 H;refine af <| aa ?_;show AR _ _ _ _ _ [0, 1] _;refine zS rfl (cm rfl rfl) <| za rfl <| aj <| ay rfl (fun c7 => ?_) (fun c7 => ?_)
    ·replace H := aZ c7 H;refine af <| aa ?_;show AR _ _ _ _ _ [0, 1] _;refine za rfl <| za rfl <| aj <| aK ?_;obtain ⟨rfl, rfl⟩ := dX H;exact And.intro rfl (Exists.intro _ (Exists.intro _ ⟨bj rfl (.refl _) (.refl _), aH [] rfl, rfl, rfl⟩))
    ·replace H := ba c7 H;refine af <| aa ?_;show AR _ _ _ _ _ [0, 1] _;refine zS rfl (cm rfl rfl) <| za rfl <| aj <| ay rfl (fun c8 => ?_) (fun c8 => ?_)
     ·replace H := aZ c8 H;refine af <| aa ?_;show AR _ _ _ _ _ [0, 1] _;refine za rfl <| za rfl <| aj <| aK ?_;obtain ⟨rfl, rfl⟩ := dX H;exact And.intro rfl (Exists.intro _ (Exists.intro _ ⟨bj rfl (.refl _) (.refl _), aH [] rfl, rfl, rfl⟩))
     ·replace H := ba c8 H;refine aC <| af <| af ?_;obtain ⟨g10, H⟩ := cG H;obtain ⟨x11, e12, H⟩ := bM H;refine aa ?_;show AR _ _ _ _ _ [0, 1, 2, 3, 4, 5, 6, 7] _;refine zm rfl <| zS rfl (aW ac rfl) <| zS rfl (bQ rfl rfl) <| zm rfl <| bf (l := []) 25 (B ((decide ((a1.length : Int) < 2)) || (!decide (x11 = 35)))) (fun K => ?_) ?_
      ·rcases am (decide ((a1.length : Int) < 2)) with h9 | h9
       ·refine zF h9 rfl <| zF h9 rfl <| zF h9 rfl <| zS rfl (aB (av := .v _) rfl h9 rfl) ?_;exact K _ 3 _ (au (iU h9)) rfl rfl
       ·refine zM h9 rfl <| zU h9 rfl (bb ac rfl rfl (g10 (nf h9)) e12) <| zU h9 rfl (pw (a := x11) (b := 35) rfl rfl) <| zS rfl (aD (av := .v _) rfl h9 rfl) ?_;exact K _ 3 _ (au (iD h9)) rfl rfl
      refine aj <| ay rfl (fun c13 => ?_) (fun c13 => ?_)
      ·replace H := aZ c13 H;refine af <| aa ?_;show AR _ _ _ _ _ [0, 1] _;refine za rfl <| za rfl <| aj <| aK ?_;obtain ⟨rfl, rfl⟩ := dX H;exact And.intro rfl (Exists.intro _ (Exists.intro _ ⟨bj rfl (.refl _) (.refl _), aH [] rfl, rfl, rfl⟩))
      ·replace H := ba c13 H;refine aC <| af ?_;obtain ⟨g14, H⟩ := aP H;obtain ⟨x15, e16, H⟩ := bM H;obtain ⟨x17, e18, H⟩ := ci H;refine aa ?_;show AR _ _ _ _ _ [0, 1, 2, 3] _;refine zm rfl <| zS rfl (dT ac rfl rfl g14 e16) <| aq rfl rfl (aO rfl qn rfl (lR F x15 10 x17 e18) ?_);refine za rfl <| aj <| bt (X := Int) (fun y28 => ⟨[(4, i64 y28)], [], []⟩) (fun y28 => ga F y28 = some (r2, r3)) ?_ ?_
       ·refine af ?_;obtain ⟨g19, H⟩ := aP H;obtain ⟨x20, e21, H⟩ := bM H;refine aa ?_;show AR _ _ _ _ _ [0, 1, 2] _;refine zm rfl <| zS rfl (bb ac rfl rfl g19 e21) <| zS rfl (fw (a := x20) (b := 120) rfl rfl) <| aj <| ay rfl (fun c22 => ?_) (fun c22 => ?_)
        ·replace H := aZ c22 H;obtain ⟨g23, H⟩ := aP H;obtain ⟨x24, e25, H⟩ := bM H;obtain ⟨x26, e27, H⟩ := ci H;refine aa ?_;show AR _ _ _ _ _ [0, 1, 2, 3] _;refine zm rfl <| zS rfl (dT ac rfl rfl g23 e25) <| aq rfl rfl (aO rfl qn rfl (lR F x24 16 x26 e27) ?_);refine za rfl <| aj ?_;exact Exists.intro x26 ⟨H, aQ [] (.cons (.refl _) (.nil _)) rfl⟩
        ·replace H := ba c22 H;refine aC ?_;exact Exists.intro x17 ⟨H, aQ [] (.cons (.refl _) (.nil _)) rfl⟩
       rintro y28 H;replace H : ga F y28 = some (r2, r3) := H
       unfold ga at H
       refine af ?_;obtain ⟨x30, x31, e32, H⟩ := cQ H;refine aa ?_;show AR _ _ _ _ _ [0, 1, 2, 3, 4, 5, 6] _;refine zm rfl <| aq rfl rfl (aO rfl uW rfl (sv F y28 x30 x31 e32) ?_);refine zS rfl (ah (av := .tup _) rfl) <| zS rfl (aL (av := .v _) rfl rfl) <| zS rfl (aL (av := .v _) rfl rfl) <| za rfl <| za rfl <| aj <| af <| aa ?_;show AR _ _ _ _ _ [0, 1, 2, 3] _;refine zm rfl <| zm rfl <| za rfl <| za rfl <| aj <| aK ?_;obtain ⟨rfl, rfl⟩ := dX H;exact And.intro rfl (Exists.intro _ (Exists.intro _ ⟨bj rfl (.refl _) (.refl _), aH [] rfl, rfl, rfl⟩))
set_option maxRecDepth 100000 in
set_option maxHeartbeats 1000000 in
theorem su (F : Nat) (a1 : List UInt8) (a2 : Int) (r3 : List UInt8) (r4 : Bool) (H : kn F a1 a2 = some (r3, r4)) : ACalls Tryz.prog 112 [S a1, i64 a2] [] (Ret (.tup [S r3, B r4]) []) := by
 unfold kn at H
 refine aw Tryz.func112 rfl rfl ?_;show AW _ _ 38 _ _ _;refine af <| aa ?_;show AR _ _ _ _ _ [0, 1] _;refine za rfl <| za rfl <| aj <| bt (X := Unit) (fun _ => ⟨[], [], []⟩) (fun _ => ig = some (r3, r4)) ?_ ?_
 ·refine af ?_;obtain ⟨g5, H⟩ := aP H;refine aa ?_;show AR _ _ _ _ _ [0, 1, 2] _;refine zm rfl <| zS rfl (bD rfl rfl g5) <| za rfl <| aj <| aX <| cA (X := Nat × Int) (fun (n8, y6) => ⟨[(0, S a1), (1, i64 a2), (6, i64 y6)], [], []⟩) (fun (n8, y6) => ii a1 a2 n8 y6 = some (r3, r4)) (fun (n8, y6) => n8) (F, a2 + 1) H (aQ [] (.cons (.refl _) (.cons (.refl _) (.cons (.refl _) (.nil _)))) rfl) ?_;rintro ⟨n8, y6⟩ H;obtain ⟨n8, rfl, H⟩ := dx H;replace H : ij a1 a2 (ii a1 a2 n8) y6 = some (r3, r4) := H
  unfold ij at H
  refine af <| af ?_;obtain ⟨g10, H⟩ := cG H;refine aa ?_;show AR _ _ _ _ _ [0, 1, 2, 3, 4, 5, 6, 7, 8, 9] _;refine zm rfl <| zm rfl <| zS rfl (aW ac rfl) <| zS rfl (bQ rfl rfl) <| zm rfl <| bf (l := []) 18 (B ((decide (y6 < (a1.length : Int))) && (decide (y6 ≤ a2 + 11)))) (fun K => ?_) ?_
  ·rcases am (decide (y6 < (a1.length : Int))) with h9 | h9
   ·refine zM h9 rfl <| zM h9 rfl <| zU h9 rfl (bD rfl rfl (g10 h9)) <| zU h9 rfl (dC rfl rfl) <| zS rfl (aB (av := .v _) rfl h9 rfl) ?_;exact K _ 4 _ (au (bN h9)) rfl rfl
   ·refine zF h9 rfl <| zF h9 rfl <| zF h9 rfl <| zF h9 rfl <| zS rfl (aD (av := .v _) rfl h9 rfl) ?_;exact K _ 4 _ (au (ca h9)) rfl rfl
  refine aj <| ay rfl (fun c11 => ?_) (fun c11 => ?_)
  ·replace H := aZ c11 H;refine aC <| af <| aX <| af <| af ?_;obtain ⟨g12, H⟩ := aP H;obtain ⟨x13, e14, H⟩ := bM H;refine aa ?_;show AR _ _ _ _ _ [0, 1, 2, 3] _;refine zm rfl <| zm rfl <| zS rfl (bb ac rfl rfl g12 e14) <| zS rfl (fw (a := x13) (b := 38) rfl rfl) <| aj <| ay rfl (fun c15 => ?_) (fun c15 => ?_)
   ·replace H := aZ c15 H;refine af <| aa ?_;show AR _ _ _ _ _ [0, 1] _;refine za rfl <| za rfl <| aj <| aK ?_;obtain ⟨rfl, rfl⟩ := dX H;exact And.intro rfl (Exists.intro _ (Exists.intro _ ⟨bj rfl (.refl _) (.refl _), aH [] rfl, rfl, rfl⟩))
   ·replace H := ba c15 H;refine aC <| af ?_;obtain ⟨g16, H⟩ := aP H;obtain ⟨x17, e18, H⟩ := bM H;refine aa ?_;show AR _ _ _ _ _ [0, 1, 2, 3] _;refine zm rfl <| zm rfl <| zS rfl (bb ac rfl rfl g16 e18) <| zS rfl (fw (a := x17) (b := 59) rfl rfl) <| aj <| ay rfl (fun c19 => ?_) (fun c19 => ?_)
    ·replace H := aZ c19 H;refine af ?_;obtain ⟨g20, H⟩ := aP H;obtain ⟨g21, H⟩ := aP H;obtain ⟨x22, e23, H⟩ := bM H;obtain ⟨g24, H⟩ := aP H;refine aa ?_;show AR _ _ _ _ _ [0, 1, 2, 3, 4, 5, 6, 7, 8, 9, 10] _;refine zm rfl <| zm rfl <| zS rfl (bD rfl rfl g20) <| zm rfl <| zS rfl (bB ac rfl rfl rfl g21 e23) <| zm rfl <| zm rfl <| zS rfl (bD rfl rfl g24) <| zS rfl (gg rfl rfl) <| za rfl <| za rfl <| aj <| aK ?_;obtain ⟨rfl, rfl⟩ := dX H;exact And.intro rfl (Exists.intro _ (Exists.intro _ ⟨bj rfl (.refl _) (.refl _), aH [] rfl, rfl, rfl⟩))
    ·replace H := ba c19 H;refine aC ?_;obtain ⟨g25, H⟩ := aP H;refine aa ?_;show AR _ _ _ _ _ [0, 1, 2] _;refine zm rfl <| zS rfl (bD rfl rfl g25) <| za rfl <| aj ?_;exact Exists.intro (n8, y6 + 1) ⟨H, Nat.lt_succ_self _, aQ [] (.cons (.refl _) (.cons (.refl _) (.cons (.refl _) (.nil _)))) rfl⟩
  ·replace H := ba c11 H;refine bW ?_;exact Exists.intro () ⟨H, aQ [] (.nil _) rfl⟩
 rintro _ H;replace H : ig = some (r3, r4) := H
 unfold ig at H
 refine af <| aa ?_;show AR _ _ _ _ _ [0, 1] _;refine za rfl <| za rfl <| aj <| aK ?_;obtain ⟨rfl, rfl⟩ := dX H;exact And.intro rfl (Exists.intro _ (Exists.intro _ ⟨bj rfl (.refl _) (.refl _), aH [] rfl, rfl, rfl⟩))
set_option maxRecDepth 100000 in
set_option maxHeartbeats 1000000 in
theorem ss (F : Nat) (a1 : List UInt8) (r2 : List UInt8) (r3 : Bool) (H : km F a1 = some (r2, r3)) : ACalls Tryz.prog 97 [S a1] [] (Ret (.tup [S r2, B r3]) []) := by
 unfold km at H
 refine aw Tryz.func97 rfl rfl ?_;show AW _ _ 53 _ _ _;refine af <| aa ?_;show AR _ _ _ _ _ [0, 1] _;refine za rfl <| za rfl <| aj <| af <| aa ?_;show AR _ _ _ _ _ [0] _;refine za rfl <| aj ?_
 refine nA 4 1 5 rfl fun t4 => ?_
 show AW _ _ _ _ _ ⟨(4, slE Enc.byte [] (some t4)) :: _, _, _⟩;refine af <| aa ?_;show AR _ _ _ _ _ [0] _;refine za rfl <| aj <| bt (X := (List UInt8) × Nat × Bool) (fun (y40, t41, y42) => ⟨[(4, slE Enc.byte y40 (some t41)), (5, B y42)], [], [.tok t41 5]⟩) (fun (y40, t41, y42) => ic y40 y42 = some (r2, r3)) ?_ ?_
 ·refine af <| aa ?_;show AR _ _ _ _ _ [0] _;refine za rfl <| aj <| aX <| cA (X := Nat × (List UInt8) × Nat × Bool × Int) (fun (n10, y5, t6, y7, y8) => ⟨[(0, S a1), (4, slE Enc.byte y5 (some t6)), (5, B y7), (6, i64 y8)], [], [.tok t6 5]⟩) (fun (n10, y5, t6, y7, y8) => fc F a1 n10 (y5, y7, y8) = some (r2, r3)) (fun (n10, y5, t6, y7, y8) => n10) (F, [], t4, true, 0) H (aQ [0] (.cons (.refl _) (.cons (.refl _) (.cons (.refl _) (.cons (.refl _) (.nil _))))) rfl) ?_;rintro ⟨n10, y5, t6, y7, y8⟩ H;obtain ⟨n10, rfl, H⟩ := dx H;replace H : ie F a1 (fc F a1 n10) y5 y7 y8 = some (r2, r3) := H
  unfold ie at H
  refine af <| af <| aa ?_;show AR _ _ _ _ _ [0, 1, 2, 3] _;refine zm rfl <| zm rfl <| zS rfl (aW ac rfl) <| zS rfl (bQ rfl rfl) <| aj <| ay rfl (fun c11 => ?_) (fun c11 => ?_)
  ·replace H := aZ c11 H;refine aC <| aX <| bt (X := Bool) (fun y30 => ⟨[(0, S a1), (4, slE Enc.byte y5 (some t6)), (5, B y30), (6, i64 y8)], [], [.tok t6 5]⟩) (fun y30 => gb a1 y5 y8 (fc F a1 n10) y30 = some (r2, r3)) ?_ ?_
   ·refine af ?_;obtain ⟨g12, H⟩ := aP H;obtain ⟨x13, e14, H⟩ := bM H;refine aa ?_;show AR _ _ _ _ _ [0, 1, 2, 3] _;refine zm rfl <| zm rfl <| zS rfl (bb ac rfl rfl g12 e14) <| zS rfl (fw (a := x13) (b := 38) rfl rfl) <| aj <| ay rfl (fun c15 => ?_) (fun c15 => ?_)
    ·replace H := aZ c15 H;refine af ?_;obtain ⟨x16, x17, e18, H⟩ := cQ H;refine aa ?_;show AR _ _ _ _ _ [0, 1, 2, 3, 4, 5, 6, 7] _;refine zm rfl <| zm rfl <| aq rfl rfl (aO rfl uZ rfl (su F a1 y8 x16 x17 e18) ?_);refine zS rfl (ah (av := .tup _) rfl) <| zS rfl (aL (av := .v _) rfl rfl) <| zS rfl (aL (av := .v _) rfl rfl) <| za rfl <| za rfl <| aj <| af ?_;obtain ⟨x19, x20, e21, H⟩ := cQ H;refine aa ?_;show AR _ _ _ _ _ [0, 1, 2, 3, 4, 5, 6] _;refine zm rfl <| aq rfl rfl (aO rfl uY rfl (sr F x16 x19 x20 e21) ?_);refine zS rfl (ah (av := .tup _) rfl) <| zS rfl (aL (av := .v _) rfl rfl) <| zS rfl (aL (av := .v _) rfl rfl) <| za rfl <| za rfl <| aj <| af <| af <| aa ?_;show AR _ _ _ _ _ [0, 1, 2, 3] _;refine zm rfl <| zm rfl <| bf (l := []) 33 (B (x17 && x20)) (fun K => ?_) ?_
     ·rcases am x17 with h22 | h22
      ·refine zM h22 rfl <| zS rfl (aB (av := .v _) rfl h22 rfl) ?_;exact K _ 1 _ (au (bN h22)) rfl rfl
      ·refine zF h22 rfl <| zS rfl (aD (av := .v _) rfl h22 rfl) ?_;exact K _ 1 _ (au (ca h22)) rfl rfl
     refine aj <| ay rfl (fun c23 => ?_) (fun c23 => ?_)
     ·replace H := aZ c23 H;refine af ?_;obtain ⟨g25, H⟩ := aP H;obtain ⟨x26, e27, H⟩ := bM H;refine aa ?_;show AR _ _ _ _ _ [0, 1, 2, 3] _;refine zS rfl (ah (av := slE _ _ _) rfl) <| zm rfl <| zX rfl (sE (bytes := 1) 0 an ac rfl (by kernel_rfl) rfl rfl rfl rfl g25 e27) ?_;rintro _ _ ⟨t24, rfl, rfl⟩;refine zS rfl (aY (av := slE _ _ _) rfl) <| aj <| af ?_;obtain ⟨g28, H⟩ := aP H;obtain ⟨g29, H⟩ := aP H;refine aa ?_;show AR _ _ _ _ _ [0, 1, 2, 3, 4, 5] _;refine zm rfl <| zm rfl <| zS rfl (aW ac rfl) <| zS rfl (bD rfl rfl g28) <| zS rfl (bD rfl rfl g29) <| za rfl <| aj <| bW ?_;exact Exists.intro (n10, x26, t24, y7, (y8 + (x16.length : Int)) + 2) ⟨H, Nat.lt_succ_self _, aQ [0] (.cons (.refl _) (.cons (.refl _) (.cons (.refl _) (.cons (.refl _) (.nil _))))) rfl⟩
     ·replace H := ba c23 H;refine aC <| aa ?_;show AR _ _ _ _ _ [0] _;refine za rfl <| aj ?_;exact Exists.intro false ⟨H, aQ [0] (.cons (.refl _) (.cons (.refl _) (.cons (.refl _) (.cons (.refl _) (.nil _))))) rfl⟩
    ·replace H := ba c15 H;refine aC ?_;exact Exists.intro y7 ⟨H, aQ [0] (.cons (.refl _) (.cons (.refl _) (.cons (.refl _) (.cons (.refl _) (.nil _))))) rfl⟩
   rintro y30 H;replace H : gb a1 y5 y8 (fc F a1 n10) y30 = some (r2, r3) := H
   unfold gb at H
   refine af ?_;obtain ⟨g32, H⟩ := aP H;obtain ⟨x33, e34, H⟩ := bM H;obtain ⟨g36, H⟩ := aP H;obtain ⟨x37, e38, H⟩ := bM H;refine aa ?_;show AR _ _ _ _ _ [0, 1, 2, 3, 4, 5, 6] _;refine zS rfl (ah (av := slE _ _ _) rfl) <| zm rfl <| zm rfl <| zS rfl (bb ac rfl rfl g32 e34) <| zR rfl (cP (E := Enc.byte) (bytes := 1) (xs := [.tmp 45]) (l := ([x33] : List UInt8)) an (by kernel_rfl) rfl rfl (by decide) rfl rfl) <| zX rfl (df (E := Enc.byte) (bytes := 1) 0 an an rfl (by kernel_rfl) rfl rfl rfl rfl g36 e38) ?_;rintro _ _ ⟨t35, rfl, rfl⟩;refine zS rfl (aY (av := slE _ _ _) rfl) <| aj ?_;obtain ⟨g39, H⟩ := aP H;refine aa ?_;show AR _ _ _ _ _ [0, 1, 2] _;refine zm rfl <| zS rfl (bD rfl rfl g39) <| za rfl <| aj ?_;exact Exists.intro (n10, x37, t35, y30, y8 + 1) ⟨H, Nat.lt_succ_self _, aQ [0] (.cons (.refl _) (.cons (.refl _) (.cons (.refl _) (.cons (.refl _) (.nil _))))) rfl⟩
  ·replace H := ba c11 H;refine bW ?_;exact Exists.intro (y5, t6, y7) ⟨H, aQ [0] (.cons (.refl _) (.cons (.refl _) (.nil _))) rfl⟩
 rintro ⟨y40, t41, y42⟩ H;replace H : ic y40 y42 = some (r2, r3) := H
 unfold ic at H
 refine af <| aa ?_;show AR _ _ _ _ _ [0, 1, 2, 3, 4] _;refine zS rfl (ah (av := slE _ _ _) rfl) <| zS rfl (da an bp ac rfl) <| zm rfl <| za rfl <| za rfl <| aj <| aK ?_;obtain ⟨rfl, rfl⟩ := dX H;exact And.intro rfl (Exists.intro _ (Exists.intro _ ⟨bj rfl (.refl _) (.refl _), aH [] rfl, rfl, rfl⟩))
set_option maxRecDepth 100000 in
set_option maxHeartbeats 1000000 in
theorem kf (F : Nat) (a1 : List UInt8) (r2 : List UInt8) (r3 : Int) (H : gN F a1 = some (r2, r3)) : ACalls Tryz.prog 76 [S a1] [] (Ret (.tup [S r2, i64 r3]) []) := by
 unfold gN at H
 refine aw Tryz.func76 rfl rfl ?_;show AW _ _ 14 _ _ _;refine af <| aa ?_;show AR _ _ _ _ _ [0, 1] _;refine za rfl <| za rfl <| aj <| af ?_;obtain ⟨x4, x5, e6, H⟩ := cQ H;refine aa ?_;show AR _ _ _ _ _ [0, 1, 2, 3, 4, 5, 6] _;refine zm rfl <| aq rfl rfl (aO rfl vZ rfl (ss F a1 x4 x5 e6) ?_);refine zS rfl (ah (av := .tup _) rfl) <| zS rfl (aL (av := .v _) rfl rfl) <| zS rfl (aL (av := .v _) rfl rfl) <| za rfl <| za rfl <| aj <| af <| af <| aa ?_;show AR _ _ _ _ _ [0, 1] _;refine zm rfl <| zS rfl (bS rfl) <| aj <| ay rfl (fun c7 => ?_) (fun c7 => ?_)
 ·replace H := aZ c7 H;refine af <| aa ?_;show AR _ _ _ _ _ [0, 1] _;refine za rfl <| za rfl <| aj <| aK ?_;obtain ⟨rfl, rfl⟩ := dX H;exact And.intro rfl (Exists.intro _ (Exists.intro _ ⟨bj rfl (.refl _) (.refl _), aH [] rfl, rfl, rfl⟩))
 ·replace H := ba c7 H;refine aC <| af <| aa ?_;show AR _ _ _ _ _ [0, 1, 2] _;refine zm rfl <| za rfl <| za rfl <| aj <| aK ?_;obtain ⟨rfl, rfl⟩ := dX H;exact And.intro rfl (Exists.intro _ (Exists.intro _ ⟨bj rfl (.refl _) (.refl _), aH [] rfl, rfl, rfl⟩))
end Go.Proofs.YteokdkimegepoaaGreatDoor
namespace Go.Pv
def jl (F : Nat) (a1 : UInt8) (a2 : Bool) : Option Bool :=
bif (((decide (65 ≤ (a1.toNat : Int))) && (decide ((a1.toNat : Int) ≤ 90))) || ((decide (97 ≤ (a1.toNat : Int))) && (decide ((a1.toNat : Int) ≤ 122)))) || (decide (a1 = 95)) then
  some true
else
  some ((!a2) && (((((decide (48 ≤ (a1.toNat : Int))) && (decide ((a1.toNat : Int) ≤ 57))) || (decide (a1 = 45))) || (decide (a1 = 46))) || (decide (a1 = 58))))
def ib (a1 : List UInt8) : Option Bool :=
some ((decide (1 ≤ (a1.length : Int))) && (decide ((a1.length : Int) ≤ 60)))
def fb (F : Nat) (a1 : List UInt8) (rec4 : Int → Option Bool) (y3 : Int) : Option Bool :=
bif decide (y3 < (a1.length : Int)) then
  grd (cR y3 a1.length) <|
  lt (at_ a1 y3) fun x8 =>
  bnd (jl F x8 (decide (y3 = 0))) fun x10 =>
  bif !x10 then
    some false
  else
    grd (okI (y3 + 1)) <|
    rec4 (y3 + 1)
else
  ib a1
def fa (F : Nat) (a1 : List UInt8) (n : Nat) : Int → Option Bool :=
  loop (fun rec x => fb F a1 rec x) n
def kj (F : Nat) (a1 : List UInt8) : Option Bool :=
fa F a1 F 0
def cn (F : Nat) (a2 : List UInt8) (a3 : Int) (a4 : List (List UInt8)) (a6 : Int) (a7 : List (Int × (List UInt8) × (List UInt8) × List ((List UInt8) × List UInt8))) (a9 : Int) (a10 : Int) : Option Int :=
bif decide (a9 = 0) then
  some a10
else
  some a9
def cg (F : Nat) (a2 : List UInt8) (a3 : Int) (a4 : List (List UInt8)) (a6 : Int) (a7 : List (Int × (List UInt8) × (List UInt8) × List ((List UInt8) × List UInt8))) (a9 : Int) (a10 : List UInt8) : Option Bool :=
grd (okI ((a2.length : Int) - a3)) <|
ff (decide ((a10.length : Int) ≤ (a2.length : Int) - a3)) (okI (a3 + (a10.length : Int))) <|
ff (decide ((a10.length : Int) ≤ (a2.length : Int) - a3)) (kE a3 (a3 + (a10.length : Int)) a2.length) <|
lt (sub a2 a3 (a3 + (a10.length : Int))) fun x16 =>
some ((decide ((a10.length : Int) ≤ (a2.length : Int) - a3)) && (decide (x16 = a10)))
def gn (F : Nat) (a2 : List UInt8) (a3 : Int) (a4 : List (List UInt8)) (a6 : Int) (a7 : List (Int × (List UInt8) × (List UInt8) × List ((List UInt8) × List UInt8))) (a9 : Int) : Option ((List UInt8) × Int × Int) :=
bnd (cn F a2 a3 a4 a6 a7 a9 2) fun x32 =>
some (([] : List UInt8), (a2.length : Int), x32)
def gm (a9 : Int) (a10 : List UInt8) (y14 : Int) (y27 : List UInt8) : Option ((List UInt8) × Int × Int) :=
grd (okI (y14 + (a10.length : Int))) <|
some (y27, y14 + (a10.length : Int), a9)
def gq (F : Nat) (a2 : List UInt8) (a3 : Int) (a4 : List (List UInt8)) (a6 : Int) (a7 : List (Int × (List UInt8) × (List UInt8) × List ((List UInt8) × List UInt8))) (a9 : Int) (a10 : List UInt8) (rec15 : Int → Option ((List UInt8) × Int × Int)) (y14 : Int) : Option ((List UInt8) × Int × Int) :=
grd (okI (y14 + (a10.length : Int))) <|
bif decide (y14 + (a10.length : Int) ≤ (a2.length : Int)) then
  grd (okI (y14 + (a10.length : Int))) <|
  grd (kE y14 (y14 + (a10.length : Int)) a2.length) <|
  lt (sub a2 y14 (y14 + (a10.length : Int))) fun x21 =>
  bif decide (x21 = a10) then
    grd (kE a3 y14 a2.length) <|
    lt (sub a2 a3 y14) fun x25 =>
    gm a9 a10 y14 x25
  else
    grd (okI (y14 + 1)) <|
    rec15 (y14 + 1)
else
  gn F a2 a3 a4 a6 a7 a9
def gp (F : Nat) (a2 : List UInt8) (a3 : Int) (a4 : List (List UInt8)) (a6 : Int) (a7 : List (Int × (List UInt8) × (List UInt8) × List ((List UInt8) × List UInt8))) (a9 : Int) (a10 : List UInt8) (n : Nat) : Int → Option ((List UInt8) × Int × Int) :=
  loop (fun rec x => gq F a2 a3 a4 a6 a7 a9 a10 rec x) n
def dG (F : Nat) (a2 : List UInt8) (a3 : Int) (a4 : List (List UInt8)) (a6 : Int) (a7 : List (Int × (List UInt8) × (List UInt8) × List ((List UInt8) × List UInt8))) (a9 : Int) (a10 : List UInt8) : Option ((List UInt8) × Int × Int) :=
gp F a2 a3 a4 a6 a7 a9 a10 F a3
def fm (y28 : Int) (y29 : Int) : Option (Int × Int) :=
some (y28, y29)
def fk (y12 : Int) (y13 : Int) (rec14 : (Int × Int) → Option (Int × Int)) (y23 : Bool) : Option (Int × Int) :=
bif !y23 then
  fm y12 y13
else
  grd (okI (y13 + 1)) <|
  grd (okI (y12 + 1)) <|
  rec14 (y12 + 1, y13 + 1)
def fj (F : Nat) (a2 : List UInt8) (y12 : Int) (y13 : Int) (rec14 : (Int × Int) → Option (Int × Int)) : Option (Int × Int) :=
bif decide (y13 < (a2.length : Int)) then
  grd (cR y13 a2.length) <|
  lt (at_ a2 y13) fun x19 =>
  bnd (jG F x19) fun x21 =>
  fk y12 y13 rec14 x21
else
  fm y12 y13
def fo (F : Nat) (a2 : List UInt8) (rec14 : (Int × Int) → Option (Int × Int)) (y12 : Int) (y13 : Int) : Option (Int × Int) :=
fj F a2 y12 y13 rec14
def cF (F : Nat) (a2 : List UInt8) (n : Nat) : (Int × Int) → Option (Int × Int) :=
  loop (fun rec x => fo F a2 rec x.1 x.2) n
def fY (F : Nat) (a2 : List UInt8) (a3 : Int) (a4 : List (List UInt8)) (a6 : Int) (a7 : List (Int × (List UInt8) × (List UInt8) × List ((List UInt8) × List UInt8))) (a9 : Int) : Option (Int × Int) :=
cF F a2 F (0, a3)
def gw (y27 : Int) (y32 : List UInt8) (y39 : Int) : Option ((List UInt8) × Int × Int) :=
some (y32, y27, y39)
def gu (F : Nat) (a2 : List UInt8) (a4 : List (List UInt8)) (a6 : Int) (a7 : List (Int × (List UInt8) × (List UInt8) × List ((List UInt8) × List UInt8))) (a9 : Int) (y27 : Int) (y32 : List UInt8) : Option ((List UInt8) × Int × Int) :=
bnd (kj F y32) fun x34 =>
bif !x34 then
  bnd (cn F a2 y27 a4 a6 a7 a9 2) fun x37 =>
  gw y27 y32 x37
else
  gw y27 y32 a9
def dn (F : Nat) (a2 : List UInt8) (a3 : Int) (a4 : List (List UInt8)) (a6 : Int) (a7 : List (Int × (List UInt8) × (List UInt8) × List ((List UInt8) × List UInt8))) (a9 : Int) (y27 : Int) : Option ((List UInt8) × Int × Int) :=
grd (kE a3 y27 a2.length) <|
lt (sub a2 a3 y27) fun x30 =>
gu F a2 a4 a6 a7 a9 y27 x30
def ft (F : Nat) (a2 : List UInt8) (a3 : Int) (a4 : List (List UInt8)) (a6 : Int) (a7 : List (Int × (List UInt8) × (List UInt8) × List ((List UInt8) × List UInt8))) (a9 : Int) (y13 : Int) (rec14 : Int → Option ((List UInt8) × Int × Int)) (y23 : Bool) : Option ((List UInt8) × Int × Int) :=
bif !y23 then
  dn F a2 a3 a4 a6 a7 a9 y13
else
  grd (okI (y13 + 1)) <|
  rec14 (y13 + 1)
def fq (F : Nat) (a2 : List UInt8) (a3 : Int) (a4 : List (List UInt8)) (a6 : Int) (a7 : List (Int × (List UInt8) × (List UInt8) × List ((List UInt8) × List UInt8))) (a9 : Int) (y13 : Int) (rec14 : Int → Option ((List UInt8) × Int × Int)) : Option ((List UInt8) × Int × Int) :=
bif decide (y13 < (a2.length : Int)) then
  grd (cR y13 a2.length) <|
  lt (at_ a2 y13) fun x19 =>
  bnd (jl F x19 (decide (y13 = a3))) fun x21 =>
  ft F a2 a3 a4 a6 a7 a9 y13 rec14 x21
else
  dn F a2 a3 a4 a6 a7 a9 y13
def ex (F : Nat) (a2 : List UInt8) (a3 : Int) (a4 : List (List UInt8)) (a6 : Int) (a7 : List (Int × (List UInt8) × (List UInt8) × List ((List UInt8) × List UInt8))) (a9 : Int) (rec14 : Int → Option ((List UInt8) × Int × Int)) (y13 : Int) : Option ((List UInt8) × Int × Int) :=
fq F a2 a3 a4 a6 a7 a9 y13 rec14
def cS (F : Nat) (a2 : List UInt8) (a3 : Int) (a4 : List (List UInt8)) (a6 : Int) (a7 : List (Int × (List UInt8) × (List UInt8) × List ((List UInt8) × List UInt8))) (a9 : Int) (n : Nat) : Int → Option ((List UInt8) × Int × Int) :=
  loop (fun rec x => ex F a2 a3 a4 a6 a7 a9 rec x) n
def eb (F : Nat) (a2 : List UInt8) (a3 : Int) (a4 : List (List UInt8)) (a6 : Int) (a7 : List (Int × (List UInt8) × (List UInt8) × List ((List UInt8) × List UInt8))) (a9 : Int) : Option ((List UInt8) × Int × Int) :=
cS F a2 a3 a4 a6 a7 a9 F a3
def iJ (F : Nat) (a2 : List UInt8) (a3 : Int) (a4 : List (List UInt8)) (a6 : Int) (a7 : List (Int × (List UInt8) × (List UInt8) × List ((List UInt8) × List UInt8))) (a9 : Int) (a10 : List UInt8) : Option ((List (Int × (List UInt8) × (List UInt8) × List ((List UInt8) × List UInt8)))) :=
bif decide (a10 = ([] : List UInt8)) then
  some a7
else
  bif decide (0 < (a4.length : Int)) then
    grd (gQ (a7.length + ([(2, ([] : List UInt8), a10, ([] : List ((List UInt8) × List UInt8)))] : List (Int × (List UInt8) × (List UInt8) × List ((List UInt8) × List UInt8))).length)) <|
    lt (a7 ++ ([(2, ([] : List UInt8), a10, ([] : List ((List UInt8) × List UInt8)))] : List (Int × (List UInt8) × (List UInt8) × List ((List UInt8) × List UInt8)))) fun x17 =>
    some x17
  else
    some a7
def eP (F : Nat) (a2 : List UInt8) (a4 : List (List UInt8)) (a6 : Int) (a7 : List (Int × (List UInt8) × (List UInt8) × List ((List UInt8) × List UInt8))) (a9 : Int) (y35 : Bool) (y36 : Int) (y44 : List UInt8) (y45 : Int) : Option (Int × (List (Int × (List UInt8) × (List UInt8) × List ((List UInt8) × List UInt8))) × Int) :=
bif (!decide (y45 = 0)) || ((decide ((a4.length : Int) = 0)) && (!y35)) then
  bnd (cn F a2 y36 a4 a6 a7 a9 2) fun x50 =>
  some (y36, a7, x50)
else
  bnd (iJ F a2 y36 a4 a6 a7 a9 y44) fun x52 =>
  some (y36, x52, a9)
def eO (F : Nat) (a2 : List UInt8) (a3 : Int) (a4 : List (List UInt8)) (a6 : Int) (a7 : List (Int × (List UInt8) × (List UInt8) × List ((List UInt8) × List UInt8))) (a9 : Int) (y35 : Bool) (y36 : Int) : Option (Int × (List (Int × (List UInt8) × (List UInt8) × List ((List UInt8) × List UInt8))) × Int) :=
grd (kE a3 y36 a2.length) <|
lt (sub a2 a3 y36) fun x39 =>
gW (gN F x39) fun x41 x42 =>
eP F a2 a4 a6 a7 a9 y35 y36 x41 x42
def fO (y14 : Bool) (y15 : Int) (rec16 : (Bool × Int) → Option (Int × (List (Int × (List UInt8) × (List UInt8) × List ((List UInt8) × List UInt8))) × Int)) (y31 : Bool) : Option (Int × (List (Int × (List UInt8) × (List UInt8) × List ((List UInt8) × List UInt8))) × Int) :=
grd (okI (y15 + 1)) <|
rec16 (y14 && y31, y15 + 1)
def fN (F : Nat) (a2 : List UInt8) (a3 : Int) (a4 : List (List UInt8)) (a6 : Int) (a7 : List (Int × (List UInt8) × (List UInt8) × List ((List UInt8) × List UInt8))) (a9 : Int) (y14 : Bool) (y15 : Int) (rec16 : (Bool × Int) → Option (Int × (List (Int × (List UInt8) × (List UInt8) × List ((List UInt8) × List UInt8))) × Int)) (y23 : Bool) : Option (Int × (List (Int × (List UInt8) × (List UInt8) × List ((List UInt8) × List UInt8))) × Int) :=
bif y23 then
  grd (cR y15 a2.length) <|
  lt (at_ a2 y15) fun x27 =>
  bnd (jG F x27) fun x29 =>
  fO y14 y15 rec16 x29
else
  eO F a2 a3 a4 a6 a7 a9 y14 y15
def fP (F : Nat) (a2 : List UInt8) (a3 : Int) (a4 : List (List UInt8)) (a6 : Int) (a7 : List (Int × (List UInt8) × (List UInt8) × List ((List UInt8) × List UInt8))) (a9 : Int) (rec16 : (Bool × Int) → Option (Int × (List (Int × (List UInt8) × (List UInt8) × List ((List UInt8) × List UInt8))) × Int)) (y14 : Bool) (y15 : Int) : Option (Int × (List (Int × (List UInt8) × (List UInt8) × List ((List UInt8) × List UInt8))) × Int) :=
ff (decide (y15 < (a2.length : Int))) (cR y15 a2.length) <|
lt (at_ a2 y15) fun x20 =>
fN F a2 a3 a4 a6 a7 a9 y14 y15 rec16 ((decide (y15 < (a2.length : Int))) && (!decide (x20 = 60)))
def cY (F : Nat) (a2 : List UInt8) (a3 : Int) (a4 : List (List UInt8)) (a6 : Int) (a7 : List (Int × (List UInt8) × (List UInt8) × List ((List UInt8) × List UInt8))) (a9 : Int) (n : Nat) : (Bool × Int) → Option (Int × (List (Int × (List UInt8) × (List UInt8) × List ((List UInt8) × List UInt8))) × Int) :=
  loop (fun rec x => fP F a2 a3 a4 a6 a7 a9 rec x.1 x.2) n
def gL (F : Nat) (a2 : List UInt8) (a3 : Int) (a4 : List (List UInt8)) (a6 : Int) (a7 : List (Int × (List UInt8) × (List UInt8) × List ((List UInt8) × List UInt8))) (a9 : Int) : Option (Int × (List (Int × (List UInt8) × (List UInt8) × List ((List UInt8) × List UInt8))) × Int) :=
cY F a2 a3 a4 a6 a7 a9 F (true, a3)
def gM (F : Nat) (a2 : List UInt8) (a3 : Int) (a4 : List (List UInt8)) (a6 : Int) (a7 : List (Int × (List UInt8) × (List UInt8) × List ((List UInt8) × List UInt8))) (a9 : Int) (a10 : List UInt8) : Option ((List (List UInt8)) × (List (Int × (List UInt8) × (List UInt8) × List ((List UInt8) × List UInt8))) × Int) :=
ff (!(decide ((a4.length : Int) = 0))) (okI ((a4.length : Int) - 1)) <|
ff (!(decide ((a4.length : Int) = 0))) (cR ((a4.length : Int) - 1) a4.length) <|
lt (at_ a4 ((a4.length : Int) - 1)) fun x19 =>
bif (decide ((a4.length : Int) = 0)) || (!decide (x19 = a10)) then
  bnd (cn F a2 a3 a4 a6 a7 a9 2) fun x22 =>
  some (a4, a7, x22)
else
  grd (okI ((a4.length : Int) - 1)) <|
  grd (kw ((a4.length : Int) - 1) a4.length) <|
  lt (to_ a4 ((a4.length : Int) - 1)) fun x26 =>
  grd (gQ x26.length) <|
  grd (gQ (a7.length + ([(1, a10, ([] : List UInt8), ([] : List ((List UInt8) × List UInt8)))] : List (Int × (List UInt8) × (List UInt8) × List ((List UInt8) × List UInt8))).length)) <|
  lt (a7 ++ ([(1, a10, ([] : List UInt8), ([] : List ((List UInt8) × List UInt8)))] : List (Int × (List UInt8) × (List UInt8) × List ((List UInt8) × List UInt8)))) fun x32 =>
  some (x26, x32, a9)
def fZ (F : Nat) (a2 : List UInt8) (a3 : Int) (a4 : List (List UInt8)) (a6 : Int) (a7 : List (Int × (List UInt8) × (List UInt8) × List ((List UInt8) × List UInt8))) (a9 : Int) : Option (Int × (List (List UInt8)) × (List (Int × (List UInt8) × (List UInt8) × List ((List UInt8) × List UInt8))) × Int) :=
grd (okI (a3 + 2)) <|
pg (eb F a2 (a3 + 2) a4 a6 a7 a9) fun x17 x18 x19 =>
gW (fY F a2 x18 a4 a6 a7 x19) fun x21 x22 =>
bnd (cg F a2 x22 a4 a6 a7 x19 ([62] : List UInt8)) fun x24 =>
bif !x24 then
  bnd (cn F a2 x22 a4 a6 a7 x19 2) fun x27 =>
  some (x22, a4, a7, x27)
else
  grd (okI (x22 + 1)) <|
  pg (gM F a2 (x22 + 1) a4 a6 a7 x19 x17) fun x30 x31 x32 =>
  some (x22 + 1, x30, x31, x32)
def gx (x15 : List UInt8) (x37 : Int) (x56 : List UInt8) (y62 : Int) : Option ((List UInt8) × (List UInt8) × Int × Int) :=
some (x15, x56, x37, y62)
def ez (F : Nat) (a2 : List UInt8) (a4 : List (List UInt8)) (a6 : Int) (a7 : List (Int × (List UInt8) × (List UInt8) × List ((List UInt8) × List UInt8))) (x15 : List UInt8) (x36 : List UInt8) (x37 : Int) (y54 : Int) : Option ((List UInt8) × (List UInt8) × Int × Int) :=
gW (gN F x36) fun x56 x57 =>
bif !decide (x57 = 0) then
  bnd (cn F a2 x37 a4 a6 a7 y54 x57) fun x60 =>
  gx x15 x37 x56 x60
else
  gx x15 x37 x56 y54
def ey (y40 : Int) (rec42 : (Int × Int) → Option ((List UInt8) × (List UInt8) × Int × Int)) (y51 : Int) : Option ((List UInt8) × (List UInt8) × Int × Int) :=
grd (okI (y40 + 1)) <|
rec42 (y40 + 1, y51)
def gy (F : Nat) (a2 : List UInt8) (a4 : List (List UInt8)) (a6 : Int) (a7 : List (Int × (List UInt8) × (List UInt8) × List ((List UInt8) × List UInt8))) (x15 : List UInt8) (x36 : List UInt8) (x37 : Int) (rec42 : (Int × Int) → Option ((List UInt8) × (List UInt8) × Int × Int)) (y40 : Int) (y41 : Int) : Option ((List UInt8) × (List UInt8) × Int × Int) :=
bif decide (y40 < (x36.length : Int)) then
  grd (cR y40 x36.length) <|
  lt (at_ x36 y40) fun x46 =>
  bif decide (x46 = 60) then
    bnd (cn F a2 x37 a4 a6 a7 y41 2) fun x49 =>
    ey y40 rec42 x49
  else
    ey y40 rec42 y41
else
  ez F a2 a4 a6 a7 x15 x36 x37 y41
def eA (F : Nat) (a2 : List UInt8) (a4 : List (List UInt8)) (a6 : Int) (a7 : List (Int × (List UInt8) × (List UInt8) × List ((List UInt8) × List UInt8))) (x15 : List UInt8) (x36 : List UInt8) (x37 : Int) (n : Nat) : (Int × Int) → Option ((List UInt8) × (List UInt8) × Int × Int) :=
  loop (fun rec x => gy F a2 a4 a6 a7 x15 x36 x37 rec x.1 x.2) n
def cT (F : Nat) (a2 : List UInt8) (a4 : List (List UInt8)) (a6 : Int) (a7 : List (Int × (List UInt8) × (List UInt8) × List ((List UInt8) × List UInt8))) (x15 : List UInt8) (x16 : Int) (x17 : Int) (y33 : List UInt8) : Option ((List UInt8) × (List UInt8) × Int × Int) :=
grd (okI (x16 + 2)) <|
pg (dG F a2 (x16 + 2) a4 a6 a7 x17 y33) fun x36 x37 x38 =>
eA F a2 a4 a6 a7 x15 x36 x37 F (0, x38)
def jF (F : Nat) (a2 : List UInt8) (a3 : Int) (a4 : List (List UInt8)) (a6 : Int) (a7 : List (Int × (List UInt8) × (List UInt8) × List ((List UInt8) × List UInt8))) (a9 : Int) : Option ((List UInt8) × (List UInt8) × Int × Int) :=
pg (eb F a2 a3 a4 a6 a7 a9) fun x15 x16 x17 =>
bnd (cg F a2 x16 a4 a6 a7 x17 ([61, 34] : List UInt8)) fun x20 =>
bnd (cg F a2 x16 a4 a6 a7 x17 ([61, 39] : List UInt8)) fun x22 =>
bif (!x20) && (!x22) then
  bnd (cn F a2 x16 a4 a6 a7 x17 2) fun x26 =>
  some (x15, ([] : List UInt8), x16, x26)
else
  grd (okI (x16 + 1)) <|
  grd (okI (x16 + 2)) <|
  grd (kE (x16 + 1) (x16 + 2) a2.length) <|
  lt (sub a2 (x16 + 1) (x16 + 2)) fun x31 =>
  cT F a2 a4 a6 a7 x15 x16 x17 x31
def eS (F : Nat) (a2 : List UInt8) (x18 : List UInt8) (y70 : Int) (y71 : Int) (y81 : Int) (x83 : Bool) (y101 : List (List UInt8)) (y113 : List (Int × (List UInt8) × (List UInt8) × List ((List UInt8) × List UInt8))) : Option (Int × (List (List UInt8)) × Int × (List (Int × (List UInt8) × (List UInt8) × List ((List UInt8) × List UInt8))) × Int) :=
grd (okI (y70 + 1)) <|
bif x83 then
  grd (okI ((y70 + 1) + 1)) <|
  pg (gM F a2 ((y70 + 1) + 1) y101 y81 y113 y71 x18) fun x119 x120 x121 =>
  some ((y70 + 1) + 1, x119, y81, x120, x121)
else
  some (y70 + 1, y101, y81, y113, y71)
def eR (F : Nat) (a2 : List UInt8) (a7 : List (Int × (List UInt8) × (List UInt8) × List ((List UInt8) × List UInt8))) (x18 : List UInt8) (y70 : Int) (y71 : Int) (y72 : List ((List UInt8) × List UInt8)) (y81 : Int) (x83 : Bool) (y101 : List (List UInt8)) : Option (Int × (List (List UInt8)) × Int × (List (Int × (List UInt8) × (List UInt8) × List ((List UInt8) × List UInt8))) × Int) :=
bif decide (20 < (y101.length : Int)) then
  bnd (cn F a2 y70 y101 y81 a7 y71 5) fun x105 =>
  some (y70, y101, y81, a7, x105)
else
  grd (gQ (a7.length + ([(0, x18, ([] : List UInt8), y72)] : List (Int × (List UInt8) × (List UInt8) × List ((List UInt8) × List UInt8))).length)) <|
  lt (a7 ++ ([(0, x18, ([] : List UInt8), y72)] : List (Int × (List UInt8) × (List UInt8) × List ((List UInt8) × List UInt8)))) fun x109 =>
  eS F a2 x18 y70 y71 y81 x83 y101 x109
def dk (F : Nat) (a2 : List UInt8) (a4 : List (List UInt8)) (a7 : List (Int × (List UInt8) × (List UInt8) × List ((List UInt8) × List UInt8))) (x18 : List UInt8) (y70 : Int) (y71 : Int) (y72 : List ((List UInt8) × List UInt8)) (y81 : Int) : Option (Int × (List (List UInt8)) × Int × (List (Int × (List UInt8) × (List UInt8) × List ((List UInt8) × List UInt8))) × Int) :=
bnd (cg F a2 y70 a4 y81 a7 y71 ([47, 62] : List UInt8)) fun x83 =>
grd (gQ a4.length) <|
grd (gQ (a4.length + ([x18] : List (List UInt8)).length)) <|
lt (a4 ++ ([x18] : List (List UInt8))) fun x89 =>
eR F a2 a7 x18 y70 y71 y72 y81 x83 x89
def cM (F : Nat) (a2 : List UInt8) (a4 : List (List UInt8)) (a6 : Int) (a7 : List (Int × (List UInt8) × (List UInt8) × List ((List UInt8) × List UInt8))) (x18 : List UInt8) (y70 : Int) (y71 : Int) (y72 : List ((List UInt8) × List UInt8)) : Option (Int × (List (List UInt8)) × Int × (List (Int × (List UInt8) × (List UInt8) × List ((List UInt8) × List UInt8))) × Int) :=
bif !decide (y71 = 0) then
  some (y70, a4, a6, a7, y71)
else
  bif decide ((a4.length : Int) = 0) then
    grd (okI (a6 + 1)) <|
    bif decide (1 < a6 + 1) then
      bnd (cn F a2 y70 a4 (a6 + 1) a7 y71 2) fun x79 =>
      some (y70, a4, a6 + 1, a7, x79)
    else
      dk F a2 a4 a7 x18 y70 y71 y72 (a6 + 1)
  else
    dk F a2 a4 a7 x18 y70 y71 y72 a6
def dj (y24 : List ((List UInt8) × List UInt8)) (x44 : List UInt8) (x45 : List UInt8) (x46 : Int) (rec28 : ((List ((List UInt8) × List UInt8)) × Int × Int) → Option (Int × (List (List UInt8)) × Int × (List (Int × (List UInt8) × (List UInt8) × List ((List UInt8) × List UInt8))) × Int)) (y64 : Int) : Option (Int × (List (List UInt8)) × Int × (List (Int × (List UInt8) × (List UInt8) × List ((List UInt8) × List UInt8))) × Int) :=
grd (gQ (y24.length + ([(x44, x45)] : List ((List UInt8) × List UInt8)).length)) <|
lt (y24 ++ ([(x44, x45)] : List ((List UInt8) × List UInt8))) fun x68 =>
rec28 (x68, x46, y64)
def di (y50 : Int) (rec52 : (Int × Int) → Option (Int × (List (List UInt8)) × Int × (List (Int × (List UInt8) × (List UInt8) × List ((List UInt8) × List UInt8))) × Int)) (y61 : Int) : Option (Int × (List (List UInt8)) × Int × (List (Int × (List UInt8) × (List UInt8) × List ((List UInt8) × List UInt8))) × Int) :=
grd (okI (y50 + 1)) <|
rec52 (y50 + 1, y61)
def eT (F : Nat) (a2 : List UInt8) (a4 : List (List UInt8)) (a6 : Int) (a7 : List (Int × (List UInt8) × (List UInt8) × List ((List UInt8) × List UInt8))) (y24 : List ((List UInt8) × List UInt8)) (x44 : List UInt8) (x45 : List UInt8) (x46 : Int) (rec28 : ((List ((List UInt8) × List UInt8)) × Int × Int) → Option (Int × (List (List UInt8)) × Int × (List (Int × (List UInt8) × (List UInt8) × List ((List UInt8) × List UInt8))) × Int)) (rec52 : (Int × Int) → Option (Int × (List (List UInt8)) × Int × (List (Int × (List UInt8) × (List UInt8) × List ((List UInt8) × List UInt8))) × Int)) (y50 : Int) (y51 : Int) : Option (Int × (List (List UInt8)) × Int × (List (Int × (List UInt8) × (List UInt8) × List ((List UInt8) × List UInt8))) × Int) :=
bif decide (y50 < (y24.length : Int)) then
  grd (cR y50 y24.length) <|
  lt (at_ y24 y50) fun x56 =>
  bif decide (x56.1 = x44) then
    bnd (cn F a2 x46 a4 a6 a7 y51 2) fun x59 =>
    di y50 rec52 x59
  else
    di y50 rec52 y51
else
  dj y24 x44 x45 x46 rec28 y51
def cB (F : Nat) (a2 : List UInt8) (a4 : List (List UInt8)) (a6 : Int) (a7 : List (Int × (List UInt8) × (List UInt8) × List ((List UInt8) × List UInt8))) (y24 : List ((List UInt8) × List UInt8)) (x44 : List UInt8) (x45 : List UInt8) (x46 : Int) (rec28 : ((List ((List UInt8) × List UInt8)) × Int × Int) → Option (Int × (List (List UInt8)) × Int × (List (Int × (List UInt8) × (List UInt8) × List ((List UInt8) × List UInt8))) × Int)) (n : Nat) : (Int × Int) → Option (Int × (List (List UInt8)) × Int × (List (Int × (List UInt8) × (List UInt8) × List ((List UInt8) × List UInt8))) × Int) :=
  loop (fun rec x => eT F a2 a4 a6 a7 y24 x44 x45 x46 rec28 rec x.1 x.2) n
def dl (F : Nat) (a2 : List UInt8) (a4 : List (List UInt8)) (a6 : Int) (a7 : List (Int × (List UInt8) × (List UInt8) × List ((List UInt8) × List UInt8))) (x18 : List UInt8) (rec28 : ((List ((List UInt8) × List UInt8)) × Int × Int) → Option (Int × (List (List UInt8)) × Int × (List (Int × (List UInt8) × (List UInt8) × List ((List UInt8) × List UInt8))) × Int)) (y24 : List ((List UInt8) × List UInt8)) (y26 : Int) (y27 : Int) : Option (Int × (List (List UInt8)) × Int × (List (Int × (List UInt8) × (List UInt8) × List ((List UInt8) × List UInt8))) × Int) :=
bif decide (y27 = 0) then
  gW (fY F a2 y26 a4 a6 a7 y27) fun x31 x32 =>
  bnd (cg F a2 x32 a4 a6 a7 y27 ([62] : List UInt8)) fun x34 =>
  bnd (cg F a2 x32 a4 a6 a7 y27 ([47, 62] : List UInt8)) fun x36 =>
  bif x34 || x36 then
    cM F a2 a4 a6 a7 x18 x32 y27 y24
  else
    bif (decide (x31 = 0)) || (decide ((a2.length : Int) ≤ x32)) then
      bnd (cn F a2 x32 a4 a6 a7 y27 2) fun x42 =>
      some (x32, a4, a6, a7, x42)
    else
      bnd4 (jF F a2 x32 a4 a6 a7 y27) fun x44 x45 x46 x47 =>
      cB F a2 a4 a6 a7 y24 x44 x45 x46 rec28 F (0, x47)
else
  cM F a2 a4 a6 a7 x18 y26 y27 y24
def bz (F : Nat) (a2 : List UInt8) (a4 : List (List UInt8)) (a6 : Int) (a7 : List (Int × (List UInt8) × (List UInt8) × List ((List UInt8) × List UInt8))) (x18 : List UInt8) (n : Nat) : ((List ((List UInt8) × List UInt8)) × Int × Int) → Option (Int × (List (List UInt8)) × Int × (List (Int × (List UInt8) × (List UInt8) × List ((List UInt8) × List UInt8))) × Int) :=
  loop (fun rec x => dl F a2 a4 a6 a7 x18 rec x.1 x.2.1 x.2.2) n
def gt (F : Nat) (a2 : List UInt8) (a3 : Int) (a4 : List (List UInt8)) (a6 : Int) (a7 : List (Int × (List UInt8) × (List UInt8) × List ((List UInt8) × List UInt8))) (a9 : Int) : Option (Int × (List (List UInt8)) × Int × (List (Int × (List UInt8) × (List UInt8) × List ((List UInt8) × List UInt8))) × Int) :=
grd (okI (a3 + 1)) <|
pg (eb F a2 (a3 + 1) a4 a6 a7 a9) fun x18 x19 x20 =>
bz F a2 a4 a6 a7 x18 F ([], x19, x20)
def ew (F : Nat) (a2 : List UInt8) (a4 : List (List UInt8)) (a6 : Int) (a7 : List (Int × (List UInt8) × (List UInt8) × List ((List UInt8) × List UInt8))) (x52 : List UInt8) (x53 : Int) (y59 : Int) : Option (Int × (List (List UInt8)) × Int × (List (Int × (List UInt8) × (List UInt8) × List ((List UInt8) × List UInt8))) × Int) :=
bnd (iJ F a2 x53 a4 a6 a7 y59 x52) fun x61 =>
some (x53, a4, a6, x61, y59)
def gr (F : Nat) (a2 : List UInt8) (a3 : Int) (a4 : List (List UInt8)) (a6 : Int) (a7 : List (Int × (List UInt8) × (List UInt8) × List ((List UInt8) × List UInt8))) (a9 : Int) (x17 : Bool) (x19 : Bool) (x21 : Bool) (x23 : Bool) (x25 : Bool) (y30 : Bool) : Option (Int × (List (List UInt8)) × Int × (List (Int × (List UInt8) × (List UInt8) × List ((List UInt8) × List UInt8))) × Int) :=
bif y30 then
  pg (gL F a2 a3 a4 a6 a7 a9) fun x33 x34 x35 =>
  some (x33, a4, a6, x34, x35)
else
  bif x17 then
    grd (okI (a3 + 4)) <|
    pg (dG F a2 (a3 + 4) a4 a6 a7 a9 ([45, 45, 62] : List UInt8)) fun x40 x41 x42 =>
    some (x41, a4, a6, a7, x42)
  else
    bif x19 then
      grd (okI (a3 + 2)) <|
      pg (dG F a2 (a3 + 2) a4 a6 a7 a9 ([63, 62] : List UInt8)) fun x46 x47 x48 =>
      some (x47, a4, a6, a7, x48)
    else
      bif x21 then
        grd (okI (a3 + 9)) <|
        pg (dG F a2 (a3 + 9) a4 a6 a7 a9 ([93, 93, 62] : List UInt8)) fun x52 x53 x54 =>
        bif decide ((a4.length : Int) = 0) then
          bnd (cn F a2 x53 a4 a6 a7 x54 2) fun x57 =>
          ew F a2 a4 a6 a7 x52 x53 x57
        else
          ew F a2 a4 a6 a7 x52 x53 x54
      else
        bif x23 then
          grd (okI (a3 + 2)) <|
          pg (dG F a2 (a3 + 2) a4 a6 a7 a9 ([62] : List UInt8)) fun x66 x67 x68 =>
          some (x67, a4, a6, a7, x68)
        else
          bif x25 then
            bnd4 (fZ F a2 a3 a4 a6 a7 a9) fun x71 x72 x73 x74 =>
            some (x71, x72, a6, x73, x74)
          else
            bnd5 (gt F a2 a3 a4 a6 a7 a9) fun x78 x79 x80 x81 x82 =>
            some (x78, x79, x80, x81, x82)
def jE (F : Nat) (a2 : List UInt8) (a3 : Int) (a4 : List (List UInt8)) (a6 : Int) (a7 : List (Int × (List UInt8) × (List UInt8) × List ((List UInt8) × List UInt8))) (a9 : Int) : Option (Int × (List (List UInt8)) × Int × (List (Int × (List UInt8) × (List UInt8) × List ((List UInt8) × List UInt8))) × Int) :=
bnd (cg F a2 a3 a4 a6 a7 a9 ([60, 33, 45, 45] : List UInt8)) fun x17 =>
bnd (cg F a2 a3 a4 a6 a7 a9 ([60, 63] : List UInt8)) fun x19 =>
bnd (cg F a2 a3 a4 a6 a7 a9 ([60, 33, 91, 67, 68, 65, 84, 65, 91] : List UInt8)) fun x21 =>
bnd (cg F a2 a3 a4 a6 a7 a9 ([60, 33] : List UInt8)) fun x23 =>
bnd (cg F a2 a3 a4 a6 a7 a9 ([60, 47] : List UInt8)) fun x25 =>
grd (cR a3 a2.length) <|
lt (at_ a2 a3) fun x28 =>
gr F a2 a3 a4 a6 a7 a9 x17 x19 x21 x23 x25 (!decide (x28 = 60))
def eN (y34 : List (Int × (List UInt8) × (List UInt8) × List ((List UInt8) × List UInt8))) (y41 : Int) : Option ((List (Int × (List UInt8) × (List UInt8) × List ((List UInt8) × List UInt8))) × Int) :=
bif !decide (y41 = 0) then
  some ([], y41)
else
  some (y34, 0)
def eM (y30 : Int) (y31 : List (List UInt8)) (y33 : Int) (y34 : List (Int × (List UInt8) × (List UInt8) × List ((List UInt8) × List UInt8))) (y36 : Int) : Option ((List (Int × (List UInt8) × (List UInt8) × List ((List UInt8) × List UInt8))) × Int) :=
bif (decide (y36 = 0)) && ((decide (0 < (y31.length : Int))) || (decide (y33 = 0))) then
  eN y34 2
else
  eN y34 y36
def eL (F : Nat) (a1 : List UInt8) (y9 : Int) (y10 : List (List UInt8)) (y12 : Int) (y13 : List (Int × (List UInt8) × (List UInt8) × List ((List UInt8) × List UInt8))) (y15 : Int) (rec16 : (Int × (List (List UInt8)) × Int × (List (Int × (List UInt8) × (List UInt8) × List ((List UInt8) × List UInt8))) × Int) → Option ((List (Int × (List UInt8) × (List UInt8) × List ((List UInt8) × List UInt8))) × Int)) : Option ((List (Int × (List UInt8) × (List UInt8) × List ((List UInt8) × List UInt8))) × Int) :=
bif (decide (y9 < (a1.length : Int))) && (decide (y15 = 0)) then
  bnd5 (jE F a1 y9 y10 y12 y13 y15) fun x22 x23 x24 x25 x26 =>
  rec16 (x22, x23, x24, x25, x26)
else
  eM y9 y10 y12 y13 y15
def dP (F : Nat) (a1 : List UInt8) (rec16 : (Int × (List (List UInt8)) × Int × (List (Int × (List UInt8) × (List UInt8) × List ((List UInt8) × List UInt8))) × Int) → Option ((List (Int × (List UInt8) × (List UInt8) × List ((List UInt8) × List UInt8))) × Int)) (y9 : Int) (y10 : List (List UInt8)) (y12 : Int) (y13 : List (Int × (List UInt8) × (List UInt8) × List ((List UInt8) × List UInt8))) (y15 : Int) : Option ((List (Int × (List UInt8) × (List UInt8) × List ((List UInt8) × List UInt8))) × Int) :=
eL F a1 y9 y10 y12 y13 y15 rec16
def cX (F : Nat) (a1 : List UInt8) (n : Nat) : (Int × (List (List UInt8)) × Int × (List (Int × (List UInt8) × (List UInt8) × List ((List UInt8) × List UInt8))) × Int) → Option ((List (Int × (List UInt8) × (List UInt8) × List ((List UInt8) × List UInt8))) × Int) :=
  loop (fun rec x => dP F a1 rec x.1 x.2.1 x.2.2.1 x.2.2.2.1 x.2.2.2.2) n
def je (F : Nat) (a1 : List UInt8) : Option ((List (Int × (List UInt8) × (List UInt8) × List ((List UInt8) × List UInt8))) × Int) :=
bif decide (100000 < (a1.length : Int)) then
  some ([], 4)
else
  cX F a1 F (0, [], 0, [], 0)
end Go.Pv
