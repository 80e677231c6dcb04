/-
  Texts in one (only what XmlDeep needs): XmlLW, LXmlDeepP, LXmlDeepW, XmA, RefEP, PnTrim, PnPlainE, PnLoose, PnNum, PnSign, PnGone, PnLooseEq, PnLooseB, PnApp, XmP, XmQ, XmS, XmT, XmL, XmDe.
-/
import Derived.Test.YteokdkimegepoaaGreatDoorZXmlDeep3
import Derived.Test.YteokdkimegepoaaGreatDoorShelf
import Derived.Lib.ItoaNum
import Derived.Lib.IndexLaws
import Derived.Test.YteokdkimegepoaaGreatDoorChecked
import Derived.Lib.IndexMore
import Derived.Laws.RangeAny
set_option linter.unusedVariables false
set_option linter.unusedSimpArgs false
set_option linter.unusedSectionVars false
namespace Go.Proofs.YteokdkimegepoaaGreatDoor
open Go.RowKit Go.Av Go.Pv
theorem sC : ∀ (args : Array Value) (w : World), (callFunc 10 args).run Tryz.prog w = .ok (.enter 10 args) w := fun _ _ => by kernel_rfl
theorem sA : ∀ (args : Array Value) (w : World), (callFunc 12 args).run Tryz.prog w = .ok (.enter 12 args) w := fun _ _ => by kernel_rfl
theorem sy : ∀ (args : Array Value) (w : World), (callFunc 13 args).run Tryz.prog w = .ok (.enter 13 args) w := fun _ _ => by kernel_rfl
theorem sr : ∀ (args : Array Value) (w : World), (callFunc 18 args).run Tryz.prog w = .ok (.enter 18 args) w := fun _ _ => by kernel_rfl
theorem sq : ∀ (args : Array Value) (w : World), (callFunc 19 args).run Tryz.prog w = .ok (.enter 19 args) w := fun _ _ => by kernel_rfl
set_option maxRecDepth 100000 in
set_option maxHeartbeats 1000000 in
theorem oI (F : Nat) (a1 : List (Int × (List UInt8) × (List UInt8) × List ((List UInt8) × List UInt8))) (q2 : Option Nat) (a3 : List (Int × (List UInt8) × (List UInt8) × List ((List UInt8) × List UInt8))) (q4 : Option Nat) (r5 : Bool) (H : kw F a1 a3 = some r5) : ACalls Tryz.prog 12 [slE (ab Enc.int (ab Enc.str (ab Enc.str (Enc.sl (ab Enc.str Enc.str))))) a1 q2, slE (ab Enc.int (ab Enc.str (ab Enc.str (Enc.sl (ab Enc.str Enc.str))))) a3 q4] [] (Ret (B r5) []) := by
 unfold kw at H
 refine au Tryz.func12 rfl rfl ?_;show AW _ _ 97 _ _ _;refine ac <| aa ?_;show AR _ _ _ _ _ [0] _;refine za rfl <| ag <| ac <| ac <| aa ?_;show AR _ _ _ _ _ [0, 1, 2, 3, 4] _;refine zS rfl (af (av := slE _ _ _) rfl) <| zS rfl (bc aw rfl) <| zS rfl (af (av := slE _ _ _) rfl) <| zS rfl (bc aw rfl) <| zS rfl (iu rfl rfl) <| ag <| ax rfl (fun c6 => ?_) (fun c6 => ?_)
 ·replace H := aV c6 H;refine ac <| aa ?_;show AR _ _ _ _ _ [0] _;refine za rfl <| ag <| aI ?_;obtain rfl := al H;exact And.intro rfl (Exists.intro _ (Exists.intro _ ⟨aC rfl (.refl _), aH [] rfl, rfl, rfl⟩))
 ·replace H := aW c6 H;refine aB <| bQ (X := Unit) (fun _ => ⟨[], [], []⟩) (fun _ => ga = some r5) ?_ ?_
  ·refine ac <| aa ?_;show AR _ _ _ _ _ [0] _;refine za rfl <| ag <| aN <| cR (X := Nat × Int) (fun (n9, y7) => ⟨[(0, slE (ab Enc.int (ab Enc.str (ab Enc.str (Enc.sl (ab Enc.str Enc.str))))) a1 q2), (1, slE (ab Enc.int (ab Enc.str (ab Enc.str (Enc.sl (ab Enc.str Enc.str))))) a3 q4), (5, i64 y7)], [], []⟩) (fun (n9, y7) => cS F a1 a3 n9 y7 = some r5) (fun (n9, y7) => n9) (F, 0) H (ba [] (.cons (.refl _) (.cons (.refl _) (.cons (.refl _) (.nil _)))) rfl) ?_;rintro ⟨n9, y7⟩ H;obtain ⟨n9, rfl, H⟩ := ep H;replace H : ic F a1 a3 (cS F a1 a3 n9) y7 = some r5 := H
   unfold ic at H
   refine ac <| ac <| aa ?_;show AR _ _ _ _ _ [0, 1, 2, 3] _;refine zm rfl <| zS rfl (af (av := slE _ _ _) rfl) <| zS rfl (bc aw rfl) <| zS rfl (bW rfl rfl) <| ag <| ax rfl (fun c10 => ?_) (fun c10 => ?_)
   ·replace H := aV c10 H;refine aB <| bQ (X := Unit) (fun _ => ⟨[(0, slE (ab Enc.int (ab Enc.str (ab Enc.str (Enc.sl (ab Enc.str Enc.str))))) a1 q2), (1, slE (ab Enc.int (ab Enc.str (ab Enc.str (Enc.sl (ab Enc.str Enc.str))))) a3 q4), (5, i64 y7)], [], []⟩) (fun _ => fZ y7 (cS F a1 a3 n9) = some r5) ?_ ?_
    ·refine aN <| ac <| ac ?_;obtain ⟨g11, H⟩ := aQ H;obtain ⟨x12, e13, H⟩ := bI H;obtain ⟨g14, H⟩ := aQ H;obtain ⟨x15, e16, H⟩ := bI H;obtain ⟨g18, H⟩ := cu H;obtain ⟨x19, e20, H⟩ := bI H;obtain ⟨g21, H⟩ := cu H;obtain ⟨x22, e23, H⟩ := bI H;obtain ⟨g25, H⟩ := cu H;obtain ⟨x26, e27, H⟩ := bI H;obtain ⟨g28, H⟩ := cu H;obtain ⟨x29, e30, H⟩ := bI H;obtain ⟨g32, H⟩ := cu H;obtain ⟨x33, e34, H⟩ := bI H;obtain ⟨g35, H⟩ := cu H;obtain ⟨x36, e37, H⟩ := bI H;refine bH (by kernel_rfl) ?_;show AI _ _ _ _ _ 52 (Array.replicate 52 false) _;refine zk 0 rfl (af (av := slE _ _ _) rfl) ?_;show AI _ _ _ _ _ _ #[true, false, false, false, false, false, false, false, false, false, false, false, false, false, false, false, false, false, false, false, false, false, false, false, false, false, false, false, false, false, false, false, false, false, false, false, false, false, false, false, false, false, false, false, false, false, false, false, false, false, false, false] _;refine zk 1 rfl (mv rfl) ?_;show AI _ _ _ _ _ _ #[true, true, false, false, false, false, false, false, false, false, false, false, false, false, false, false, false, false, false, false, false, false, false, false, false, false, false, false, false, false, false, false, false, false, false, false, false, false, false, false, false, false, false, false, false, false, false, false, false, false, false, false] _
     refine zk 2 rfl (bD (E := (ab Enc.int (ab Enc.str (ab Enc.str (Enc.sl (ab Enc.str Enc.str)))))) aw (by kernel_rfl) rfl rfl g11 e13) ?_;show AI _ _ _ _ _ _ #[true, true, true, false, false, false, false, false, false, false, false, false, false, false, false, false, false, false, false, false, false, false, false, false, false, false, false, false, false, false, false, false, false, false, false, false, false, false, false, false, false, false, false, false, false, false, false, false, false, false, false, false] _;refine zk 3 rfl (aU (n := 0) (by kernel_rfl) rfl (ai rfl)) ?_;show AI _ _ _ _ _ _ #[true, true, true, true, false, false, false, false, false, false, false, false, false, false, false, false, false, false, false, false, false, false, false, false, false, false, false, false, false, false, false, false, false, false, false, false, false, false, false, false, false, false, false, false, false, false, false, false, false, false, false, false] _;refine zk 4 rfl (aM bU rfl rfl) ?_;show AI _ _ _ _ _ _ #[true, true, true, true, true, false, false, false, false, false, false, false, false, false, false, false, false, false, false, false, false, false, false, false, false, false, false, false, false, false, false, false, false, false, false, false, false, false, false, false, false, false, false, false, false, false, false, false, false, false, false, false] _;refine zk 5 rfl (af (av := slE _ _ _) rfl) ?_
     show AI _ _ _ _ _ _ #[true, true, true, true, true, true, false, false, false, false, false, false, false, false, false, false, false, false, false, false, false, false, false, false, false, false, false, false, false, false, false, false, false, false, false, false, false, false, false, false, false, false, false, false, false, false, false, false, false, false, false, false] _;refine zk 6 rfl (mv rfl) ?_;show AI _ _ _ _ _ _ #[true, true, true, true, true, true, true, false, false, false, false, false, false, false, false, false, false, false, false, false, false, false, false, false, false, false, false, false, false, false, false, false, false, false, false, false, false, false, false, false, false, false, false, false, false, false, false, false, false, false, false, false] _;refine zk 7 rfl (bD (E := (ab Enc.int (ab Enc.str (ab Enc.str (Enc.sl (ab Enc.str Enc.str)))))) aw (by kernel_rfl) rfl rfl g14 e16) ?_;show AI _ _ _ _ _ _ #[true, true, true, true, true, true, true, true, false, false, false, false, false, false, false, false, false, false, false, false, false, false, false, false, false, false, false, false, false, false, false, false, false, false, false, false, false, false, false, false, false, false, false, false, false, false, false, false, false, false, false, false] _;refine zk 8 rfl (aU (n := 0) (by kernel_rfl) rfl (ai rfl)) ?_
     show AI _ _ _ _ _ _ #[true, true, true, true, true, true, true, true, true, false, false, false, false, false, false, false, false, false, false, false, false, false, false, false, false, false, false, false, false, false, false, false, false, false, false, false, false, false, false, false, false, false, false, false, false, false, false, false, false, false, false, false] _;refine zk 9 rfl (aM bU rfl rfl) ?_;show AI _ _ _ _ _ _ #[true, true, true, true, true, true, true, true, true, true, false, false, false, false, false, false, false, false, false, false, false, false, false, false, false, false, false, false, false, false, false, false, false, false, false, false, false, false, false, false, false, false, false, false, false, false, false, false, false, false, false, false] _;refine zk 10 rfl (iu rfl rfl) ?_;show AI _ _ _ _ _ _ #[true, true, true, true, true, true, true, true, true, true, true, false, false, false, false, false, false, false, false, false, false, false, false, false, false, false, false, false, false, false, false, false, false, false, false, false, false, false, false, false, false, false, false, false, false, false, false, false, false, false, false, false] _;refine zk 11 rfl (mv rfl) ?_
     show AI _ _ _ _ _ _ #[true, true, true, true, true, true, true, true, true, true, true, true, false, false, false, false, false, false, false, false, false, false, false, false, false, false, false, false, false, false, false, false, false, false, false, false, false, false, false, false, false, false, false, false, false, false, false, false, false, false, false, false] _;refine AI.meet 28 #[true, true, true, true, true, true, true, true, true, true, true, true, true, true, true, true, true, true, true, true, true, true, true, true, false, false, false, false, false, false, false, false, false, false, false, false, false, false, false, false, false, false, false, false, false, false, false, false, false, false, false, false] 41 (B ((!decide (x12.1 = x15.1)) || (!decide (x19.2.1 = x22.2.1)))) (fun K23 => ?_) ?_
     ·refine lz (t := 29) rfl (fun h17 => ?_) (fun h17 => ?_)
      ·refine br (i := 12) rfl rfl (by kernel_rfl) (by kernel_rfl) (by kernel_rfl) rfl rfl rfl (fun _ _ h => h) h17 ?_;show AI _ _ _ _ _ _ #[true, true, true, true, true, true, true, true, true, true, true, true, true, false, false, false, false, false, false, false, false, false, false, false, false, false, false, false, false, false, false, false, false, false, false, false, false, false, false, false, false, false, false, false, false, false, false, false, false, false, false, false] _;refine br (i := 13) rfl rfl (by kernel_rfl) (by kernel_rfl) (by kernel_rfl) rfl rfl rfl (fun _ _ h => h) h17 ?_;show AI _ _ _ _ _ _ #[true, true, true, true, true, true, true, true, true, true, true, true, true, true, false, false, false, false, false, false, false, false, false, false, false, false, false, false, false, false, false, false, false, false, false, false, false, false, false, false, false, false, false, false, false, false, false, false, false, false, false, false] _;refine br (i := 14) rfl rfl (by kernel_rfl) (by kernel_rfl) (by kernel_rfl) rfl rfl rfl (fun _ _ h => h) h17 ?_;show AI _ _ _ _ _ _ #[true, true, true, true, true, true, true, true, true, true, true, true, true, true, true, false, false, false, false, false, false, false, false, false, false, false, false, false, false, false, false, false, false, false, false, false, false, false, false, false, false, false, false, false, false, false, false, false, false, false, false, false] _;refine br (i := 15) rfl rfl (by kernel_rfl) (by kernel_rfl) (by kernel_rfl) rfl rfl rfl (fun _ _ h => h) h17 ?_
       show AI _ _ _ _ _ _ #[true, true, true, true, true, true, true, true, true, true, true, true, true, true, true, true, false, false, false, false, false, false, false, false, false, false, false, false, false, false, false, false, false, false, false, false, false, false, false, false, false, false, false, false, false, false, false, false, false, false, false, false] _;refine br (i := 16) rfl rfl (by kernel_rfl) (by kernel_rfl) (by kernel_rfl) rfl rfl rfl (fun _ _ h => h) h17 ?_;show AI _ _ _ _ _ _ #[true, true, true, true, true, true, true, true, true, true, true, true, true, true, true, true, true, false, false, false, false, false, false, false, false, false, false, false, false, false, false, false, false, false, false, false, false, false, false, false, false, false, false, false, false, false, false, false, false, false, false, false] _;refine br (i := 17) rfl rfl (by kernel_rfl) (by kernel_rfl) (by kernel_rfl) rfl rfl rfl (fun _ _ h => h) h17 ?_;show AI _ _ _ _ _ _ #[true, true, true, true, true, true, true, true, true, true, true, true, true, true, true, true, true, true, false, false, false, false, false, false, false, false, false, false, false, false, false, false, false, false, false, false, false, false, false, false, false, false, false, false, false, false, false, false, false, false, false, false] _;refine br (i := 18) rfl rfl (by kernel_rfl) (by kernel_rfl) (by kernel_rfl) rfl rfl rfl (fun _ _ h => h) h17 ?_
       show AI _ _ _ _ _ _ #[true, true, true, true, true, true, true, true, true, true, true, true, true, true, true, true, true, true, true, false, false, false, false, false, false, false, false, false, false, false, false, false, false, false, false, false, false, false, false, false, false, false, false, false, false, false, false, false, false, false, false, false] _;refine br (i := 19) rfl rfl (by kernel_rfl) (by kernel_rfl) (by kernel_rfl) rfl rfl rfl (fun _ _ h => h) h17 ?_;show AI _ _ _ _ _ _ #[true, true, true, true, true, true, true, true, true, true, true, true, true, true, true, true, true, true, true, true, false, false, false, false, false, false, false, false, false, false, false, false, false, false, false, false, false, false, false, false, false, false, false, false, false, false, false, false, false, false, false, false] _;refine br (i := 20) rfl rfl (by kernel_rfl) (by kernel_rfl) (by kernel_rfl) rfl rfl rfl (fun _ _ h => h) h17 ?_;show AI _ _ _ _ _ _ #[true, true, true, true, true, true, true, true, true, true, true, true, true, true, true, true, true, true, true, true, true, false, false, false, false, false, false, false, false, false, false, false, false, false, false, false, false, false, false, false, false, false, false, false, false, false, false, false, false, false, false, false] _;refine br (i := 21) rfl rfl (by kernel_rfl) (by kernel_rfl) (by kernel_rfl) rfl rfl rfl (fun _ _ h => h) h17 ?_
       show AI _ _ _ _ _ _ #[true, true, true, true, true, true, true, true, true, true, true, true, true, true, true, true, true, true, true, true, true, true, false, false, false, false, false, false, false, false, false, false, false, false, false, false, false, false, false, false, false, false, false, false, false, false, false, false, false, false, false, false] _;refine br (i := 22) rfl rfl (by kernel_rfl) (by kernel_rfl) (by kernel_rfl) rfl rfl rfl (fun _ _ h => h) h17 ?_;show AI _ _ _ _ _ _ #[true, true, true, true, true, true, true, true, true, true, true, true, true, true, true, true, true, true, true, true, true, true, true, false, false, false, false, false, false, false, false, false, false, false, false, false, false, false, false, false, false, false, false, false, false, false, false, false, false, false, false, false] _;refine zk 23 rfl (dj (av' := B ((!decide (x12.1 = x15.1)) || (!decide (x19.2.1 = x22.2.1)))) (aE (av := .v _) rfl h17 rfl) (ay (jX h17))) ?_;show AI _ _ _ _ _ _ #[true, true, true, true, true, true, true, true, true, true, true, true, true, true, true, true, true, true, true, true, true, true, true, true, false, false, false, false, false, false, false, false, false, false, false, false, false, false, false, false, false, false, false, false, false, false, false, false, false, false, false, false] _;exact K23 _ 11 rfl rfl
      ·refine bq (i := 12) rfl rfl (by kernel_rfl) (by kernel_rfl) (by kernel_rfl) rfl rfl rfl (fun _ _ h => h) h17 (af (av := slE _ _ _) rfl) ?_;show AI _ _ _ _ _ _ #[true, true, true, true, true, true, true, true, true, true, true, true, true, false, false, false, false, false, false, false, false, false, false, false, false, false, false, false, false, false, false, false, false, false, false, false, false, false, false, false, false, false, false, false, false, false, false, false, false, false, false, false] _;refine bq (i := 13) rfl rfl (by kernel_rfl) (by kernel_rfl) (by kernel_rfl) rfl rfl rfl (fun _ _ h => h) h17 (mv rfl) ?_;show AI _ _ _ _ _ _ #[true, true, true, true, true, true, true, true, true, true, true, true, true, true, false, false, false, false, false, false, false, false, false, false, false, false, false, false, false, false, false, false, false, false, false, false, false, false, false, false, false, false, false, false, false, false, false, false, false, false, false, false] _;refine bq (i := 14) rfl rfl (by kernel_rfl) (by kernel_rfl) (by kernel_rfl) rfl rfl rfl (fun _ _ h => h) h17 (bD (E := (ab Enc.int (ab Enc.str (ab Enc.str (Enc.sl (ab Enc.str Enc.str)))))) aw (by kernel_rfl) rfl rfl (g18 (nf h17)) e20) ?_
       show AI _ _ _ _ _ _ #[true, true, true, true, true, true, true, true, true, true, true, true, true, true, true, false, false, false, false, false, false, false, false, false, false, false, false, false, false, false, false, false, false, false, false, false, false, false, false, false, false, false, false, false, false, false, false, false, false, false, false, false] _;refine bq (i := 15) rfl rfl (by kernel_rfl) (by kernel_rfl) (by kernel_rfl) rfl rfl rfl (fun _ _ h => h) h17 (aU (n := 1) (by kernel_rfl) rfl (ai rfl)) ?_;show AI _ _ _ _ _ _ #[true, true, true, true, true, true, true, true, true, true, true, true, true, true, true, true, false, false, false, false, false, false, false, false, false, false, false, false, false, false, false, false, false, false, false, false, false, false, false, false, false, false, false, false, false, false, false, false, false, false, false, false] _;refine bq (i := 16) rfl rfl (by kernel_rfl) (by kernel_rfl) (by kernel_rfl) rfl rfl rfl (fun _ _ h => h) h17 (aM ah rfl rfl) ?_;show AI _ _ _ _ _ _ #[true, true, true, true, true, true, true, true, true, true, true, true, true, true, true, true, true, false, false, false, false, false, false, false, false, false, false, false, false, false, false, false, false, false, false, false, false, false, false, false, false, false, false, false, false, false, false, false, false, false, false, false] _
       refine bq (i := 17) rfl rfl (by kernel_rfl) (by kernel_rfl) (by kernel_rfl) rfl rfl rfl (fun _ _ h => h) h17 (af (av := slE _ _ _) rfl) ?_;show AI _ _ _ _ _ _ #[true, true, true, true, true, true, true, true, true, true, true, true, true, true, true, true, true, true, false, false, false, false, false, false, false, false, false, false, false, false, false, false, false, false, false, false, false, false, false, false, false, false, false, false, false, false, false, false, false, false, false, false] _;refine bq (i := 18) rfl rfl (by kernel_rfl) (by kernel_rfl) (by kernel_rfl) rfl rfl rfl (fun _ _ h => h) h17 (mv rfl) ?_;show AI _ _ _ _ _ _ #[true, true, true, true, true, true, true, true, true, true, true, true, true, true, true, true, true, true, true, false, false, false, false, false, false, false, false, false, false, false, false, false, false, false, false, false, false, false, false, false, false, false, false, false, false, false, false, false, false, false, false, false] _;refine bq (i := 19) rfl rfl (by kernel_rfl) (by kernel_rfl) (by kernel_rfl) rfl rfl rfl (fun _ _ h => h) h17 (bD (E := (ab Enc.int (ab Enc.str (ab Enc.str (Enc.sl (ab Enc.str Enc.str)))))) aw (by kernel_rfl) rfl rfl (g21 (nf h17)) e23) ?_
       show AI _ _ _ _ _ _ #[true, true, true, true, true, true, true, true, true, true, true, true, true, true, true, true, true, true, true, true, false, false, false, false, false, false, false, false, false, false, false, false, false, false, false, false, false, false, false, false, false, false, false, false, false, false, false, false, false, false, false, false] _;refine bq (i := 20) rfl rfl (by kernel_rfl) (by kernel_rfl) (by kernel_rfl) rfl rfl rfl (fun _ _ h => h) h17 (aU (n := 1) (by kernel_rfl) rfl (ai rfl)) ?_;show AI _ _ _ _ _ _ #[true, true, true, true, true, true, true, true, true, true, true, true, true, true, true, true, true, true, true, true, true, false, false, false, false, false, false, false, false, false, false, false, false, false, false, false, false, false, false, false, false, false, false, false, false, false, false, false, false, false, false, false] _;refine bq (i := 21) rfl rfl (by kernel_rfl) (by kernel_rfl) (by kernel_rfl) rfl rfl rfl (fun _ _ h => h) h17 (aM ah rfl rfl) ?_;show AI _ _ _ _ _ _ #[true, true, true, true, true, true, true, true, true, true, true, true, true, true, true, true, true, true, true, true, true, true, false, false, false, false, false, false, false, false, false, false, false, false, false, false, false, false, false, false, false, false, false, false, false, false, false, false, false, false, false, false] _;refine bq (i := 22) rfl rfl (by kernel_rfl) (by kernel_rfl) (by kernel_rfl) rfl rfl rfl (fun _ _ h => h) h17 (ld rfl rfl) ?_
       show AI _ _ _ _ _ _ #[true, true, true, true, true, true, true, true, true, true, true, true, true, true, true, true, true, true, true, true, true, true, true, false, false, false, false, false, false, false, false, false, false, false, false, false, false, false, false, false, false, false, false, false, false, false, false, false, false, false, false, false] _;refine zk 23 rfl (dj (av' := B ((!decide (x12.1 = x15.1)) || (!decide (x19.2.1 = x22.2.1)))) (aF (av := .v _) rfl h17 rfl) (ay (jY h17))) ?_;show AI _ _ _ _ _ _ #[true, true, true, true, true, true, true, true, true, true, true, true, true, true, true, true, true, true, true, true, true, true, true, true, false, false, false, false, false, false, false, false, false, false, false, false, false, false, false, false, false, false, false, false, false, false, false, false, false, false, false, false] _;exact K23 _ 11 rfl rfl
     refine zk 24 rfl (mv rfl) ?_;show AI _ _ _ _ _ _ #[true, true, true, true, true, true, true, true, true, true, true, true, true, true, true, true, true, true, true, true, true, true, true, true, true, false, false, false, false, false, false, false, false, false, false, false, false, false, false, false, false, false, false, false, false, false, false, false, false, false, false, false] _;refine AI.meet 15 #[true, true, true, true, true, true, true, true, true, true, true, true, true, true, true, true, true, true, true, true, true, true, true, true, true, true, true, true, true, true, true, true, true, true, true, true, true, false, false, false, false, false, false, false, false, false, false, false, false, false, false, false] 54 (B (((!decide (x12.1 = x15.1)) || (!decide (x19.2.1 = x22.2.1))) || (!decide (x26.2.2.1 = x29.2.2.1)))) (fun K36 => ?_) ?_
     ·refine lz (t := 42) rfl (fun h24 => ?_) (fun h24 => ?_)
      ·refine br (i := 25) rfl rfl (by kernel_rfl) (by kernel_rfl) (by kernel_rfl) rfl rfl rfl (fun _ _ h => h) h24 ?_;show AI _ _ _ _ _ _ #[true, true, true, true, true, true, true, true, true, true, true, true, true, true, true, true, true, true, true, true, true, true, true, true, true, true, false, false, false, false, false, false, false, false, false, false, false, false, false, false, false, false, false, false, false, false, false, false, false, false, false, false] _;refine br (i := 26) rfl rfl (by kernel_rfl) (by kernel_rfl) (by kernel_rfl) rfl rfl rfl (fun _ _ h => h) h24 ?_;show AI _ _ _ _ _ _ #[true, true, true, true, true, true, true, true, true, true, true, true, true, true, true, true, true, true, true, true, true, true, true, true, true, true, true, false, false, false, false, false, false, false, false, false, false, false, false, false, false, false, false, false, false, false, false, false, false, false, false, false] _;refine br (i := 27) rfl rfl (by kernel_rfl) (by kernel_rfl) (by kernel_rfl) rfl rfl rfl (fun _ _ h => h) h24 ?_;show AI _ _ _ _ _ _ #[true, true, true, true, true, true, true, true, true, true, true, true, true, true, true, true, true, true, true, true, true, true, true, true, true, true, true, true, false, false, false, false, false, false, false, false, false, false, false, false, false, false, false, false, false, false, false, false, false, false, false, false] _;refine br (i := 28) rfl rfl (by kernel_rfl) (by kernel_rfl) (by kernel_rfl) rfl rfl rfl (fun _ _ h => h) h24 ?_
       show AI _ _ _ _ _ _ #[true, true, true, true, true, true, true, true, true, true, true, true, true, true, true, true, true, true, true, true, true, true, true, true, true, true, true, true, true, false, false, false, false, false, false, false, false, false, false, false, false, false, false, false, false, false, false, false, false, false, false, false] _;refine br (i := 29) rfl rfl (by kernel_rfl) (by kernel_rfl) (by kernel_rfl) rfl rfl rfl (fun _ _ h => h) h24 ?_;show AI _ _ _ _ _ _ #[true, true, true, true, true, true, true, true, true, true, true, true, true, true, true, true, true, true, true, true, true, true, true, true, true, true, true, true, true, true, false, false, false, false, false, false, false, false, false, false, false, false, false, false, false, false, false, false, false, false, false, false] _;refine br (i := 30) rfl rfl (by kernel_rfl) (by kernel_rfl) (by kernel_rfl) rfl rfl rfl (fun _ _ h => h) h24 ?_;show AI _ _ _ _ _ _ #[true, true, true, true, true, true, true, true, true, true, true, true, true, true, true, true, true, true, true, true, true, true, true, true, true, true, true, true, true, true, true, false, false, false, false, false, false, false, false, false, false, false, false, false, false, false, false, false, false, false, false, false] _;refine br (i := 31) rfl rfl (by kernel_rfl) (by kernel_rfl) (by kernel_rfl) rfl rfl rfl (fun _ _ h => h) h24 ?_
       show AI _ _ _ _ _ _ #[true, true, true, true, true, true, true, true, true, true, true, true, true, true, true, true, true, true, true, true, true, true, true, true, true, true, true, true, true, true, true, true, false, false, false, false, false, false, false, false, false, false, false, false, false, false, false, false, false, false, false, false] _;refine br (i := 32) rfl rfl (by kernel_rfl) (by kernel_rfl) (by kernel_rfl) rfl rfl rfl (fun _ _ h => h) h24 ?_;show AI _ _ _ _ _ _ #[true, true, true, true, true, true, true, true, true, true, true, true, true, true, true, true, true, true, true, true, true, true, true, true, true, true, true, true, true, true, true, true, true, false, false, false, false, false, false, false, false, false, false, false, false, false, false, false, false, false, false, false] _;refine br (i := 33) rfl rfl (by kernel_rfl) (by kernel_rfl) (by kernel_rfl) rfl rfl rfl (fun _ _ h => h) h24 ?_;show AI _ _ _ _ _ _ #[true, true, true, true, true, true, true, true, true, true, true, true, true, true, true, true, true, true, true, true, true, true, true, true, true, true, true, true, true, true, true, true, true, true, false, false, false, false, false, false, false, false, false, false, false, false, false, false, false, false, false, false] _;refine br (i := 34) rfl rfl (by kernel_rfl) (by kernel_rfl) (by kernel_rfl) rfl rfl rfl (fun _ _ h => h) h24 ?_
       show AI _ _ _ _ _ _ #[true, true, true, true, true, true, true, true, true, true, true, true, true, true, true, true, true, true, true, true, true, true, true, true, true, true, true, true, true, true, true, true, true, true, true, false, false, false, false, false, false, false, false, false, false, false, false, false, false, false, false, false] _;refine br (i := 35) rfl rfl (by kernel_rfl) (by kernel_rfl) (by kernel_rfl) rfl rfl rfl (fun _ _ h => h) h24 ?_;show AI _ _ _ _ _ _ #[true, true, true, true, true, true, true, true, true, true, true, true, true, true, true, true, true, true, true, true, true, true, true, true, true, true, true, true, true, true, true, true, true, true, true, true, false, false, false, false, false, false, false, false, false, false, false, false, false, false, false, false] _;refine zk 36 rfl (dj (av' := B (((!decide (x12.1 = x15.1)) || (!decide (x19.2.1 = x22.2.1))) || (!decide (x26.2.2.1 = x29.2.2.1)))) (aE (av := .v _) rfl h24 rfl) (ay (jX h24))) ?_;show AI _ _ _ _ _ _ #[true, true, true, true, true, true, true, true, true, true, true, true, true, true, true, true, true, true, true, true, true, true, true, true, true, true, true, true, true, true, true, true, true, true, true, true, true, false, false, false, false, false, false, false, false, false, false, false, false, false, false, false] _;exact K36 _ 11 rfl rfl
      ·refine bq (i := 25) rfl rfl (by kernel_rfl) (by kernel_rfl) (by kernel_rfl) rfl rfl rfl (fun _ _ h => h) h24 (af (av := slE _ _ _) rfl) ?_;show AI _ _ _ _ _ _ #[true, true, true, true, true, true, true, true, true, true, true, true, true, true, true, true, true, true, true, true, true, true, true, true, true, true, false, false, false, false, false, false, false, false, false, false, false, false, false, false, false, false, false, false, false, false, false, false, false, false, false, false] _;refine bq (i := 26) rfl rfl (by kernel_rfl) (by kernel_rfl) (by kernel_rfl) rfl rfl rfl (fun _ _ h => h) h24 (mv rfl) ?_;show AI _ _ _ _ _ _ #[true, true, true, true, true, true, true, true, true, true, true, true, true, true, true, true, true, true, true, true, true, true, true, true, true, true, true, false, false, false, false, false, false, false, false, false, false, false, false, false, false, false, false, false, false, false, false, false, false, false, false, false] _;refine bq (i := 27) rfl rfl (by kernel_rfl) (by kernel_rfl) (by kernel_rfl) rfl rfl rfl (fun _ _ h => h) h24 (bD (E := (ab Enc.int (ab Enc.str (ab Enc.str (Enc.sl (ab Enc.str Enc.str)))))) aw (by kernel_rfl) rfl rfl (g25 (nf h24)) e27) ?_
       show AI _ _ _ _ _ _ #[true, true, true, true, true, true, true, true, true, true, true, true, true, true, true, true, true, true, true, true, true, true, true, true, true, true, true, true, false, false, false, false, false, false, false, false, false, false, false, false, false, false, false, false, false, false, false, false, false, false, false, false] _;refine bq (i := 28) rfl rfl (by kernel_rfl) (by kernel_rfl) (by kernel_rfl) rfl rfl rfl (fun _ _ h => h) h24 (aU (n := 2) (by kernel_rfl) rfl (ai rfl)) ?_;show AI _ _ _ _ _ _ #[true, true, true, true, true, true, true, true, true, true, true, true, true, true, true, true, true, true, true, true, true, true, true, true, true, true, true, true, true, false, false, false, false, false, false, false, false, false, false, false, false, false, false, false, false, false, false, false, false, false, false, false] _;refine bq (i := 29) rfl rfl (by kernel_rfl) (by kernel_rfl) (by kernel_rfl) rfl rfl rfl (fun _ _ h => h) h24 (aM ah rfl rfl) ?_;show AI _ _ _ _ _ _ #[true, true, true, true, true, true, true, true, true, true, true, true, true, true, true, true, true, true, true, true, true, true, true, true, true, true, true, true, true, true, false, false, false, false, false, false, false, false, false, false, false, false, false, false, false, false, false, false, false, false, false, false] _;refine bq (i := 30) rfl rfl (by kernel_rfl) (by kernel_rfl) (by kernel_rfl) rfl rfl rfl (fun _ _ h => h) h24 (af (av := slE _ _ _) rfl) ?_
       show AI _ _ _ _ _ _ #[true, true, true, true, true, true, true, true, true, true, true, true, true, true, true, true, true, true, true, true, true, true, true, true, true, true, true, true, true, true, true, false, false, false, false, false, false, false, false, false, false, false, false, false, false, false, false, false, false, false, false, false] _;refine bq (i := 31) rfl rfl (by kernel_rfl) (by kernel_rfl) (by kernel_rfl) rfl rfl rfl (fun _ _ h => h) h24 (mv rfl) ?_;show AI _ _ _ _ _ _ #[true, true, true, true, true, true, true, true, true, true, true, true, true, true, true, true, true, true, true, true, true, true, true, true, true, true, true, true, true, true, true, true, false, false, false, false, false, false, false, false, false, false, false, false, false, false, false, false, false, false, false, false] _;refine bq (i := 32) rfl rfl (by kernel_rfl) (by kernel_rfl) (by kernel_rfl) rfl rfl rfl (fun _ _ h => h) h24 (bD (E := (ab Enc.int (ab Enc.str (ab Enc.str (Enc.sl (ab Enc.str Enc.str)))))) aw (by kernel_rfl) rfl rfl (g28 (nf h24)) e30) ?_;show AI _ _ _ _ _ _ #[true, true, true, true, true, true, true, true, true, true, true, true, true, true, true, true, true, true, true, true, true, true, true, true, true, true, true, true, true, true, true, true, true, false, false, false, false, false, false, false, false, false, false, false, false, false, false, false, false, false, false, false] _
       refine bq (i := 33) rfl rfl (by kernel_rfl) (by kernel_rfl) (by kernel_rfl) rfl rfl rfl (fun _ _ h => h) h24 (aU (n := 2) (by kernel_rfl) rfl (ai rfl)) ?_;show AI _ _ _ _ _ _ #[true, true, true, true, true, true, true, true, true, true, true, true, true, true, true, true, true, true, true, true, true, true, true, true, true, true, true, true, true, true, true, true, true, true, false, false, false, false, false, false, false, false, false, false, false, false, false, false, false, false, false, false] _;refine bq (i := 34) rfl rfl (by kernel_rfl) (by kernel_rfl) (by kernel_rfl) rfl rfl rfl (fun _ _ h => h) h24 (aM ah rfl rfl) ?_;show AI _ _ _ _ _ _ #[true, true, true, true, true, true, true, true, true, true, true, true, true, true, true, true, true, true, true, true, true, true, true, true, true, true, true, true, true, true, true, true, true, true, true, false, false, false, false, false, false, false, false, false, false, false, false, false, false, false, false, false] _;refine bq (i := 35) rfl rfl (by kernel_rfl) (by kernel_rfl) (by kernel_rfl) rfl rfl rfl (fun _ _ h => h) h24 (ld rfl rfl) ?_;show AI _ _ _ _ _ _ #[true, true, true, true, true, true, true, true, true, true, true, true, true, true, true, true, true, true, true, true, true, true, true, true, true, true, true, true, true, true, true, true, true, true, true, true, false, false, false, false, false, false, false, false, false, false, false, false, false, false, false, false] _
       refine zk 36 rfl (dj (av' := B (((!decide (x12.1 = x15.1)) || (!decide (x19.2.1 = x22.2.1))) || (!decide (x26.2.2.1 = x29.2.2.1)))) (aF (av := .v _) rfl h24 rfl) (ay (jY h24))) ?_;show AI _ _ _ _ _ _ #[true, true, true, true, true, true, true, true, true, true, true, true, true, true, true, true, true, true, true, true, true, true, true, true, true, true, true, true, true, true, true, true, true, true, true, true, true, false, false, false, false, false, false, false, false, false, false, false, false, false, false, false] _;exact K36 _ 11 rfl rfl
     refine zk 37 rfl (mv rfl) ?_;show AI _ _ _ _ _ _ #[true, true, true, true, true, true, true, true, true, true, true, true, true, true, true, true, true, true, true, true, true, true, true, true, true, true, true, true, true, true, true, true, true, true, true, true, true, true, false, false, false, false, false, false, false, false, false, false, false, false, false, false] _;refine AI.meet 0 #[true, true, true, true, true, true, true, true, true, true, true, true, true, true, true, true, true, true, true, true, true, true, true, true, true, true, true, true, true, true, true, true, true, true, true, true, true, true, true, true, true, true, true, true, true, true, true, true, true, true, true, true] 69 (B ((((!decide (x12.1 = x15.1)) || (!decide (x19.2.1 = x22.2.1))) || (!decide (x26.2.2.1 = x29.2.2.1))) || (!decide ((x33.2.2.2.length : Int) = (x36.2.2.2.length : Int))))) (fun K51 => ?_) ?_
     ·refine lz (t := 55) rfl (fun h31 => ?_) (fun h31 => ?_)
      ·refine br (i := 38) rfl rfl (by kernel_rfl) (by kernel_rfl) (by kernel_rfl) rfl rfl rfl (fun _ _ h => h) h31 ?_;show AI _ _ _ _ _ _ #[true, true, true, true, true, true, true, true, true, true, true, true, true, true, true, true, true, true, true, true, true, true, true, true, true, true, true, true, true, true, true, true, true, true, true, true, true, true, true, false, false, false, false, false, false, false, false, false, false, false, false, false] _;refine br (i := 39) rfl rfl (by kernel_rfl) (by kernel_rfl) (by kernel_rfl) rfl rfl rfl (fun _ _ h => h) h31 ?_;show AI _ _ _ _ _ _ #[true, true, true, true, true, true, true, true, true, true, true, true, true, true, true, true, true, true, true, true, true, true, true, true, true, true, true, true, true, true, true, true, true, true, true, true, true, true, true, true, false, false, false, false, false, false, false, false, false, false, false, false] _;refine br (i := 40) rfl rfl (by kernel_rfl) (by kernel_rfl) (by kernel_rfl) rfl rfl rfl (fun _ _ h => h) h31 ?_;show AI _ _ _ _ _ _ #[true, true, true, true, true, true, true, true, true, true, true, true, true, true, true, true, true, true, true, true, true, true, true, true, true, true, true, true, true, true, true, true, true, true, true, true, true, true, true, true, true, false, false, false, false, false, false, false, false, false, false, false] _;refine br (i := 41) rfl rfl (by kernel_rfl) (by kernel_rfl) (by kernel_rfl) rfl rfl rfl (fun _ _ h => h) h31 ?_
       show AI _ _ _ _ _ _ #[true, true, true, true, true, true, true, true, true, true, true, true, true, true, true, true, true, true, true, true, true, true, true, true, true, true, true, true, true, true, true, true, true, true, true, true, true, true, true, true, true, true, false, false, false, false, false, false, false, false, false, false] _;refine br (i := 42) rfl rfl (by kernel_rfl) (by kernel_rfl) (by kernel_rfl) rfl rfl rfl (fun _ _ h => h) h31 ?_;show AI _ _ _ _ _ _ #[true, true, true, true, true, true, true, true, true, true, true, true, true, true, true, true, true, true, true, true, true, true, true, true, true, true, true, true, true, true, true, true, true, true, true, true, true, true, true, true, true, true, true, false, false, false, false, false, false, false, false, false] _;refine br (i := 43) rfl rfl (by kernel_rfl) (by kernel_rfl) (by kernel_rfl) rfl rfl rfl (fun _ _ h => h) h31 ?_;show AI _ _ _ _ _ _ #[true, true, true, true, true, true, true, true, true, true, true, true, true, true, true, true, true, true, true, true, true, true, true, true, true, true, true, true, true, true, true, true, true, true, true, true, true, true, true, true, true, true, true, true, false, false, false, false, false, false, false, false] _;refine br (i := 44) rfl rfl (by kernel_rfl) (by kernel_rfl) (by kernel_rfl) rfl rfl rfl (fun _ _ h => h) h31 ?_
       show AI _ _ _ _ _ _ #[true, true, true, true, true, true, true, true, true, true, true, true, true, true, true, true, true, true, true, true, true, true, true, true, true, true, true, true, true, true, true, true, true, true, true, true, true, true, true, true, true, true, true, true, true, false, false, false, false, false, false, false] _;refine br (i := 45) rfl rfl (by kernel_rfl) (by kernel_rfl) (by kernel_rfl) rfl rfl rfl (fun _ _ h => h) h31 ?_;show AI _ _ _ _ _ _ #[true, true, true, true, true, true, true, true, true, true, true, true, true, true, true, true, true, true, true, true, true, true, true, true, true, true, true, true, true, true, true, true, true, true, true, true, true, true, true, true, true, true, true, true, true, true, false, false, false, false, false, false] _;refine br (i := 46) rfl rfl (by kernel_rfl) (by kernel_rfl) (by kernel_rfl) rfl rfl rfl (fun _ _ h => h) h31 ?_;show AI _ _ _ _ _ _ #[true, true, true, true, true, true, true, true, true, true, true, true, true, true, true, true, true, true, true, true, true, true, true, true, true, true, true, true, true, true, true, true, true, true, true, true, true, true, true, true, true, true, true, true, true, true, true, false, false, false, false, false] _;refine br (i := 47) rfl rfl (by kernel_rfl) (by kernel_rfl) (by kernel_rfl) rfl rfl rfl (fun _ _ h => h) h31 ?_
       show AI _ _ _ _ _ _ #[true, true, true, true, true, true, true, true, true, true, true, true, true, true, true, true, true, true, true, true, true, true, true, true, true, true, true, true, true, true, true, true, true, true, true, true, true, true, true, true, true, true, true, true, true, true, true, true, false, false, false, false] _;refine br (i := 48) rfl rfl (by kernel_rfl) (by kernel_rfl) (by kernel_rfl) rfl rfl rfl (fun _ _ h => h) h31 ?_;show AI _ _ _ _ _ _ #[true, true, true, true, true, true, true, true, true, true, true, true, true, true, true, true, true, true, true, true, true, true, true, true, true, true, true, true, true, true, true, true, true, true, true, true, true, true, true, true, true, true, true, true, true, true, true, true, true, false, false, false] _;refine br (i := 49) rfl rfl (by kernel_rfl) (by kernel_rfl) (by kernel_rfl) rfl rfl rfl (fun _ _ h => h) h31 ?_;show AI _ _ _ _ _ _ #[true, true, true, true, true, true, true, true, true, true, true, true, true, true, true, true, true, true, true, true, true, true, true, true, true, true, true, true, true, true, true, true, true, true, true, true, true, true, true, true, true, true, true, true, true, true, true, true, true, true, false, false] _;refine br (i := 50) rfl rfl (by kernel_rfl) (by kernel_rfl) (by kernel_rfl) rfl rfl rfl (fun _ _ h => h) h31 ?_
       show AI _ _ _ _ _ _ #[true, true, true, true, true, true, true, true, true, true, true, true, true, true, true, true, true, true, true, true, true, true, true, true, true, true, true, true, true, true, true, true, true, true, true, true, true, true, true, true, true, true, true, true, true, true, true, true, true, true, true, false] _;refine zk 51 rfl (dj (av' := B ((((!decide (x12.1 = x15.1)) || (!decide (x19.2.1 = x22.2.1))) || (!decide (x26.2.2.1 = x29.2.2.1))) || (!decide ((x33.2.2.2.length : Int) = (x36.2.2.2.length : Int))))) (aE (av := .v _) rfl h31 rfl) (ay (jX h31))) ?_;show AI _ _ _ _ _ _ #[true, true, true, true, true, true, true, true, true, true, true, true, true, true, true, true, true, true, true, true, true, true, true, true, true, true, true, true, true, true, true, true, true, true, true, true, true, true, true, true, true, true, true, true, true, true, true, true, true, true, true, true] _;exact K51 _ 13 rfl rfl
      ·refine bq (i := 38) rfl rfl (by kernel_rfl) (by kernel_rfl) (by kernel_rfl) rfl rfl rfl (fun _ _ h => h) h31 (af (av := slE _ _ _) rfl) ?_;show AI _ _ _ _ _ _ #[true, true, true, true, true, true, true, true, true, true, true, true, true, true, true, true, true, true, true, true, true, true, true, true, true, true, true, true, true, true, true, true, true, true, true, true, true, true, true, false, false, false, false, false, false, false, false, false, false, false, false, false] _;refine bq (i := 39) rfl rfl (by kernel_rfl) (by kernel_rfl) (by kernel_rfl) rfl rfl rfl (fun _ _ h => h) h31 (mv rfl) ?_;show AI _ _ _ _ _ _ #[true, true, true, true, true, true, true, true, true, true, true, true, true, true, true, true, true, true, true, true, true, true, true, true, true, true, true, true, true, true, true, true, true, true, true, true, true, true, true, true, false, false, false, false, false, false, false, false, false, false, false, false] _;refine bq (i := 40) rfl rfl (by kernel_rfl) (by kernel_rfl) (by kernel_rfl) rfl rfl rfl (fun _ _ h => h) h31 (bD (E := (ab Enc.int (ab Enc.str (ab Enc.str (Enc.sl (ab Enc.str Enc.str)))))) aw (by kernel_rfl) rfl rfl (g32 (nf h31)) e34) ?_
       show AI _ _ _ _ _ _ #[true, true, true, true, true, true, true, true, true, true, true, true, true, true, true, true, true, true, true, true, true, true, true, true, true, true, true, true, true, true, true, true, true, true, true, true, true, true, true, true, true, false, false, false, false, false, false, false, false, false, false, false] _;refine bq (i := 41) rfl rfl (by kernel_rfl) (by kernel_rfl) (by kernel_rfl) rfl rfl rfl (fun _ _ h => h) h31 (aU (n := 3) (by kernel_rfl) rfl (ai rfl)) ?_;show AI _ _ _ _ _ _ #[true, true, true, true, true, true, true, true, true, true, true, true, true, true, true, true, true, true, true, true, true, true, true, true, true, true, true, true, true, true, true, true, true, true, true, true, true, true, true, true, true, true, false, false, false, false, false, false, false, false, false, false] _;refine bq (i := 42) rfl rfl (by kernel_rfl) (by kernel_rfl) (by kernel_rfl) rfl rfl rfl (fun _ _ h => h) h31 (aM aL rfl rfl) ?_;show AI _ _ _ _ _ _ #[true, true, true, true, true, true, true, true, true, true, true, true, true, true, true, true, true, true, true, true, true, true, true, true, true, true, true, true, true, true, true, true, true, true, true, true, true, true, true, true, true, true, true, false, false, false, false, false, false, false, false, false] _;refine bq (i := 43) rfl rfl (by kernel_rfl) (by kernel_rfl) (by kernel_rfl) rfl rfl rfl (fun _ _ h => h) h31 (bc aL rfl) ?_
       show AI _ _ _ _ _ _ #[true, true, true, true, true, true, true, true, true, true, true, true, true, true, true, true, true, true, true, true, true, true, true, true, true, true, true, true, true, true, true, true, true, true, true, true, true, true, true, true, true, true, true, true, false, false, false, false, false, false, false, false] _;refine bq (i := 44) rfl rfl (by kernel_rfl) (by kernel_rfl) (by kernel_rfl) rfl rfl rfl (fun _ _ h => h) h31 (af (av := slE _ _ _) rfl) ?_;show AI _ _ _ _ _ _ #[true, true, true, true, true, true, true, true, true, true, true, true, true, true, true, true, true, true, true, true, true, true, true, true, true, true, true, true, true, true, true, true, true, true, true, true, true, true, true, true, true, true, true, true, true, false, false, false, false, false, false, false] _;refine bq (i := 45) rfl rfl (by kernel_rfl) (by kernel_rfl) (by kernel_rfl) rfl rfl rfl (fun _ _ h => h) h31 (mv rfl) ?_;show AI _ _ _ _ _ _ #[true, true, true, true, true, true, true, true, true, true, true, true, true, true, true, true, true, true, true, true, true, true, true, true, true, true, true, true, true, true, true, true, true, true, true, true, true, true, true, true, true, true, true, true, true, true, false, false, false, false, false, false] _;refine bq (i := 46) rfl rfl (by kernel_rfl) (by kernel_rfl) (by kernel_rfl) rfl rfl rfl (fun _ _ h => h) h31 (bD (E := (ab Enc.int (ab Enc.str (ab Enc.str (Enc.sl (ab Enc.str Enc.str)))))) aw (by kernel_rfl) rfl rfl (g35 (nf h31)) e37) ?_
       show AI _ _ _ _ _ _ #[true, true, true, true, true, true, true, true, true, true, true, true, true, true, true, true, true, true, true, true, true, true, true, true, true, true, true, true, true, true, true, true, true, true, true, true, true, true, true, true, true, true, true, true, true, true, true, false, false, false, false, false] _;refine bq (i := 47) rfl rfl (by kernel_rfl) (by kernel_rfl) (by kernel_rfl) rfl rfl rfl (fun _ _ h => h) h31 (aU (n := 3) (by kernel_rfl) rfl (ai rfl)) ?_;show AI _ _ _ _ _ _ #[true, true, true, true, true, true, true, true, true, true, true, true, true, true, true, true, true, true, true, true, true, true, true, true, true, true, true, true, true, true, true, true, true, true, true, true, true, true, true, true, true, true, true, true, true, true, true, true, false, false, false, false] _;refine bq (i := 48) rfl rfl (by kernel_rfl) (by kernel_rfl) (by kernel_rfl) rfl rfl rfl (fun _ _ h => h) h31 (aM aL rfl rfl) ?_;show AI _ _ _ _ _ _ #[true, true, true, true, true, true, true, true, true, true, true, true, true, true, true, true, true, true, true, true, true, true, true, true, true, true, true, true, true, true, true, true, true, true, true, true, true, true, true, true, true, true, true, true, true, true, true, true, true, false, false, false] _;refine bq (i := 49) rfl rfl (by kernel_rfl) (by kernel_rfl) (by kernel_rfl) rfl rfl rfl (fun _ _ h => h) h31 (bc aL rfl) ?_
       show AI _ _ _ _ _ _ #[true, true, true, true, true, true, true, true, true, true, true, true, true, true, true, true, true, true, true, true, true, true, true, true, true, true, true, true, true, true, true, true, true, true, true, true, true, true, true, true, true, true, true, true, true, true, true, true, true, true, false, false] _;refine bq (i := 50) rfl rfl (by kernel_rfl) (by kernel_rfl) (by kernel_rfl) rfl rfl rfl (fun _ _ h => h) h31 (iu rfl rfl) ?_;show AI _ _ _ _ _ _ #[true, true, true, true, true, true, true, true, true, true, true, true, true, true, true, true, true, true, true, true, true, true, true, true, true, true, true, true, true, true, true, true, true, true, true, true, true, true, true, true, true, true, true, true, true, true, true, true, true, true, true, false] _;refine zk 51 rfl (dj (av' := B ((((!decide (x12.1 = x15.1)) || (!decide (x19.2.1 = x22.2.1))) || (!decide (x26.2.2.1 = x29.2.2.1))) || (!decide ((x33.2.2.2.length : Int) = (x36.2.2.2.length : Int))))) (aF (av := .v _) rfl h31 rfl) (ay (jY h31))) ?_;show AI _ _ _ _ _ _ #[true, true, true, true, true, true, true, true, true, true, true, true, true, true, true, true, true, true, true, true, true, true, true, true, true, true, true, true, true, true, true, true, true, true, true, true, true, true, true, true, true, true, true, true, true, true, true, true, true, true, true, true] _;exact K51 _ 13 rfl rfl
     refine cn rfl <| ax rfl (fun c38 => ?_) (fun c38 => ?_)
     ·replace H := aV c38 H;refine ac <| aa ?_;show AR _ _ _ _ _ [0] _;refine za rfl <| ag <| aI ?_;obtain rfl := al H;exact And.intro rfl (Exists.intro _ (Exists.intro _ ⟨aC rfl (.refl _), aH [] rfl, rfl, rfl⟩))
     ·replace H := aW c38 H;refine aB <| ac <| aa ?_;show AR _ _ _ _ _ [0] _;refine za rfl <| ag <| aN <| cR (X := Nat × Int) (fun (n41, y39) => ⟨[(0, slE (ab Enc.int (ab Enc.str (ab Enc.str (Enc.sl (ab Enc.str Enc.str))))) a1 q2), (1, slE (ab Enc.int (ab Enc.str (ab Enc.str (Enc.sl (ab Enc.str Enc.str))))) a3 q4), (5, i64 y7), (6, i64 y39)], [], []⟩) (fun (n41, y39) => ib a1 a3 y7 (cS F a1 a3 n9) n41 y39 = some r5) (fun (n41, y39) => n41) (F, 0) H (ba [] (.cons (.refl _) (.cons (.refl _) (.cons (.refl _) (.cons (.refl _) (.nil _))))) rfl) ?_;rintro ⟨n41, y39⟩ H;obtain ⟨n41, rfl, H⟩ := ep H;replace H : ie a1 a3 y7 (cS F a1 a3 n9) (ib a1 a3 y7 (cS F a1 a3 n9) n41) y39 = some r5 := H
      unfold ie at H
      refine ac <| ac ?_;obtain ⟨g42, H⟩ := aQ H;obtain ⟨x43, e44, H⟩ := bI H;refine aa ?_;show AR _ _ _ _ _ [0, 1, 2, 3, 4, 5, 6, 7] _;refine zm rfl <| zS rfl (af (av := slE _ _ _) rfl) <| zm rfl <| zS rfl (bD (E := (ab Enc.int (ab Enc.str (ab Enc.str (Enc.sl (ab Enc.str Enc.str)))))) aw (by kernel_rfl) rfl rfl g42 e44) <| zS rfl (aU (n := 3) (by kernel_rfl) rfl (ai rfl)) <| zS rfl (aM aL rfl rfl) <| zS rfl (bc aL rfl) <| zS rfl (bW rfl rfl) <| ag <| ax rfl (fun c45 => ?_) (fun c45 => ?_)
      ·replace H := aV c45 H;refine aB <| ac <| aN <| ac ?_;obtain ⟨g46, H⟩ := aQ H;obtain ⟨x47, e48, H⟩ := bI H;obtain ⟨g49, H⟩ := aQ H;obtain ⟨x50, e51, H⟩ := bI H;obtain ⟨g52, H⟩ := aQ H;obtain ⟨x53, e54, H⟩ := bI H;obtain ⟨g55, H⟩ := aQ H;obtain ⟨x56, e57, H⟩ := bI H;refine bH (by kernel_rfl) ?_;show AI _ _ _ _ _ 17 (Array.replicate 17 false) _;refine zk 0 rfl (af (av := slE _ _ _) rfl) ?_;show AI _ _ _ _ _ _ #[true, false, false, false, false, false, false, false, false, false, false, false, false, false, false, false, false] _;refine zk 1 rfl (mv rfl) ?_;show AI _ _ _ _ _ _ #[true, true, false, false, false, false, false, false, false, false, false, false, false, false, false, false, false] _;refine zk 2 rfl (bD (E := (ab Enc.int (ab Enc.str (ab Enc.str (Enc.sl (ab Enc.str Enc.str)))))) aw (by kernel_rfl) rfl rfl g46 e48) ?_;show AI _ _ _ _ _ _ #[true, true, true, false, false, false, false, false, false, false, false, false, false, false, false, false, false] _;refine zk 3 rfl (aU (n := 3) (by kernel_rfl) rfl (ai rfl)) ?_;show AI _ _ _ _ _ _ #[true, true, true, true, false, false, false, false, false, false, false, false, false, false, false, false, false] _;refine zk 4 rfl (aM aL rfl rfl) ?_;show AI _ _ _ _ _ _ #[true, true, true, true, true, false, false, false, false, false, false, false, false, false, false, false, false] _;refine zk 5 rfl (mv rfl) ?_
       show AI _ _ _ _ _ _ #[true, true, true, true, true, true, false, false, false, false, false, false, false, false, false, false, false] _;refine zk 6 rfl (bD (E := (ab Enc.str Enc.str)) aL (by kernel_rfl) rfl rfl g49 e51) ?_;show AI _ _ _ _ _ _ #[true, true, true, true, true, true, true, false, false, false, false, false, false, false, false, false, false] _;refine zk 7 rfl (cj bV rfl (n := 2) (by kernel_rfl) rfl (ai rfl)) ?_;show AI _ _ _ _ _ _ #[true, true, true, true, true, true, true, true, false, false, false, false, false, false, false, false, false] _;refine zk 8 rfl (af (av := slE _ _ _) rfl) ?_;show AI _ _ _ _ _ _ #[true, true, true, true, true, true, true, true, true, false, false, false, false, false, false, false, false] _;refine zk 9 rfl (mv rfl) ?_;show AI _ _ _ _ _ _ #[true, true, true, true, true, true, true, true, true, true, false, false, false, false, false, false, false] _;refine zk 10 rfl (bD (E := (ab Enc.int (ab Enc.str (ab Enc.str (Enc.sl (ab Enc.str Enc.str)))))) aw (by kernel_rfl) rfl rfl g52 e54) ?_;show AI _ _ _ _ _ _ #[true, true, true, true, true, true, true, true, true, true, true, false, false, false, false, false, false] _;refine zk 11 rfl (aU (n := 3) (by kernel_rfl) rfl (ai rfl)) ?_;show AI _ _ _ _ _ _ #[true, true, true, true, true, true, true, true, true, true, true, true, false, false, false, false, false] _;refine zk 12 rfl (aM aL rfl rfl) ?_
       show AI _ _ _ _ _ _ #[true, true, true, true, true, true, true, true, true, true, true, true, true, false, false, false, false] _;refine zk 13 rfl (mv rfl) ?_;show AI _ _ _ _ _ _ #[true, true, true, true, true, true, true, true, true, true, true, true, true, true, false, false, false] _;refine zk 14 rfl (bD (E := (ab Enc.str Enc.str)) aL (by kernel_rfl) rfl rfl g55 e57) ?_;show AI _ _ _ _ _ _ #[true, true, true, true, true, true, true, true, true, true, true, true, true, true, true, false, false] _;refine zk 15 rfl (cj bV rfl (n := 2) (by kernel_rfl) rfl (ai rfl)) ?_;show AI _ _ _ _ _ _ #[true, true, true, true, true, true, true, true, true, true, true, true, true, true, true, true, false] _;refine zk 16 rfl (kh (r := (decide (x50.1 = x56.1)) && (decide (x50.2 = x56.2))) (.inr rfl) bV (by kernel_rfl) (by kernel_rfl) (by kernel_rfl) rfl rfl rfl (by simp only [List.all_cons, List.all_nil, id, rl, Bool.and_true])) ?_;show AI _ _ _ _ _ _ #[true, true, true, true, true, true, true, true, true, true, true, true, true, true, true, true, true] _;refine cn rfl <| ax rfl (fun c58 => ?_) (fun c58 => ?_)
       ·replace H := aV c58 H;refine ac <| aa ?_;show AR _ _ _ _ _ [0] _;refine za rfl <| ag <| aI ?_;obtain rfl := al H;exact And.intro rfl (Exists.intro _ (Exists.intro _ ⟨aC rfl (.refl _), aH [] rfl, rfl, rfl⟩))
       ·replace H := aW c58 H;refine aB ?_;obtain ⟨g59, H⟩ := aQ H;refine aa ?_;show AR _ _ _ _ _ [0, 1, 2] _;refine zm rfl <| zS rfl (eH rfl rfl g59) <| za rfl <| ag ?_;exact Exists.intro (n41, y39 + 1) ⟨H, Nat.lt_succ_self _, ba [] (.cons (.refl _) (.cons (.refl _) (.cons (.refl _) (.cons (.refl _) (.nil _))))) rfl⟩
      ·replace H := aW c45 H;refine ct ?_;exact Exists.intro () ⟨H, ba [] (.cons (.refl _) (.cons (.refl _) (.cons (.refl _) (.nil _)))) rfl⟩
    rintro _ H;replace H : fZ y7 (cS F a1 a3 n9) = some r5 := H
    unfold fZ at H
    obtain ⟨g61, H⟩ := aQ H;refine aa ?_;show AR _ _ _ _ _ [0, 1, 2] _;refine zm rfl <| zS rfl (eH rfl rfl g61) <| za rfl <| ag ?_;exact Exists.intro (n9, y7 + 1) ⟨H, Nat.lt_succ_self _, ba [] (.cons (.refl _) (.cons (.refl _) (.cons (.refl _) (.nil _)))) rfl⟩
   ·replace H := aW c10 H;refine ct ?_;exact Exists.intro () ⟨H, ba [] (.nil _) rfl⟩
  rintro _ H;replace H : ga = some r5 := H
  unfold ga at H
  refine ac <| aa ?_;show AR _ _ _ _ _ [0] _;refine za rfl <| ag <| aI ?_;obtain rfl := al H;exact And.intro rfl (Exists.intro _ (Exists.intro _ ⟨aC rfl (.refl _), aH [] rfl, rfl, rfl⟩))
set_option maxRecDepth 100000 in
set_option maxHeartbeats 1000000 in
theorem nj (F : Nat) (r1 : Bool) (H : gg F = some r1) : ACalls Tryz.prog 9 [] [] (Ret (B r1) []) := by
 unfold gg at H
 refine au Tryz.func9 rfl rfl ?_;show AW _ _ 39 _ _ _;refine ac <| aa ?_;show AR _ _ _ _ _ [0] _;refine za rfl <| ag <| ac ?_;obtain ⟨x3, x4, e5, H⟩ := cU H;refine aa ?_;show AR _ _ _ _ _ [0, 1, 2, 3, 4, 5, 6, 7] _;refine zX rfl (qH (E := Enc.byte) (bytes := 1) (xs := [.const _, .const _, .const _, .const _, .const _, .const _, .const _, .const _, .const _, .const _, .const _, .const _, .const _, .const _, .const _, .const _] ++ [.const _, .const _, .const _, .const _, .const _, .const _, .const _]) (l := ([60, 97, 32, 98, 61, 34, 49, 34, 62, 120, 38, 97, 109, 112, 59, 60] ++ [99, 47, 62, 60, 47, 97, 62] : List UInt8)) aj (by kernel_rfl) rfl rfl (by decide) rfl rfl) ?_;rintro _ _ ⟨t2, rfl, rfl⟩;refine zR rfl (nr 0 aj cX rfl (by simp) rfl) <| am rfl rfl (aG rfl sC rfl (lF F ([60, 97, 32, 98, 61, 34, 49, 34, 62, 120, 38, 97, 109, 112, 59, 60] ++ [99, 47, 62, 60, 47, 97, 62] : List UInt8) (some t2) x3 x4 e5) ?_);refine zS rfl (af (av := .tup _) rfl) <| zS rfl (aJ (av := slE _ _ _) rfl rfl) <| zS rfl (aJ (av := .v _) rfl rfl) <| zS rfl (aK (av := slE _ _ _) rfl) <| za rfl <| ag <| ac <| aa ?_;show AR _ _ _ _ _ [0, 1, 2, 3, 4, 5, 6, 7, 8] _
 refine zS rfl (eN (zs := [.string ⟨#[]⟩, .string ⟨#[]⟩]) (ps := [(0, 1), (1, 1)]) (cs := [S ([98] : List UInt8), S ([49] : List UInt8)]) (by kernel_rfl) rfl rfl) <| zR rfl (dv (E := (ab Enc.str Enc.str)) (bytes := 32) (zs := [.string ⟨#[]⟩, .string ⟨#[]⟩]) (l := ([(([98] : List UInt8), ([49] : List UInt8))] : List ((List UInt8) × List UInt8))) aL (by kernel_rfl) (by kernel_rfl) rfl rfl rfl rfl rfl) <| zS rfl (eN (zs := [.int .i64 0, .string ⟨#[]⟩, .string ⟨#[]⟩, .slice none 0 0]) (ps := [(0, 1), (1, 1), (2, 1), (3, 1)]) (cs := [i64 0, S ([97] : List UInt8), S ([] : List UInt8), slE (ab Enc.str Enc.str) ([(([98] : List UInt8), ([49] : List UInt8))] : List ((List UInt8) × List UInt8)) none]) (by kernel_rfl) rfl rfl) <| zS rfl (eN (zs := [.int .i64 0, .string ⟨#[]⟩, .string ⟨#[]⟩, .slice none 0 0]) (ps := [(0, 1), (1, 1), (2, 1), (3, 1)]) (cs := [i64 2, S ([] : List UInt8), S ([120, 38] : List UInt8), fI]) (by kernel_rfl) rfl rfl) <| zS rfl (eN (zs := [.int .i64 0, .string ⟨#[]⟩, .string ⟨#[]⟩, .slice none 0 0]) (ps := [(0, 1), (1, 1), (2, 1), (3, 1)]) (cs := [i64 0, S ([99] : List UInt8), S ([] : List UInt8), fI]) (by kernel_rfl) rfl rfl) <| zS rfl (eN (zs := [.int .i64 0, .string ⟨#[]⟩, .string ⟨#[]⟩, .slice none 0 0]) (ps := [(0, 1), (1, 1), (2, 1), (3, 1)]) (cs := [i64 1, S ([99] : List UInt8), S ([] : List UInt8), fI]) (by kernel_rfl) rfl rfl) <| zS rfl (eN (zs := [.int .i64 0, .string ⟨#[]⟩, .string ⟨#[]⟩, .slice none 0 0]) (ps := [(0, 1), (1, 1), (2, 1), (3, 1)]) (cs := [i64 1, S ([97] : List UInt8), S ([] : List UInt8), fI]) (by kernel_rfl) rfl rfl) <| zR rfl (dT (ds := [i64 2, S ([] : List UInt8), S ([120, 38] : List UInt8), slE (ab Enc.str Enc.str) ([] : List ((List UInt8) × List UInt8)) none]) 14 (.cons (.refl _) (.cons (.refl _) (.cons (.refl _) (.cons (.nil _) (.nil))))) (hc := rfl) <| dT (ds := [i64 0, S ([99] : List UInt8), S ([] : List UInt8), slE (ab Enc.str Enc.str) ([] : List ((List UInt8) × List UInt8)) none]) 15 (.cons (.refl _) (.cons (.refl _) (.cons (.refl _) (.cons (.nil _) (.nil))))) (hc := rfl) <| dT (ds := [i64 1, S ([99] : List UInt8), S ([] : List UInt8), slE (ab Enc.str Enc.str) ([] : List ((List UInt8) × List UInt8)) none]) 16 (.cons (.refl _) (.cons (.refl _) (.cons (.refl _) (.cons (.nil _) (.nil))))) (hc := rfl) <| dT (ds := [i64 1, S ([97] : List UInt8), S ([] : List UInt8), slE (ab Enc.str Enc.str) ([] : List ((List UInt8) × List UInt8)) none]) 17 (.cons (.refl _) (.cons (.refl _) (.cons (.refl _) (.cons (.nil _) (.nil))))) (hc := rfl) <| dv (E := (ab Enc.int (ab Enc.str (ab Enc.str (Enc.sl (ab Enc.str Enc.str)))))) (bytes := 64) (zs := [.int .i64 0, .string ⟨#[]⟩, .string ⟨#[]⟩, .slice none 0 0]) (l := ([(0, ([97] : List UInt8), ([] : List UInt8), ([(([98] : List UInt8), ([49] : List UInt8))] : List ((List UInt8) × List UInt8))), (2, ([] : List UInt8), ([120, 38] : List UInt8), ([] : List ((List UInt8) × List UInt8))), (0, ([99] : List UInt8), ([] : List UInt8), ([] : List ((List UInt8) × List UInt8))), (1, ([99] : List UInt8), ([] : List UInt8), ([] : List ((List UInt8) × List UInt8))), (1, ([97] : List UInt8), ([] : List UInt8), ([] : List ((List UInt8) × List UInt8)))] : List (Int × (List UInt8) × (List UInt8) × List ((List UInt8) × List UInt8)))) aw (by kernel_rfl) (by kernel_rfl) rfl rfl rfl rfl rfl) <| zS rfl (aK (av := slE _ _ _) rfl) <| ag <| ac ?_
 obtain ⟨x6, e7, H⟩ := eu H;refine aa ?_;show AR _ _ _ _ _ [0, 1, 2, 3] _;refine zS rfl (af (av := slE _ _ _) rfl) <| zS rfl (af (av := slE _ _ _) rfl) <| am rfl rfl (aG rfl sA rfl (oI F x3 none ([(0, ([97] : List UInt8), ([] : List UInt8), ([(([98] : List UInt8), ([49] : List UInt8))] : List ((List UInt8) × List UInt8))), (2, ([] : List UInt8), ([120, 38] : List UInt8), ([] : List ((List UInt8) × List UInt8))), (0, ([99] : List UInt8), ([] : List UInt8), ([] : List ((List UInt8) × List UInt8))), (1, ([99] : List UInt8), ([] : List UInt8), ([] : List ((List UInt8) × List UInt8))), (1, ([97] : List UInt8), ([] : List UInt8), ([] : List ((List UInt8) × List UInt8)))] : List (Int × (List UInt8) × (List UInt8) × List ((List UInt8) × List UInt8))) none x6 e7) ?_);refine za rfl <| ag <| ac ?_;obtain ⟨x10, e11, H⟩ := eK H;obtain ⟨x13, e14, H⟩ := eK H;obtain ⟨x16, e17, H⟩ := eK H;refine aa ?_;show AR _ _ _ _ _ [0, 1, 2, 3, 4, 5, 6, 7, 8, 9, 10, 11, 12, 13, 14, 15, 16, 17] _;refine zm rfl <| zS rfl (bM rfl rfl) <| zm rfl <| bb (l := [5, 6, 7, 8, 9, 10, 11, 12, 13, 14, 15, 16, 17]) 26 (B ((decide (x4 = 0)) && x6)) (fun K => ?_) ?_
 ·rcases ak (decide (x4 = 0)) with h8 | h8
  ·refine zM h8 rfl <| zS rfl (aE (av := .v _) rfl h8 rfl) ?_;exact K _ 1 _ (ay (cz h8)) rfl rfl
  ·refine zF h8 rfl <| zS rfl (aF (av := .v _) rfl h8 rfl) ?_;exact K _ 1 _ (ay (cA h8)) rfl rfl
 refine zm rfl <| bb (l := [8, 9, 10, 11, 12, 13, 14, 15, 16, 17]) 29 (B (((decide (x4 = 0)) && x6) && x10)) (fun K => ?_) ?_
 ·rcases ak ((decide (x4 = 0)) && x6) with h9 | h9
  ·refine zT h9 rfl (aG rfl sr rfl (lm F ([97, 58, 98] : List UInt8) x10 (e11 h9)) ?_);refine zS rfl (aE (av := .v _) rfl h9 rfl) ?_;exact K _ 1 _ (ay (cz h9)) rfl rfl
  ·refine zF h9 rfl <| zS rfl (aF (av := .v _) rfl h9 rfl) ?_;exact K _ 1 _ (ay (cA h9)) rfl rfl
 refine zm rfl <| bb (l := [12, 13, 14, 15, 16, 17]) 33 (B ((((decide (x4 = 0)) && x6) && x10) && (decide (x13 = ([98] : List UInt8))))) (fun K => ?_) ?_
 ·rcases ak (((decide (x4 = 0)) && x6) && x10) with h12 | h12
  ·refine zT h12 rfl (aG rfl sq rfl (qx F ([97, 58, 98] : List UInt8) x13 (e14 h12)) ?_);refine zU h12 rfl (eL rfl rfl) <| zS rfl (aE (av := .v _) rfl h12 rfl) ?_;exact K _ 2 _ (ay (cz h12)) rfl rfl
  ·refine zF h12 rfl <| zF h12 rfl <| zS rfl (aF (av := .v _) rfl h12 rfl) ?_;exact K _ 2 _ (ay (cA h12)) rfl rfl
 refine zm rfl <| bb (l := [17]) 38 (B (((((decide (x4 = 0)) && x6) && x10) && (decide (x13 = ([98] : List UInt8)))) && x16)) (fun K => ?_) ?_
 ·rcases ak ((((decide (x4 = 0)) && x6) && x10) && (decide (x13 = ([98] : List UInt8)))) with h15 | h15
  ·refine zU h15 rfl (af (av := slE _ _ _) rfl) <| zU h15 rfl (af (av := slE _ _ _) rfl) <| zT h15 rfl (aG rfl sy rfl (rG F x3 none ([(0, ([97] : List UInt8), ([] : List UInt8), ([(([98] : List UInt8), ([49] : List UInt8))] : List ((List UInt8) × List UInt8))), (2, ([] : List UInt8), ([120, 38] : List UInt8), ([] : List ((List UInt8) × List UInt8))), (0, ([99] : List UInt8), ([] : List UInt8), ([] : List ((List UInt8) × List UInt8))), (1, ([99] : List UInt8), ([] : List UInt8), ([] : List ((List UInt8) × List UInt8))), (1, ([97] : List UInt8), ([] : List UInt8), ([] : List ((List UInt8) × List UInt8)))] : List (Int × (List UInt8) × (List UInt8) × List ((List UInt8) × List UInt8))) none x16 (e17 h15)) ?_);refine zS rfl (aE (av := .v _) rfl h15 rfl) ?_;exact K _ 3 _ (ay (cz h15)) rfl rfl
  ·refine zF h15 rfl <| zF h15 rfl <| zF h15 rfl <| zS rfl (aF (av := .v _) rfl h15 rfl) ?_;exact K _ 3 _ (ay (cA h15)) rfl rfl
 refine za rfl <| ag <| aI ?_;obtain rfl := al H;exact And.intro rfl (Exists.intro _ (Exists.intro _ ⟨aC rfl (.refl _), aH [] rfl, rfl, rfl⟩))
end Go.Proofs.YteokdkimegepoaaGreatDoor
namespace Go.Pv
def cD (F : Nat) (a1 : Int) (y23 : List UInt8) (y32 : List UInt8) : Option Bool :=
grd (fL (y32.length + y23.length)) <|
lt (y32 ++ y23) fun x35 =>
grd (fL x35.length) <|
gB (gJ F x35) fun x39 x40 =>
bif decide (20 < a1) then
  some ((decide (x40 = 5)) && (decide ((x39.length : Int) = 0)))
else
  ek (decide (x40 = 0)) (okI (2 * a1)) <|
  some ((decide (x40 = 0)) && (decide ((x39.length : Int) = 2 * a1)))
def dF (F : Nat) (a1 : Int) (a2 : Bool) (y22 : List UInt8) (y23 : List UInt8) : Option Bool :=
bif a2 then
  grd (fL (y22.length + ([60, 97, 47, 62] : List UInt8).length)) <|
  lt (y22 ++ ([60, 97, 47, 62] : List UInt8)) fun x27 =>
  cD F a1 y23 x27
else
  grd (fL (y22.length + ([60, 97, 62, 60, 47, 97, 62] : List UInt8).length)) <|
  lt (y22 ++ ([60, 97, 62, 60, 47, 97, 62] : List UInt8)) fun x30 =>
  cD F a1 y23 x30
def dH (F : Nat) (a1 : Int) (a2 : Bool) (rec12 : ((List UInt8) × (List UInt8) × Int) → Option Bool) (y9 : List UInt8) (y10 : List UInt8) (y11 : Int) : Option Bool :=
bif decide (y11 < a1) then
  grd (fL (y9.length + ([60, 97, 62] : List UInt8).length)) <|
  lt (y9 ++ ([60, 97, 62] : List UInt8)) fun x16 =>
  grd (fL (y10.length + ([60, 47, 97, 62] : List UInt8).length)) <|
  lt (y10 ++ ([60, 47, 97, 62] : List UInt8)) fun x19 =>
  grd (okI (y11 + 1)) <|
  rec12 (x16, x19, y11 + 1)
else
  dF F a1 a2 y9 y10
def dG (F : Nat) (a1 : Int) (a2 : Bool) (n : Nat) : ((List UInt8) × (List UInt8) × Int) → Option Bool :=
  loop (fun rec x => dH F a1 a2 rec x.1 x.2.1 x.2.2) n
def eV (F : Nat) (a1 : Int) (a2 : Bool) : Option Bool :=
bnd (gg F) fun x4 =>
bif ((!x4) || (decide (a1 < 1))) || (decide (60 < a1)) then
  some x4
else
  dG F a1 a2 F (([] : List UInt8), ([] : List UInt8), 1)
end Go.Pv
namespace Go.Proofs.YteokdkimegepoaaGreatDoor
open Go.RowKit Go.Av Go.Pv
theorem oU : ∀ (args : Array Value) (w : World), (callFunc 9 args).run Tryz.prog w = .ok (.enter 9 args) w := fun _ _ => by kernel_rfl
theorem nv : ∀ (args : Array Value) (w : World), (callFunc 10 args).run Tryz.prog w = .ok (.enter 10 args) w := fun _ _ => by kernel_rfl
set_option maxRecDepth 100000 in
set_option maxHeartbeats 1000000 in
theorem ma (F : Nat) (a1 : Int) (a2 : Bool) (r3 : Bool) (H : eV F a1 a2 = some r3) : ACalls Tryz.prog 5 [i64 a1, B a2] [] (Ret (B r3) []) := by
 unfold eV at H
 refine au Tryz.func5 rfl rfl ?_;show AW _ _ 63 _ _ _;refine ac <| aa ?_;show AR _ _ _ _ _ [0] _;refine za rfl <| ag <| ac ?_;obtain ⟨x4, e5, H⟩ := eu H;refine aa ?_;show AR _ _ _ _ _ [0, 1] _;refine am rfl rfl (aG rfl oU rfl (nj F x4 e5) ?_);refine za rfl <| ag <| ac <| ac <| aa ?_;show AR _ _ _ _ _ [0, 1, 2, 3, 4, 5, 6, 7, 8, 9] _;refine zm rfl <| zS rfl (ce rfl) <| zm rfl <| bb (l := [6, 7, 8, 9]) 17 (B ((!x4) || (decide (a1 < 1)))) (fun K => ?_) ?_
 ·rcases ak (!x4) with h6 | h6
  ·refine zF h6 rfl <| zF h6 rfl <| zS rfl (aE (av := .v _) rfl h6 rfl) ?_;exact K _ 2 _ (ay (jX h6)) rfl rfl
  ·refine zM h6 rfl <| zU h6 rfl (bW rfl rfl) <| zS rfl (aF (av := .v _) rfl h6 rfl) ?_;exact K _ 2 _ (ay (jY h6)) rfl rfl
 refine zm rfl <| bb (l := []) 21 (B (((!x4) || (decide (a1 < 1))) || (decide (60 < a1)))) (fun K => ?_) ?_
 ·rcases ak ((!x4) || (decide (a1 < 1))) with h7 | h7
  ·refine zF h7 rfl <| zF h7 rfl <| zS rfl (aE (av := .v _) rfl h7 rfl) ?_;exact K _ 2 _ (ay (jX h7)) rfl rfl
  ·refine zM h7 rfl <| zU h7 rfl (gl rfl rfl) <| zS rfl (aF (av := .v _) rfl h7 rfl) ?_;exact K _ 2 _ (ay (jY h7)) rfl rfl
 refine ag <| ax rfl (fun c8 => ?_) (fun c8 => ?_)
 ·replace H := aV c8 H;refine ac <| aa ?_;show AR _ _ _ _ _ [0, 1] _;refine zm rfl <| za rfl <| ag <| aI ?_;obtain rfl := al H;exact And.intro rfl (Exists.intro _ (Exists.intro _ ⟨aC rfl (.refl _), aH [] rfl, rfl, rfl⟩))
 ·replace H := aW c8 H;refine aB <| ac <| aa ?_;show AR _ _ _ _ _ [0] _;refine za rfl <| ag <| ac <| aa ?_;show AR _ _ _ _ _ [0] _;refine za rfl <| ag <| bQ (X := (List UInt8) × (List UInt8)) (fun (y22, y23) => ⟨[(0, i64 a1), (1, B a2), (6, S y22), (7, S y23)], [], []⟩) (fun (y22, y23) => dF F a1 a2 y22 y23 = some r3) ?_ ?_
  ·refine ac <| aa ?_;show AR _ _ _ _ _ [0] _;refine za rfl <| ag <| aN <| cR (X := Nat × (List UInt8) × (List UInt8) × Int) (fun (n13, y9, y10, y11) => ⟨[(0, i64 a1), (1, B a2), (6, S y9), (7, S y10), (8, i64 y11)], [], []⟩) (fun (n13, y9, y10, y11) => dG F a1 a2 n13 (y9, y10, y11) = some r3) (fun (n13, y9, y10, y11) => n13) (F, ([] : List UInt8), ([] : List UInt8), 1) H (ba [] (.cons (.refl _) (.cons (.refl _) (.cons (.refl _) (.cons (.refl _) (.cons (.refl _) (.nil _)))))) rfl) ?_;rintro ⟨n13, y9, y10, y11⟩ H;obtain ⟨n13, rfl, H⟩ := ep H;replace H : dH F a1 a2 (dG F a1 a2 n13) y9 y10 y11 = some r3 := H
   unfold dH at H
   refine ac <| ac <| aa ?_;show AR _ _ _ _ _ [0, 1, 2] _;refine zm rfl <| zm rfl <| zS rfl (bW rfl rfl) <| ag <| ax rfl (fun c14 => ?_) (fun c14 => ?_)
   ·replace H := aV c14 H;refine aB <| ac <| aN <| ac ?_;obtain ⟨g15, H⟩ := aQ H;obtain ⟨x16, e17, H⟩ := bI H;refine aa ?_;show AR _ _ _ _ _ [0, 1, 2] _;refine zm rfl <| zS rfl (qq rfl rfl g15 e17) <| za rfl <| ag ?_;obtain ⟨g18, H⟩ := aQ H;obtain ⟨x19, e20, H⟩ := bI H;refine aa ?_;show AR _ _ _ _ _ [0, 1, 2] _;refine zm rfl <| zS rfl (qq rfl rfl g18 e20) <| za rfl <| ag ?_;obtain ⟨g21, H⟩ := aQ H;refine aa ?_;show AR _ _ _ _ _ [0, 1, 2] _;refine zm rfl <| zS rfl (eH rfl rfl g21) <| za rfl <| ag ?_;exact Exists.intro (n13, x16, x19, y11 + 1) ⟨H, Nat.lt_succ_self _, ba [] (.cons (.refl _) (.cons (.refl _) (.cons (.refl _) (.cons (.refl _) (.cons (.refl _) (.nil _)))))) rfl⟩
   ·replace H := aW c14 H;refine ct ?_;exact Exists.intro (y9, y10) ⟨H, ba [] (.cons (.refl _) (.cons (.refl _) (.cons (.refl _) (.cons (.refl _) (.nil _))))) rfl⟩
  rintro ⟨y22, y23⟩ H;replace H : dF F a1 a2 y22 y23 = some r3 := H
  unfold dF at H
  refine bQ (X := (List UInt8)) (fun y32 => ⟨[(0, i64 a1), (6, S y32), (7, S y23)], [], []⟩) (fun y32 => cD F a1 y23 y32 = some r3) ?_ ?_
  ·refine ac <| aa ?_;show AR _ _ _ _ _ [0] _;refine zm rfl <| ag <| ax rfl (fun c25 => ?_) (fun c25 => ?_)
   ·replace H := aV c25 H;obtain ⟨g26, H⟩ := aQ H;obtain ⟨x27, e28, H⟩ := bI H;refine aa ?_;show AR _ _ _ _ _ [0, 1, 2] _;refine zm rfl <| zS rfl (qq rfl rfl g26 e28) <| za rfl <| ag ?_;exact Exists.intro x27 ⟨H, ba [] (.cons (.refl _) (.cons (.refl _) (.cons (.refl _) (.nil _)))) rfl⟩
   ·replace H := aW c25 H;obtain ⟨g29, H⟩ := aQ H;obtain ⟨x30, e31, H⟩ := bI H;refine aa ?_;show AR _ _ _ _ _ [0, 1, 2] _;refine zm rfl <| zS rfl (qq rfl rfl g29 e31) <| za rfl <| ag ?_;exact Exists.intro x30 ⟨H, ba [] (.cons (.refl _) (.cons (.refl _) (.cons (.refl _) (.nil _)))) rfl⟩
  rintro y32 H;replace H : cD F a1 y23 y32 = some r3 := H
  unfold cD at H
  refine ac ?_;obtain ⟨g34, H⟩ := aQ H;obtain ⟨x35, e36, H⟩ := bI H;obtain ⟨g37, H⟩ := aQ H;obtain ⟨x39, x40, e41, H⟩ := cU H;refine aa ?_;show AR _ _ _ _ _ [0, 1, 2, 3, 4, 5, 6, 7, 8, 9] _;refine zm rfl <| zm rfl <| zS rfl (qq rfl rfl g34 e36) <| zX rfl (ix (bytes := 1) ah aj cX rfl g37) ?_;rintro _ _ ⟨t38, rfl, rfl⟩;refine am rfl rfl (aG rfl nv rfl (lF F x35 (some t38) x39 x40 e41) ?_);refine zS rfl (af (av := .tup _) rfl) <| zS rfl (aJ (av := slE _ _ _) rfl rfl) <| zS rfl (aJ (av := .v _) rfl rfl) <| zS rfl (aK (av := slE _ _ _) rfl) <| za rfl <| ag <| ac <| ac <| aa ?_;show AR _ _ _ _ _ [0, 1] _;refine zm rfl <| zS rfl (gl rfl rfl) <| ag <| ax rfl (fun c42 => ?_) (fun c42 => ?_)
  ·replace H := aV c42 H;refine ac <| aa ?_;show AR _ _ _ _ _ [0, 1, 2, 3, 4, 5, 6, 7] _;refine zm rfl <| zS rfl (bM rfl rfl) <| zm rfl <| bb (l := [7]) 53 (B ((decide (x40 = 5)) && (decide ((x39.length : Int) = 0)))) (fun K => ?_) ?_
   ·rcases ak (decide (x40 = 5)) with h43 | h43
    ·refine zU h43 rfl (af (av := slE _ _ _) rfl) <| zU h43 rfl (bc aw rfl) <| zU h43 rfl (bM rfl rfl) <| zS rfl (aE (av := .v _) rfl h43 rfl) ?_;exact K _ 3 _ (ay (cz h43)) rfl rfl
    ·refine zF h43 rfl <| zF h43 rfl <| zF h43 rfl <| zS rfl (aF (av := .v _) rfl h43 rfl) ?_;exact K _ 3 _ (ay (cA h43)) rfl rfl
   refine za rfl <| ag <| aI ?_;obtain rfl := al H;exact And.intro rfl (Exists.intro _ (Exists.intro _ ⟨aC rfl (.refl _), aH [] rfl, rfl, rfl⟩))
  ·replace H := aW c42 H;refine aB <| ac ?_;obtain ⟨g45, H⟩ := cu H;refine aa ?_;show AR _ _ _ _ _ [0, 1, 2, 3, 4, 5, 6, 7, 8, 9] _;refine zm rfl <| zS rfl (bM rfl rfl) <| zm rfl <| bb (l := [9]) 62 (B ((decide (x40 = 0)) && (decide ((x39.length : Int) = 2 * a1)))) (fun K => ?_) ?_
   ·rcases ak (decide (x40 = 0)) with h44 | h44
    ·refine zU h44 rfl (af (av := slE _ _ _) rfl) <| zU h44 rfl (bc aw rfl) <| zM h44 rfl <| zU h44 rfl (g_mul rfl rfl (g45 h44)) <| zU h44 rfl (bM rfl rfl) <| zS rfl (aE (av := .v _) rfl h44 rfl) ?_;exact K _ 5 _ (ay (cz h44)) rfl rfl
    ·refine zF h44 rfl <| zF h44 rfl <| zF h44 rfl <| zF h44 rfl <| zF h44 rfl <| zS rfl (aF (av := .v _) rfl h44 rfl) ?_;exact K _ 5 _ (ay (cA h44)) rfl rfl
   refine za rfl <| ag <| aI ?_;obtain rfl := al H;exact And.intro rfl (Exists.intro _ (Exists.intro _ ⟨aC rfl (.refl _), aH [] rfl, rfl, rfl⟩))
end Go.Proofs.YteokdkimegepoaaGreatDoor
namespace Go.Xm
abbrev Bs := List UInt8
abbrev At := Bs × Bs
abbrev Tok := Int × Bs × Bs × List At
def letB (c : UInt8) : Bool := ((decide (65 ≤ c.toNat) && decide (c.toNat ≤ 90)) || (decide (97 ≤ c.toNat) && decide (c.toNat ≤ 122))) || decide (c = 95)
def iz (c : UInt8) : Bool := letB c || ((((decide (48 ≤ c.toNat) && decide (c.toNat ≤ 57)) || decide (c = 45)) || decide (c = 46)) || decide (c = 58))
def fM (c : UInt8) : Bool := decide (c = 9) || decide (c = 10) || decide (c = 13) || decide (c = 32)
def nb (s : Bs) : Bool := (match s with | [] => false | c :: _ => letB c) && (s.all iz && decide (s.length ≤ 60))
def gp (s : Bs) : Option (Bs × Bs) := if nb (s.takeWhile iz) = true then some (s.takeWhile iz, s.dropWhile iz) else none
def iB (p : Bs) : Bs → Option (Bs × Bs)
  | [] => if p = [] then some ([], []) else none
  | c :: r => if p.isPrefixOf (c :: r) = true then some ([], (c :: r).drop p.length) else match iB p r with | none => none | some (a, b) => some (c :: a, b)
section
variable (dec : Bs → Option Bs)
def pd (n : Bs) (q : UInt8) (s : Bs) : Option (At × Bs) := match iB [q] s with
  | none => none
  | some (raw, r) => if 60 ∈ raw then none else match dec raw with | none => none | some t => some ((n, t), r)
def mg (s : Bs) : Option (At × Bs) := match gp s with
  | none => none
  | some (n, r) => if ([61, 34] : Bs).isPrefixOf r = true then pd dec n 34 (r.drop 2) else if ([61, 39] : Bs).isPrefixOf r = true then pd dec n 39 (r.drop 2) else none
def gZ : Nat → List At → Bs → Option (List At × Bool × Bs)
  | 0, _, _ => none
  | k + 1, as_, s =>
    if ([62] : Bs).isPrefixOf (s.dropWhile fM) = true then some (as_, false, (s.dropWhile fM).drop 1)
    else if ([47, 62] : Bs).isPrefixOf (s.dropWhile fM) = true then some (as_, true, (s.dropWhile fM).drop 2)
    else if (s.dropWhile fM).length = s.length then none
    else match mg dec (s.dropWhile fM) with
      | none => none
      | some (a, r) => if as_.any (fun x => decide (x.1 = a.1)) = true then none else gZ k (as_ ++ [a]) r
abbrev Sx := Bs × List Bs × Nat × List Tok
inductive Rx
  | ok (x : Sx)
  | no (e : Int)
def oY (t : Bs) (l : List Tok) : List Tok := if t = [] then l else l ++ [(2, [], t, [])]
def ll (n s : Bs) (open_ : List Bs) (k : Nat) (l : List Tok) : Rx := if open_.getLast? = some n then .ok (s, open_.dropLast, k, l ++ [(1, n, [], [])]) else .no 2
def kA (s : Bs) (o : List Bs) (k : Nat) (l : List Tok) : Rx :=
  match dec (s.takeWhile fun c => decide (c ≠ 60)) with
  | none => .no 2
  | some t => if o = [] then (if (s.takeWhile fun c => decide (c ≠ 60)).all fM = true then .ok (s.dropWhile (fun c => decide (c ≠ 60)), o, k, l) else .no 2)
      else .ok (s.dropWhile (fun c => decide (c ≠ 60)), o, k, oY t l)
def gV (p s : Bs) (o : List Bs) (k : Nat) (l : List Tok) : Rx := match iB p s with | none => .no 2 | some (_, r) => .ok (r, o, k, l)
def pc (s : Bs) (o : List Bs) (k : Nat) (l : List Tok) : Rx := match iB [93, 93, 62] s with | none => .no 2 | some (t, r) => if o = [] then .no 2 else .ok (r, o, k, oY t l)
def endP (s : Bs) (o : List Bs) (k : Nat) (l : List Tok) : Rx := match gp s with
  | none => .no 2
  | some (n, r) => if ([62] : Bs).isPrefixOf (r.dropWhile fM) = true then ll n ((r.dropWhile fM).drop 1) o k l else .no 2
def oZ (n : Bs) (as_ : List At) (empty : Bool) (r : Bs) (o : List Bs) (k : Nat) (l : List Tok) : Rx :=
  if o = [] ∧ k ≠ 0 then .no 2 else if 20 ≤ o.length then .no 5
  else if empty = true then .ok (r, o, (if o = [] then k + 1 else k), (l ++ [(0, n, [], as_)]) ++ [(1, n, [], [])]) else .ok (r, o ++ [n], (if o = [] then k + 1 else k), l ++ [(0, n, [], as_)])
def pb (s : Bs) (o : List Bs) (k : Nat) (l : List Tok) : Rx := match gp s with
  | none => .no 2
  | some (n, r) => match gZ dec (r.length + 1) [] r with
    | none => .no 2
    | some (as_, empty, r') => oZ n as_ empty r' o k l
def mf (s : Bs) (o : List Bs) (k : Nat) (l : List Tok) : Rx :=
  if ([60] : Bs).isPrefixOf s = false then kA dec s o k l
  else if ([60, 33, 45, 45] : Bs).isPrefixOf s = true then gV [45, 45, 62] (s.drop 4) o k l
  else if ([60, 63] : Bs).isPrefixOf s = true then gV [63, 62] (s.drop 2) o k l
  else if ([60, 33, 91, 67, 68, 65, 84, 65, 91] : Bs).isPrefixOf s = true then pc (s.drop 9) o k l
  else if ([60, 33] : Bs).isPrefixOf s = true then gV [62] (s.drop 2) o k l
  else if ([60, 47] : Bs).isPrefixOf s = true then endP (s.drop 2) o k l
  else pb dec (s.drop 1) o k l
def runP : Nat → Sx → Rx
  | 0, x => .no 2
  | n + 1, (s, o, k, l) => if s = [] then .ok (s, o, k, l) else match mf dec s o k l with
    | .ok y => runP n y
    | .no e => .no e
def tokP (s : Bs) : List Tok × Int := match runP dec (s.length + 1) (s, [], 0, []) with
  | .ok (_, o, k, l) => if o = [] ∧ 0 < k then (l, 0) else ([], 2)
  | .no e => ([], e)
end
theorem jG {p : Bs} (hp : p ≠ []) : ∀ {s a b : Bs}, iB p s = some (a, b) → s = a ++ p ++ b
  | [], a, b, h => by
    unfold iB at h
    rw [if_neg hp] at h; cases h
  | c :: r, a, b, h => by
    unfold iB at h
    by_cases g : p.isPrefixOf (c :: r) = true
    · rw [if_pos g] at h
      cases h
      obtain ⟨t, ht⟩ := List.isPrefixOf_iff_prefix.1 g
      rw [← ht, List.drop_left' rfl]; rfl
    · rw [if_neg g] at h
      cases e : iB p r with
      | none => rw [e] at h; cases h
      | some x =>
        obtain ⟨a', b'⟩ := x
        rw [e] at h
        cases h
        rw [jG hp e]
        simp
theorem mS {p s : Bs} (h : p.isPrefixOf s = true) : s = p ++ s.drop p.length := by
  obtain ⟨t, ht⟩ := List.isPrefixOf_iff_prefix.1 h
  rw [← ht, List.drop_left' rfl]
theorem qs (f : UInt8 → Bool) (s : Bs) : (s.dropWhile f).length ≤ s.length := by
  induction s with
  | nil => simp
  | cons c r ih => rw [List.dropWhile_cons]; split <;> simp at * <;> omega
theorem lf {s n r : Bs} (h : gp s = some (n, r)) : s = n ++ r ∧ nb n = true := by
  unfold gp at h
  split at h
  · rename_i g
    cases h
    exact ⟨(List.takeWhile_append_dropWhile).symm, g⟩
  · cases h
theorem name_pos {n : Bs} (h : nb n = true) : 0 < n.length := by
  cases n with
  | nil => cases h
  | cons c r => simp
section
variable {dec : Bs → Option Bs}
theorem oA {n s : Bs} {q : UInt8} {a : At} {r : Bs} (h : pd dec n q s = some (a, r)) : r.length < s.length := by
  unfold pd at h
  cases e : iB [q] s with
  | none => rw [e] at h; cases h
  | some x =>
    obtain ⟨raw, r'⟩ := x
    rw [e] at h
    simp only at h
    split at h
    · cases h
    · split at h
      · cases h
      · cases h
        have := jG (by simp) e
        rw [this]; simp; omega
theorem ly {s : Bs} {a : At} {r : Bs} (h : mg dec s = some (a, r)) : r.length < s.length := by
  unfold mg at h
  cases e : gp s with
  | none => rw [e] at h; cases h
  | some x =>
    obtain ⟨n, r'⟩ := x
    rw [e] at h
    obtain ⟨rfl, hn⟩ := lf e
    have hp := name_pos hn
    simp only at h
    split at h
    · have := oA h
      rw [List.length_drop] at this; rw [List.length_append]; omega
    · split at h
      · have := oA h
        rw [List.length_drop] at this; rw [List.length_append]; omega
      · cases h
theorem mN : ∀ {k : Nat} {as_ : List At} {s : Bs} {bs : List At} {e : Bool} {r : Bs}, gZ dec k as_ s = some (bs, e, r) → r.length < s.length
  | 0, _, _, _, _, _, h => by cases h
  | k + 1, as_, s, bs, e, r, h => by
    have hd := qs fM s
    unfold gZ at h
    split at h
    · rename_i g
      cases h
      have := congrArg List.length (mS g)
      rw [List.length_append] at this
      simp at this ⊢
      omega
    · split at h
      · rename_i g
        cases h
        have := congrArg List.length (mS g)
        rw [List.length_append] at this
        simp at this ⊢
        omega
      · split at h
        · cases h
        · cases ea : mg dec (s.dropWhile fM) with
          | none => rw [ea] at h; cases h
          | some x =>
            obtain ⟨a, r'⟩ := x
            rw [ea] at h
            simp only at h
            have h1 := ly ea
            split at h
            · cases h
            · have := mN h
              omega
theorem lT : ∀ {k m : Nat} {as_ : List At} {s : Bs}, s.length < k → s.length < m → gZ dec k as_ s = gZ dec m as_ s
  | 0, _, _, _, h, _ => by omega
  | _, 0, _, _, _, h => by omega
  | k + 1, m + 1, as_, s, hk, hm => by
    have hd := qs fM s
    unfold gZ
    split
    · rfl
    · split
      · rfl
      · split
        · rfl
        · rename_i g
          cases ea : mg dec (s.dropWhile fM) with
          | none => rfl
          | some x =>
            obtain ⟨a, r'⟩ := x
            have h1 := ly ea
            simp only
            split
            · rfl
            · exact lT (by omega) (by omega)
theorem mR {p s : Bs} (hp : p ≠ []) {o : List Bs} {k : Nat} {l : List Tok} {x : Sx} (h : gV p s o k l = .ok x) : x.1.length ≤ s.length ∧ x.2 = (o, k, l) := by
  unfold gV at h
  cases e : iB p s with
  | none => rw [e] at h; cases h
  | some y =>
    obtain ⟨a, b⟩ := y
    rw [e] at h
    cases h
    have := congrArg List.length (jG hp e)
    simp at this ⊢
    omega
theorem step_len {s : Bs} {o : List Bs} {k : Nat} {l : List Tok} {x : Sx} (hs : s ≠ []) (h : mf dec s o k l = .ok x) : x.1.length < s.length := by
  have hpos := List.length_pos_iff.2 hs
  have pl : ∀ p : Bs, p.isPrefixOf s = true → p.length ≤ s.length := fun p g => by
    have := congrArg List.length (mS g)
    rw [List.length_append] at this
    omega
  unfold mf at h
  split at h
  · rename_i g
    have hc : ∃ c r, s = c :: r ∧ c ≠ 60 := by
      cases s with
      | nil => exact absurd rfl hs
      | cons c r =>
        refine ⟨c, r, rfl, fun e => ?_⟩
        rw [e] at g
        simp at g
    obtain ⟨c, r, rfl, hc⟩ := hc
    have hd : ((c :: r).dropWhile fun c => decide (c ≠ 60)).length < (c :: r).length := by
      rw [List.dropWhile_cons, if_pos (by simpa using hc)]
      have := qs (fun c => decide (c ≠ 60)) r
      rw [List.length_cons]; omega
    unfold kA at h
    split at h
    · cases h
    · split at h
      · split at h
        · cases h; exact hd
        · cases h
      · cases h; exact hd
  split at h
  · rename_i g
    have := (mR (by simp) h).1
    have := pl _ g
    rw [List.length_drop] at *
    simp at *; omega
  split at h
  · rename_i g
    have := (mR (by simp) h).1
    have := pl _ g
    rw [List.length_drop] at *
    simp at *; omega
  split at h
  · rename_i g
    have h9 := pl _ g
    unfold pc at h
    cases e : iB [93, 93, 62] (s.drop 9) with
    | none => rw [e] at h; cases h
    | some y =>
      obtain ⟨a, b⟩ := y
      rw [e] at h
      simp only at h
      have := congrArg List.length (jG (by simp) e)
      simp at this h9
      split at h
      · cases h
      · cases h
        simp only
        omega
  split at h
  · rename_i g
    have := (mR (by simp) h).1
    have := pl _ g
    rw [List.length_drop] at *
    simp at *; omega
  split at h
  · rename_i g
    have h2 := pl _ g
    unfold endP at h
    cases e : gp (s.drop 2) with
    | none => rw [e] at h; cases h
    | some y =>
      obtain ⟨n, r⟩ := y
      rw [e] at h
      simp only at h
      have := congrArg List.length (lf e).1
      have hd := qs fM r
      simp at this h2
      split at h
      · unfold ll at h
        split at h
        · cases h
          simp only [List.length_drop]
          omega
        · cases h
      · cases h
  · unfold pb at h
    cases e : gp (s.drop 1) with
    | none => rw [e] at h; cases h
    | some y =>
      obtain ⟨n, r⟩ := y
      rw [e] at h
      simp only at h
      have := congrArg List.length (lf e).1
      simp at this
      cases ea : gZ dec (r.length + 1) [] r with
      | none => rw [ea] at h; cases h
      | some z =>
        obtain ⟨as_, em, r'⟩ := z
        rw [ea] at h
        simp only at h
        have hl := mN ea
        unfold oZ at h
        split at h
        · cases h
        · split at h
          · cases h
          · split at h <;> (cases h; simp only; omega)
end
end Go.Xm
namespace Go.Pv
def dS (F : Nat) (a1 : Int) : Option ((List UInt8) × Bool) :=
bif ((!((((decide (a1 = 9)) || (decide (a1 = 10))) || (decide (a1 = 13))) || ((decide (32 ≤ a1)) && (decide (a1 ≤ 55295))))) && (!((decide (57344 ≤ a1)) && (decide (a1 ≤ 65533))))) && (!((decide (65536 ≤ a1)) && (decide (a1 ≤ 1114111)))) then
  some (([] : List UInt8), false)
else
  bif decide (a1 < 128) then
    some (([Go.Av.toB a1] : List UInt8), true)
  else
    bif decide (a1 < 2048) then
      grd (iJ a1 64) <|
      grd (okI (192 + (a1 / 64))) <|
      grd (iJ a1 64) <|
      grd (okI (128 + (a1 % 64))) <|
      some (([Go.Av.toB (192 + (a1 / 64)), Go.Av.toB (128 + (a1 % 64))] : List UInt8), true)
    else
      bif decide (a1 < 65536) then
        grd (iJ a1 4096) <|
        grd (okI (224 + (a1 / 4096))) <|
        grd (iJ a1 64) <|
        grd (iJ (a1 / 64) 64) <|
        grd (okI (128 + ((a1 / 64) % 64))) <|
        grd (iJ a1 64) <|
        grd (okI (128 + (a1 % 64))) <|
        some (([Go.Av.toB (224 + (a1 / 4096)), Go.Av.toB (128 + ((a1 / 64) % 64)), Go.Av.toB (128 + (a1 % 64))] : List UInt8), true)
      else
        grd (iJ a1 262144) <|
        grd (okI (240 + (a1 / 262144))) <|
        grd (iJ a1 4096) <|
        grd (iJ (a1 / 4096) 64) <|
        grd (okI (128 + ((a1 / 4096) % 64))) <|
        grd (iJ a1 64) <|
        grd (iJ (a1 / 64) 64) <|
        grd (okI (128 + ((a1 / 64) % 64))) <|
        grd (iJ a1 64) <|
        grd (okI (128 + (a1 % 64))) <|
        some (([Go.Av.toB (240 + (a1 / 262144)), Go.Av.toB (128 + ((a1 / 4096) % 64)), Go.Av.toB (128 + ((a1 / 64) % 64)), Go.Av.toB (128 + (a1 % 64))] : List UInt8), true)
def hO (F : Nat) (a1 : UInt8) : Option Int :=
bif (decide (48 ≤ (a1.toNat : Int))) && (decide ((a1.toNat : Int) ≤ 57)) then
  some ((a1 - 48).toNat : Int)
else
  bif (decide (97 ≤ (a1.toNat : Int))) && (decide ((a1.toNat : Int) ≤ 102)) then
    grd (okI (((a1 - 97).toNat : Int) + 10)) <|
    some (((a1 - 97).toNat : Int) + 10)
  else
    bif (decide (65 ≤ (a1.toNat : Int))) && (decide ((a1.toNat : Int) ≤ 70)) then
      grd (okI (((a1 - 65).toNat : Int) + 10)) <|
      some (((a1 - 65).toNat : Int) + 10)
    else
      some 99
def jh (a1 : List UInt8) (y21 : Int) : Option Int :=
bif decide ((a1.length : Int) = 0) then
  some (-1)
else
  some y21
def gu (y5 : Int) (rec6 : (Int × Int) → Option Int) (y18 : Int) : Option Int :=
grd (okI (y5 + 1)) <|
rec6 (y18, y5 + 1)
def gx (F : Nat) (a1 : List UInt8) (a2 : Int) (rec6 : (Int × Int) → Option Int) (y4 : Int) (y5 : Int) : Option Int :=
bif decide (y5 < (a1.length : Int)) then
  grd (cG y5 a1.length) <|
  lt (at_ a1 y5) fun x10 =>
  bnd (hO F x10) fun x12 =>
  bif decide (a2 ≤ x12) then
    some (-1)
  else
    grd (okI (a2 * y4)) <|
    grd (okI ((a2 * y4) + x12)) <|
    bif decide (1114111 < (a2 * y4) + x12) then
      gu y5 rec6 1114112
    else
      gu y5 rec6 ((a2 * y4) + x12)
else
  jh a1 y4
def gw (F : Nat) (a1 : List UInt8) (a2 : Int) (n : Nat) : (Int × Int) → Option Int :=
  loop (fun rec x => gx F a1 a2 rec x.1 x.2) n
def eF (F : Nat) (a1 : List UInt8) (a2 : Int) : Option Int :=
gw F a1 a2 F (0, 0)
def ig (F : Nat) (y28 : Int) : Option ((List UInt8) × Bool) :=
gB (dS F y28) fun x30 x31 =>
some (x30, x31)
def gP (F : Nat) (a1 : List UInt8) : Option ((List UInt8) × Bool) :=
bif decide (a1 = ([97, 109, 112] : List UInt8)) then
  some (([38] : List UInt8), true)
else
  bif decide (a1 = ([108, 116] : List UInt8)) then
    some (([60] : List UInt8), true)
  else
    bif decide (a1 = ([103, 116] : List UInt8)) then
      some (([62] : List UInt8), true)
    else
      bif decide (a1 = ([113, 117, 111, 116] : List UInt8)) then
        some (([34] : List UInt8), true)
      else
        bif decide (a1 = ([97, 112, 111, 115] : List UInt8)) then
          some (([39] : List UInt8), true)
        else
          ek (!(decide ((a1.length : Int) < 2))) (cG 0 a1.length) <|
          lt (at_ a1 0) fun x11 =>
          bif (decide ((a1.length : Int) < 2)) || (!decide (x11 = 35)) then
            some (([] : List UInt8), false)
          else
            grd (iA 1 a1.length) <|
            lt (eo a1 1) fun x15 =>
            bnd (eF F x15 10) fun x17 =>
            grd (cG 1 a1.length) <|
            lt (at_ a1 1) fun x20 =>
            bif decide (x20 = 120) then
              grd (iA 2 a1.length) <|
              lt (eo a1 2) fun x24 =>
              bnd (eF F x24 16) fun x26 =>
              ig F x26
            else
              ig F x17
end Go.Pv
namespace Go.Pn
open Go.Pv Go.Av
abbrev Bs := List UInt8
def bl (c : UInt8) : Bool := (((decide (c = 9)) || (decide (c = 10))) || (decide (c = 13))) || (decide (c = 32))
mutual
/-- Behind a sign. -/
def T1 : Bs → Bs
  | [] => []
  | c :: r => bif bl c then T2 r else c :: T1 r
/-- In a gap behind a sign. -/
def T2 : Bs → Bs
  | [] => []
  | c :: r => bif bl c then T2 r else 32 :: c :: T1 r
end
def trim : Bs → Bs
  | [] => []
  | c :: r => bif bl c then trim r else c :: T1 r
def tl (out : Bs) (gap : Bool) (r : Bs) : Bs := if out = [] then trim r else bif gap then T2 r else T1 r
def wgo (cur : Bs) : Bs → List Bs
  | [] => if cur = [] then [] else [cur]
  | c :: r => bif bl c then (if cur = [] then wgo [] r else cur :: wgo [] r) else wgo (cur ++ [c]) r
theorem rest_wgo (s : Bs) : (∀ cur : Bs, cur ≠ [] → Str.join [32] (wgo cur s) = cur ++ T1 s) ∧ Str.join [32] (wgo [] s) = trim s ∧ Str.rest [32] (wgo [] s) = T2 s := by
  induction s with
  | nil => exact ⟨fun cur h => by simp [wgo, h, Str.join, Str.rest, T1], by simp [wgo, Str.join, trim], by simp [wgo, Str.rest, T2]⟩
  | cons c r ih =>
    obtain ⟨h1, h2, h3⟩ := ih
    cases hb : bl c with
    | true =>
      refine ⟨fun cur h => ?_, ?_, ?_⟩
      · simp [wgo, hb, h, Str.join, T1, h3]
      · simp [wgo, hb, trim, h2]
      · simp [wgo, hb, T2, h3]
    | false =>
      have h4 := h1 [c] (by simp)
      refine ⟨fun cur h => ?_, ?_, ?_⟩
      · simp only [wgo, hb, cond_false, T1]
        rw [h1 _ (by simp)]; simp
      · simp only [wgo, hb, cond_false, trim, List.nil_append]
        rw [h4]; rfl
      · simp only [wgo, hb, cond_false, T2, List.nil_append]
        have : Str.rest [32] (wgo [c] r) = 32 :: Str.join [32] (wgo [c] r) := by
          cases hw : wgo [c] r with
          | nil => rw [hw] at h4; simp [Str.join] at h4
          | cons w ws => simp [Str.rest, Str.join]
        rw [this, h4]; rfl
theorem join_wgo (s : Bs) : Str.join [32] (wgo [] s) = trim s := (rest_wgo s).2.1
theorem rF (s : Bs) : ∀ cur : Bs, Str.total (wgo cur s) + (wgo cur s).length ≤ cur.length + s.length + 1 := by
  induction s with
  | nil => intro cur; by_cases h : cur = [] <;> simp [wgo, h, Str.total]
  | cons c r ih =>
    intro cur
    cases hb : bl c with
    | true =>
      have := ih []
      by_cases h : cur = []
      · simp [wgo, hb, h] at this ⊢; omega
      · simp [wgo, hb, h, Str.total] at this ⊢; omega
    | false =>
      have := ih (cur ++ [c])
      simp [wgo, hb] at this ⊢; omega
theorem kO (F : Nat) (c : UInt8) : iM F c = some (bl c) := by
  have : ∀ n : Nat, n < 256 → decide (0 ≤ Go.Lib.indexByte ([9, 10, 13, 32] : List UInt8) (UInt8.ofNat n)) = bl (UInt8.ofNat n) := by decide +kernel
  have h := this c.toNat c.toNat_lt
  rw [UInt8.ofNat_toNat] at h
  unfold iM
  simp only [bz]
  rw [h]
theorem ent_end (F : Nat) (s : Bs) (hs : s.length ≤ 1000000) (n : Nat) (l : List Bs) (hl : l.length + Str.total l ≤ 100000000) (hn1 : n ≥ 1) : cW F s n (l, (-1), ((s.length + 1 : Nat) : Int)) = some (Str.join [32] l) := by
  obtain ⟨m, rfl⟩ : ∃ m, n = m + 1 := ⟨n - 1, by omega⟩;show eA F s (cW F s m) l (-1) ((s.length + 1 : Nat) : Int) = _
  unfold eA gj
  have h1 : ¬ (((s.length + 1 : Nat) : Int) ≤ (s.length : Int)) := by omega
  rw [bF h1, grd_Join (by simp; omega), bz]
theorem ent_loop (F : Nat) (s : Bs) (hs : s.length ≤ 1000000) : ∀ (n : Nat) (l : List Bs) (fr : Int) (cur : Bs) (i : Nat), s.length + 1 - i < n → i ≤ s.length → l.length ≤ i →
    ((fr = -1 ∧ cur = []) ∨ ∃ f : Nat, fr = (f : Int) ∧ f < i ∧ cur = (s.take i).drop f) → (l ++ wgo cur (s.drop i)).length + Str.total (l ++ wgo cur (s.drop i)) ≤ 100000000 →
    cW F s n (l, fr, (i : Int)) = some (Str.join [32] (l ++ wgo cur (s.drop i))) := by
  intro n
  induction n with
  | zero => intro l fr cur i h; omega
  | succ n ih =>
    intro l fr cur i hn hi hl hf hJ;show eA F s (cW F s n) l fr (i : Int) = _
    unfold eA ez
    have hend : ∀ l : List Bs, l.length + Str.total l ≤ 100000000 → n ≥ 1 → cW F s n (l, (-1), ((s.length + 1 : Nat) : Int)) = some (Str.join [32] l) := ent_end F s hs n
    by_cases h : i < s.length
    · have hd : s.drop i = s[i] :: s.drop (i + 1) := be h
      have hne : decide ((i : Int) = (s.length : Int)) = false := decide_eq_false (by omega)
      simp (disch := omega) only [bT, hne, Bool.not_false, jq, eh, bz, iH h, kO, bndc_t, bO, Bool.false_or]
      rw [hd] at hJ ⊢
      cases hb : bl s[i] with
      | true =>
        simp only [wgo, hb, cond_true] at hJ ⊢
        rcases hf with ⟨rfl, rfl⟩ | ⟨f, rfl, hfi, rfl⟩
        · simp only [if_true] at hJ ⊢
          simp (disch := omega) only [Bool.not_true, Bool.false_and, cond_false, Bool.true_and, bF, cY, cP]
          exact ih l (-1) [] (i + 1) (by omega) (by omega) (by omega) (.inl ⟨rfl, rfl⟩) hJ
        · have hc : (s.take i).drop f ≠ [] := by
            intro h2; have := congrArg List.length h2; simp at this; omega
          simp only [hc, if_false] at hJ ⊢
          simp (disch := (first | omega | (simp; omega))) only [Bool.not_true, Bool.false_and, cond_false, Bool.true_and, bT, mm, dC, pg, cY, cP]
          rw [ih (l ++ [(s.take i).drop f]) (-1) [] (i + 1) (by omega) (by omega) (by simp; omega) (.inl ⟨rfl, rfl⟩) (by simpa using hJ)]
          simp
      | false =>
        simp only [wgo, hb, cond_false] at hJ ⊢
        rcases hf with ⟨rfl, rfl⟩ | ⟨f, rfl, hfi, rfl⟩
        · simp (disch := omega) only [Bool.not_false, Bool.true_and, bT, cY, cP]
          have hc : ([] : Bs) ++ [s[i]] = (s.take (i + 1)).drop i := by
            rw [List.take_succ_eq_append_getElem h, List.drop_append_of_le_length (by simp; omega), bh (by simp; omega)]
          rw [hc] at hJ ⊢
          exact ih l (i : Int) _ (i + 1) (by omega) (by omega) (by omega) (.inr ⟨i, rfl, by omega, rfl⟩) hJ
        · simp (disch := omega) only [Bool.not_false, Bool.true_and, bF, Bool.false_and, cond_false, cY, cP]
          have hc : (s.take i).drop f ++ [s[i]] = (s.take (i + 1)).drop f := by
            rw [List.take_succ_eq_append_getElem h, List.drop_append_of_le_length (by simp; omega)]
          rw [hc] at hJ ⊢
          exact ih l (f : Int) _ (i + 1) (by omega) (by omega) (by omega) (.inr ⟨f, rfl, by omega, rfl⟩) hJ
    · have hi2 : i = s.length := by omega
      subst hi2
      have hyes : decide ((s.length : Int) = (s.length : Int)) = true := decide_eq_true rfl
      simp (disch := omega) only [bT, hyes, Bool.not_true, eZ, bz, kO, iG, Bool.true_or, List.drop_length] at hJ ⊢
      rcases hf with ⟨rfl, rfl⟩ | ⟨f, rfl, hfi, rfl⟩
      · simp (disch := omega) only [Bool.false_and, cond_false, Bool.true_and, bF, cY, cP]
        rw [hend l (by simpa [wgo] using hJ) (by omega)]
        simp [wgo, eZ, iG]
      · have hc : (s.take s.length).drop f ≠ [] := by
          intro h2; have := congrArg List.length h2; simp at this; omega
        simp only [wgo, hc, if_false] at hJ ⊢
        simp (disch := (first | omega | (simp; omega))) only [Bool.false_and, cond_false, Bool.true_and, bT, mm, dC, pg, cY, cP]
        exact hend _ hJ (by omega)
theorem ent_Trim_eq (F : Nat) (s : Bs) (hs : s.length ≤ 1000000) (hF : s.length + 1 < F) : jF F s = some (trim s) := by
  have h1 := rF s []
  have := ent_loop F s hs F [] (-1) [] 0 (by omega) (by omega) (by simp) (.inl ⟨rfl, rfl⟩) (by simp at h1 ⊢; omega)
  rw [← join_wgo]
  simpa [jF] using this
end Go.Pn
namespace Go.Pn
open Go.Pv Go.Av
theorem kM {c : UInt8} {s : Bs} (h : ∀ b ∈ s, b ≠ c) : Go.Lib.indexByte s c = -1 := by
  induction s with
  | nil => rfl
  | cons b r ih => simp [Go.Lib.indexByte, h b (by simp), ih (fun x hx => h x (by simp [hx]))]
end Go.Pn
namespace Go.Pn
open Go.Pv Go.Av
theorem qm (s : Bs) (p : Nat) : 1 ≤ (jp s p).2 := by
  unfold jp Utf8.decode
  simp only
  repeat' split
  all_goals simp
theorem hN (n : Int) : (ca n).length ≤ 4 := by
  unfold ca Utf8.encode
  simp only
  repeat' split
  all_goals simp
theorem lI (n : Int) (h : 128 ≤ n) : 2 ≤ (ca n).length ∧ ((ca n).length = 2 → ¬ (59 : UInt8) = at_ (ca n) 1) := by
  have hc : ¬ (if Utf8.valid n = true then n.toNat else Utf8.runeError) < 128 := by
    split
    · omega
    · decide
  unfold ca Utf8.encode
  simp only
  generalize (if Utf8.valid n = true then n.toNat else Utf8.runeError) = c at hc ⊢
  rw [if_neg hc]
  by_cases h2 : c < 2048
  · rw [if_pos h2]
    refine ⟨by simp, fun _ => ?_⟩;show ¬ (59 : UInt8) = UInt8.ofNat (128 + c % 64);intro e
    have := congrArg UInt8.toNat e
    rw [UInt8.toNat_ofNat'] at this
    have e59 : (59 : UInt8).toNat = 59 := rfl
    omega
  · rw [if_neg h2]
    split <;> simp
theorem pN (F : Nat) (hF : 5 ≤ F) (r : Int) : ∃ j, fq F [38, 59] r = some j := by
  unfold fq
  by_cases h1 : 0 ≤ r ∧ r < 128
  · simp only [h1, decide_true, Bool.and_self, cond_true]; exact ⟨_, rfl⟩
  · have hf : ((decide (0 ≤ r)) && (decide (r < 128))) = false := by
      cases h : (decide (0 ≤ r)) && (decide (r < 128)) with
      | false => rfl
      | true => exact absurd (by simpa using h) h1
    rw [hf, cond_false]
    by_cases h2 : r = 65533
    · rw [bT h2]
      obtain ⟨m, rfl⟩ : ∃ m, F = m + 3 := ⟨F - 3, by omega⟩
      have e0 : jp [38, 59] 0 = (38, 1) := by decide +kernel
      have e1 : jp [38, 59] 1 = (59, 1) := by decide +kernel
      refine ⟨-1, ?_⟩;show dk [38, 59] (fh [38, 59] (m + 2)) 0 = _
      unfold dk
      simp only [e0]
      show dk [38, 59] (fh [38, 59] (m + 1)) 1 = _
      unfold dk
      simp only [e1]
      rfl
    · rw [bF h2]
      have hv : ∃ b, fX F r = some b ∧ (b = true → 0 ≤ r) := by
        unfold fX
        by_cases ha : 0 ≤ r ∧ r < 55296
        · refine ⟨true, ?_, fun _ => ha.1⟩; simp [ha]
        · by_cases hb : 57343 < r ∧ r ≤ 1114111
          · refine ⟨true, ?_, fun _ => by omega⟩; simp [hb]
          · refine ⟨false, ?_, fun h => by cases h⟩
            have e1 : ((decide (0 ≤ r)) && (decide (r < 55296))) = false := by
              cases h : (decide (0 ≤ r)) && (decide (r < 55296)) with
              | false => rfl
              | true => exact absurd (by simpa using h) ha
            have e2 : ((decide (57343 < r)) && (decide (r ≤ 1114111))) = false := by
              cases h : (decide (57343 < r)) && (decide (r ≤ 1114111)) with
              | false => rfl
              | true => exact absurd (by simpa using h) hb
            rw [e1, e2]; rfl
      obtain ⟨b, hb, hp⟩ := hv
      rw [hb, bO]
      cases b with
      | false => exact ⟨-1, rfl⟩
      | true =>
        have hr : 128 ≤ r := by have := hp rfl; omega
        obtain ⟨k1, k2⟩ := lI r hr
        have k3 := hN r
        obtain ⟨m, rfl⟩ : ∃ m, F = m + 1 := ⟨F - 1, by omega⟩;refine ⟨-1, ?_⟩
        simp (disch := omega) only [Bool.not_true, cond_false, bz, cY]
        show fi [38, 59] (ca r) (gR [38, 59] (ca r) m) = _
        unfold fi fR
        by_cases h3 : (ca r).length = 2
        · have e1 : ((ca r).length : Int) - 1 = 1 := by omega
          have e2 : at_ ([38, 59] : Bs) 1 = 59 := rfl
          have e3 : eo ([38, 59] : Bs) (1 + 1) = [] := rfl
          rw [e1]
          simp (disch := (first | omega | (simp; done) | (simp; omega))) only [bT, eh, bz, e2, decide_eq_false (k2 h3), Bool.not_false, jU, cY, fN, e3]
          rfl
        · have : ¬ ((ca r).length : Int) - 1 < (([38, 59] : Bs).length : Int) := by simp; omega
          rw [bF this]
theorem jB (s : Bs) (c : UInt8) : -1 ≤ Go.Lib.indexByte s c ∧ Go.Lib.indexByte s c < s.length := by
  induction s with
  | nil => simp [Go.Lib.indexByte]
  | cons b r ih =>
    unfold Go.Lib.indexByte
    split
    · first | (simp; done) | (simp; omega)
    · split
      · first | (simp; done) | (simp; omega)
      · rename_i h
        have h' : ¬ Go.Lib.indexByte r c = -1 := by simpa using h
        simp; omega
theorem jb (s cs : Bs) : -1 ≤ Go.Lib.indexAny s cs ∧ Go.Lib.indexAny s cs < s.length := by
  induction s with
  | nil => simp [Go.Lib.indexAny]
  | cons b r ih =>
    unfold Go.Lib.indexAny
    split
    · first | (simp; done) | (simp; omega)
    · split
      · first | (simp; done) | (simp; omega)
      · rename_i h
        have h' : ¬ Go.Lib.indexAny r cs = -1 := by simpa using h
        simp; omega
theorem oS (F : Nat) (hF : 5 ≤ F) (s : Bs) : ∀ (n y : Nat), s.length - y < n → ∃ j, fk F s [38, 59] n y = some j ∧ -1 ≤ j ∧ j < s.length := by
  intro n
  induction n with
  | zero => intro y h; omega
  | succ n ih =>
    intro y hy;show ∃ j, fm F s [38, 59] (fk F s [38, 59] n) y = some j ∧ _
    unfold fm fT
    by_cases h : y < s.length
    · rw [bT h]
      obtain ⟨j, hj⟩ := pN F hF ((jp s y).1 : Int)
      rw [hj, bO]
      by_cases h0 : 0 ≤ j
      · rw [bT h0]; exact ⟨_, rfl, by omega, by omega⟩
      · rw [bF h0]
        have := qm s y
        exact ih _ (by omega)
    · rw [bF h]; exact ⟨-1, rfl, by omega, by omega⟩
theorem qL (F : Nat) (s : Bs) (hF : 20 ≤ F) : ∃ j, iD F s [38, 59] = some j ∧ -1 ≤ j ∧ j < s.length := by
  unfold iD
  by_cases h : 8 < s.length
  · obtain ⟨h1, h2⟩ := jb s [38, 59]
    refine ⟨Go.Lib.indexAny s [38, 59], ?_, h1, h2⟩
    simp [h]
  · have e : ((decide (8 < s.length)) && (decide (2 ≤ ([38, 59] : Bs).length))) = false := by simp [h]
    rw [e, cond_false]
    unfold jo mX fS
    have e3 : decide ((8 : Int) < (s.length : Int)) = false := decide_eq_false (by omega)
    simp (disch := (first | omega | (simp; done) | (simp; omega))) only [bF, bO, e3, Bool.not_false, jU]
    exact oS F (by omega) s F 0 (by omega)
theorem oV (F : Nat) (s : Bs) (hs : s.length ≤ 100000) : ∃ b, eB F s [95] = some b := by
  unfold eB iD jo fj fq
  have e : ((decide (8 < s.length)) && (decide (2 ≤ ([95] : Bs).length))) = false := by simp
  have e2 : at_ ([95] : Bs) 0 = 95 := rfl
  have e3 : fB [95] = true := by decide
  have e4 : ((95 : UInt8).toNat : Int) = 95 := rfl
  rw [e, cond_false]
  simp (disch := (first | omega | (simp; done) | (simp; omega))) only [e3, jU, jV, bF, bT, eh, bz, e2, e4, grd_J]
  exact ⟨_, rfl⟩
theorem lb (x : Int) : 0 ≤ IntKind.u64.wrap x := by
  have : IntKind.u64.wrap x = x % 18446744073709551616 := rfl
  rw [this]; omega
def Ok3 (r : Option (Int × Int)) : Prop := ∃ v e, r = some (v, e) ∧ 0 ≤ v ∧ (e = 0 ∨ e = 1 ∨ e = 2)
theorem rI (F : Nat) (s : Bs) (b c : Int) (hb : b = 10 ∨ b = 16) (hs : s.length ≤ 100000) : ∀ (n i : Nat) (v : Int), s.length - i < n → 0 ≤ v → Ok3 (bB F s b c n (false, v, (i : Int))) := by
  intro n
  induction n with
  | zero => intro i v h; omega
  | succ n ih =>
    intro i v hn hv;show Ok3 (cO F s b c (bB F s b c n) false v (i : Int))
    unfold cO dq dK
    by_cases h : i < s.length
    · have key : ∀ d : UInt8, Ok3 (ci b c false v (i : Int) (bB F s b c n) d) := by
        intro d
        unfold ci cN
        cases decide (((Go.Av.toB b).toNat : Int) ≤ (d.toNat : Int)) with
        | true => exact ⟨0, 2, rfl, by omega, by omega⟩
        | false =>
          rw [cond_false]
          cases decide (c ≤ v) with
          | true => exact ⟨_, 1, rfl, lb _, by omega⟩
          | false =>
            rw [cond_false]
            generalize ((decide (IntKind.u64.wrap ((IntKind.u64.wrap (v * (IntKind.u64.wrap b))) + (IntKind.u64.wrap (d.toNat : Int))) < IntKind.u64.wrap (v * (IntKind.u64.wrap b)))) || (decide (IntKind.u64.wrap ((IntKind.u64.wrap (1 * 2 ^ min (Int.toNat (IntKind.u64.wrap 64)) IntKind.u64.bits)) - 1) < IntKind.u64.wrap ((IntKind.u64.wrap (v * (IntKind.u64.wrap b))) + (IntKind.u64.wrap (d.toNat : Int)))))) = q
            cases q with
            | true => exact ⟨_, 1, rfl, lb _, by omega⟩
            | false =>
              rw [cond_false, cY (by omega), cP]
              exact ih _ _ (by omega) (lb _)
      have hb0 : decide (b = 0) = false := decide_eq_false (by omega)
      simp (disch := omega) only [bT, eh, bz, iH h, hb0, Bool.and_false, cond_false, bO, fW]
      generalize ((decide (48 ≤ ((s[i]).toNat : Int))) && (decide (((s[i]).toNat : Int) ≤ 57))) = q1
      cases q1 with
      | true => exact key _
      | false =>
        rw [cond_false]
        generalize ((decide (97 ≤ ((s[i] ||| 32).toNat : Int))) && (decide ((((bif decide (97 ≤ ((s[i] ||| 32).toNat : Int)) then (s[i] ||| 32) else default) : UInt8).toNat : Int) ≤ 122))) = q2
        cases q2 with
        | true => exact key _
        | false => exact ⟨0, 2, rfl, by omega, by omega⟩
    · rw [bF (by omega), iG]
      exact ⟨v, 0, rfl, hv, by omega⟩
theorem uint_tot (F : Nat) (s : Bs) (b : Int) (hb : b = 10 ∨ b = 16) (hs : s.length ≤ 100000) (hF : s.length < F) : Ok3 (dQ F s b 0) := by
  unfold dQ dn dp cw
  by_cases h0 : s = []
  · rw [bT h0]; exact ⟨0, 2, rfl, by omega, by omega⟩
  · rw [bF h0]
    have h2 : ((decide (2 ≤ b)) && (decide (b ≤ 36))) = true := by rcases hb with rfl | rfl <;> rfl
    have hw := lb 64
    rw [h2, jU, js rfl]
    have go := fun c => rI F s b c hb hs F 0 0 (by omega) (by omega)
    rcases hb with rfl | rfl
    · rw [bT rfl, js hw, dC (by omega)]; exact go _
    · rw [bF (by omega), bT rfl, js hw, dC (by omega)]; exact go _
theorem int_tot (F : Nat) (s : Bs) (b : Int) (hb : b = 10 ∨ b = 16) (hs : s.length ≤ 100000) (hF : s.length < F) (h43 : at_ s 0 ≠ 43) (h45 : at_ s 0 ≠ 45) : ∃ v e, cC F s b 0 = some (v, e) := by
  have hi : ∃ v e, ew F s b 0 = some (v, e) ∧ (e = 0 ∨ e = 1 ∨ e = 2) := by
    unfold ew cH dI dh
    by_cases h0 : s = []
    · rw [bT h0]; exact ⟨0, 2, rfl, by omega⟩
    · have hp : 0 < s.length := List.length_pos_iff.2 h0
      obtain ⟨v, e, hv, hv0, he⟩ := uint_tot F s b hb hs hF
      have e1 : IntKind.u64.wrap (1 * 2 ^ min (Int.toNat (IntKind.u64.wrap 63)) IntKind.u64.bits) = 9223372036854775808 := by decide +kernel
      have e2 : (0 : Int) ≤ IntKind.u64.wrap 63 := by decide +kernel
      have e3 : IntKind.u64.wrap (9223372036854775808 - 1) = 9223372036854775807 := by decide +kernel
      simp (disch := omega) only [bF, eh, bz, hv, aR, e1, e3, js e2, cY, js, Bool.not_false, Bool.true_and, Bool.false_and, cond_false]
      rcases he with rfl | rfl | rfl
      · rw [show ((!decide ((0 : Int) = 0)) && (!decide ((0 : Int) = 1))) = false by rfl, cond_false]
        by_cases hb : (9223372036854775808 : Int) ≤ v
        · rw [bT hb]; exact ⟨_, 1, rfl, by omega⟩
        · rw [bF hb, cY (by omega)]; exact ⟨_, 0, rfl, by omega⟩
      · rw [show ((!decide ((1 : Int) = 0)) && (!decide ((1 : Int) = 1))) = false by rfl, cond_false]
        by_cases hb : (9223372036854775808 : Int) ≤ v
        · rw [bT hb]; exact ⟨_, 1, rfl, by omega⟩
        · rw [bF hb, cY (by omega)]; exact ⟨_, 0, rfl, by omega⟩
      · rw [show ((!decide ((2 : Int) = 0)) && (!decide ((2 : Int) = 1))) = true by rfl, cond_true]
        exact ⟨_, 2, rfl, by omega⟩
  obtain ⟨v, e, hv, he⟩ := hi
  unfold cC
  rw [hv, aR]
  rcases he with rfl | rfl | rfl
  · exact ⟨_, _, rfl⟩
  · rw [show (!decide ((1 : Int) = 0)) = true by rfl, cond_true, jV (by omega), js (by omega)]; exact ⟨_, _, rfl⟩
  · rw [show (!decide ((2 : Int) = 0)) = true by rfl, cond_true, jV (by omega), js (by omega)]; exact ⟨_, _, rfl⟩
theorem rune_tot (F : Nat) (r : Int) : ∃ o b, fK F r = some (o, b) ∧ o.length ≤ 4 := by
  have fin : -2147483648 ≤ r ∧ r ≤ 2147483647 → ∃ o b, grd (okJ r) (lt (ca r) fun x17 => some (x17, true)) = some (o, b) ∧ o.length ≤ 4 := by
    intro h; rw [grd_J h]; exact ⟨_, _, rfl, hN r⟩
  unfold fK iE
  simp only [fW]
  cases hA : ((decide (r = 9)) || (decide (r = 10))) || (decide (r = 13)) with
  | true =>
    have : r = 9 ∨ r = 10 ∨ r = 13 := by simpa [or_assoc] using hA
    simp only [Bool.not_true, Bool.false_and, cond_false]
    exact fin (by omega)
  | false =>
    simp only [Bool.not_false, Bool.true_and, cond_true]
    cases h7 : (decide (32 ≤ r)) && (decide (r ≤ 55295)) with
    | true =>
      have : 32 ≤ r ∧ r ≤ 55295 := by simpa using h7
      simp only [Bool.not_true, Bool.false_and, cond_false]
      exact fin (by omega)
    | false =>
      simp only [Bool.not_false, Bool.true_and, cond_true]
      cases h10 : (decide (57344 ≤ r)) && (decide (r ≤ 65533)) with
      | true =>
        have : 57344 ≤ r ∧ r ≤ 65533 := by simpa using h10
        simp only [Bool.not_true, Bool.false_and, cond_false]
        exact fin (by omega)
      | false =>
        simp only [Bool.not_false, Bool.true_and, cond_true]
        cases h13 : (decide (65536 ≤ r)) && (decide (r ≤ 1114111)) with
        | true =>
          have : 65536 ≤ r ∧ r ≤ 1114111 := by simpa using h13
          simp only [Bool.not_true, Bool.false_and, cond_false]
          exact fin (by omega)
        | false => exact ⟨[], false, rfl, by simp⟩
theorem mH (F : Nat) (s : Bs) (b : Int) (hb : b = 10 ∨ b = 16) (hs : s.length ≤ 100000) (hF : s.length < F) : ∃ o k, cQ F s b = some (o, k) ∧ o.length ≤ 4 := by
  obtain ⟨cb, hcb⟩ := oV F s hs
  have no : ∃ o k, (some (([] : Bs), false) : Option (Bs × Bool)) = some (o, k) ∧ o.length ≤ 4 := ⟨[], false, rfl, by simp⟩
  unfold cQ
  cases s with
  | nil => simp [eZ, bz, iG]
  | cons c r =>
    have h0 : decide ((c :: r) = []) = false := decide_eq_false (by simp)
    have ha : at_ (c :: r) 0 = c := rfl
    have hg : ∀ (q : Bool) (k : Option (Bs × Bool)), ek q (cG 0 (c :: r).length) k = k := fun q k => pn (fun _ => by simp)
    simp only [hg, h0, bz, ha, hcb, fW, Bool.false_or]
    by_cases h1 : c = 43
    · simp [h1]
    · by_cases h2 : c = 45
      · simp [h2]
      · by_cases h3 : c = 95
        · simp [h3]
        · simp only [h1, h2, h3, decide_false, Bool.or_self, Bool.false_or, Bool.not_false, cond_true]
          cases cb with
          | true => exact no
          | false =>
            obtain ⟨v, e, hv⟩ := int_tot F (c :: r) b hb hs hF (by rw [ha]; exact h1) (by rw [ha]; exact h2)
            rw [cond_false, hv, aR]
            cases hz : (!decide (e = 0)) with
            | true => exact no
            | false =>
              obtain ⟨o, k, ho, hl⟩ := rune_tot F v
              rw [cond_false, ho, aR]
              exact ⟨o, k, rfl, hl⟩
theorem pZ (F : Nat) (s : Bs) (hs : s.length ≤ 100000) (hF : s.length < F) : ∃ o k, fe F s = some (o, k) ∧ o.length ≤ 4 := by
  have htp : ∀ p, (Go.Lib.trimPrefix s p).length ≤ s.length := by
    intro p; unfold Go.Lib.trimPrefix; split <;> simp
  unfold fe gK
  simp only [bO, bz]
  generalize ([(([97, 109, 112] : List UInt8), (38 : Int)), (([108, 116] : List UInt8), 60), (([103, 116] : List UInt8), 62), (([113, 117, 111, 116] : List UInt8), 34), (([97, 112, 111, 115] : List UInt8), 39)] : List (List UInt8 × Int)) = m
  cases Go.Av.mhas m s with
  | true => exact ⟨_, _, rfl, hN _⟩
  | false =>
    rw [cond_false]
    cases Go.Lib.hasPrefix s [35, 120] with
    | true =>
      have := htp [35, 120]
      obtain ⟨o, k, ho, hl⟩ := mH F (Go.Lib.trimPrefix s [35, 120]) 16 (.inr rfl) (by omega) (by omega)
      rw [cond_true, ho, aR]; exact ⟨o, k, rfl, hl⟩
    | false =>
      rw [cond_false]
      cases Go.Lib.hasPrefix s [35] with
      | true =>
        have := htp [35]
        obtain ⟨o, k, ho, hl⟩ := mH F (Go.Lib.trimPrefix s [35]) 10 (.inl rfl) (by omega) (by omega)
        rw [cond_true, ho, aR]; exact ⟨o, k, rfl, hl⟩
      | false => exact ⟨[], false, rfl, by simp⟩
theorem rT (F : Nat) (s : Bs) (h1 : 1 ≤ s.length) (hs : s.length ≤ 100000) (hF : s.length + 20 < F) : ∃ o k, fV F s = some (o, k) ∧ (k = 0 ∨ (3 ≤ k ∧ k ≤ s.length ∧ o.length ≤ 4)) := by
  have no : ∃ o k, (some (([] : Bs), (0 : Int)) : Option (Bs × Int)) = some (o, k) ∧ (k = 0 ∨ (3 ≤ k ∧ k ≤ s.length ∧ o.length ≤ 4)) := ⟨[], 0, rfl, .inl rfl⟩
  have hl : (eo s 1).length = s.length - 1 := by simp [eo]
  obtain ⟨j, hj, hj1, hj2⟩ := qL F (eo s 1) (by omega)
  have ha : fB [38, 59] = true := by decide
  unfold fV iE
  simp (disch := (first | omega | (simp; done) | (simp; omega))) only [fN, bz, ha, jU, jV, hj, bO]
  by_cases h : 1 ≤ j ∧ j ≤ 10
  · have hx : ((decide (1 ≤ j)) && (decide (j ≤ 10))) = true := by simp [h]
    simp (disch := (first | omega | (simp; done) | (simp; omega))) only [hx, Bool.not_true, Bool.not_false, jq, cY, eh, Bool.false_or]
    cases decide (at_ s (j + 1) = 38) with
    | true => exact no
    | false =>
      have hsub : (sub s 1 (j + 1)).length ≤ s.length := by simp [sub]; omega
      obtain ⟨o, k, ho, hol⟩ := pZ F (sub s 1 (j + 1)) (by omega) (by omega)
      simp (disch := (first | omega | (simp; done) | (simp; omega))) only [cond_false, mm, bz, ho, aR]
      cases k with
      | false => exact no
      | true =>
        simp (disch := (first | omega | (simp; done) | (simp; omega))) only [Bool.not_true, cond_false, cY]
        exact ⟨o, j + 2, rfl, .inr ⟨by omega, by omega, hol⟩⟩
  · have hx : ((decide (1 ≤ j)) && (decide (j ≤ 10))) = false := by
      cases hq : (decide (1 ≤ j)) && (decide (j ≤ 10)) with
      | false => rfl
      | true => exact absurd (by simpa using hq) h
    simp only [hx, Bool.not_false, Bool.not_true, eZ, Bool.true_or, cond_true]
    exact no
end Go.Pn
namespace Go.Pn
open Go.Pv Go.Av
def dg (c : UInt8) : Nat := if 48 ≤ c.toNat ∧ c.toNat ≤ 57 then c.toNat - 48 else if 97 ≤ c.toNat ∧ c.toNat ≤ 102 then c.toNat - 87 else if 65 ≤ c.toNat ∧ c.toNat ≤ 70 then c.toNat - 55 else 99
theorem pz {p : UInt8 → Prop} (h : ∀ n : Nat, n < 256 → p (UInt8.ofNat n)) (c : UInt8) : p c := by
  have := h c.toNat (UInt8.toNat_lt c)
  rwa [UInt8.ofNat_toNat] at this
theorem digit_eq (F : Nat) (c : UInt8) : hO F c = some (dg c : Int) := by
  show hO 0 c = _;exact pz (p := fun c => hO 0 c = some (dg c : Int)) (by decide +kernel) c
def isD (x : UInt8) : Bool := (decide (48 ≤ (x.toNat : Int))) && (decide ((x.toNat : Int) ≤ 57))
def isL (x : UInt8) : Bool := (decide (97 ≤ ((x ||| 32).toNat : Int))) && (decide (((x ||| 32).toNat : Int) ≤ 122))
theorem dig_D (b : Nat) (hb : b = 10 ∨ b = 16) (x : UInt8) (h : isD x = true) : (b ≤ (x - 48).toNat ↔ b ≤ dg x) ∧ ((x - 48).toNat < b → (x - 48).toNat = dg x) := by
  revert h
  refine pz (p := fun x => isD x = true → (b ≤ (x - 48).toNat ↔ b ≤ dg x) ∧ ((x - 48).toNat < b → (x - 48).toNat = dg x)) ?_ x
  rcases hb with rfl | rfl <;> decide +kernel
theorem dig_L (b : Nat) (hb : b = 10 ∨ b = 16) (x : UInt8) (h0 : isD x = false) (h : isL x = true) : (b ≤ ((x ||| 32) - 97 + 10).toNat ↔ b ≤ dg x) ∧ (((x ||| 32) - 97 + 10).toNat < b → ((x ||| 32) - 97 + 10).toNat = dg x) := by
  revert h0 h
  refine pz (p := fun x => isD x = false → isL x = true → (b ≤ ((x ||| 32) - 97 + 10).toNat ↔ b ≤ dg x) ∧ (((x ||| 32) - 97 + 10).toNat < b → ((x ||| 32) - 97 + 10).toNat = dg x)) ?_ x
  rcases hb with rfl | rfl <;> decide +kernel
theorem dig_no (x : UInt8) (h0 : isD x = false) (h : isL x = false) : dg x = 99 := by
  revert h0 h
  exact pz (p := fun x => isD x = false → isL x = false → dg x = 99) (by decide +kernel) x
def num (b : Nat) : Nat → Bs → Option Nat
  | v, [] => some v
  | v, c :: r => if b ≤ dg c then none else num b (b * v + dg c) r
theorem pr (x : Int) (h0 : 0 ≤ x) (h1 : x < 18446744073709551616) : IntKind.u64.wrap x = x := by
  have : IntKind.u64.wrap x = x % 18446744073709551616 := rfl
  rw [this]; omega
theorem oK (F : Nat) (s : Bs) (b : Nat) (hb : b = 10 ∨ b = 16) (c : Int) (hc : 1152921504606846976 ≤ c) (hs : s.length ≤ 10) : ∀ (n i v : Nat), s.length - i < n → v < 16 ^ i → i ≤ s.length →
    bB F s (b : Int) c n (false, (v : Int), (i : Int)) = match num b v (s.drop i) with | none => some (0, 2) | some w => some ((w : Int), 0) := by
  intro n
  induction n with
  | zero => intro i v h; omega
  | succ n ih =>
    intro i v hn hv hi;show cO F s (b : Int) c (bB F s (b : Int) c n) false (v : Int) (i : Int) = _
    unfold cO dq dK
    by_cases h : i < s.length
    · have hd : s.drop i = s[i] :: s.drop (i + 1) := be h
      have hp : (16 : Nat) ^ i ≤ 16 ^ 9 := Nat.pow_le_pow_right (by omega) (by omega)
      have hp2 : (16 : Nat) ^ 9 = 68719476736 := rfl
      have hp3 : (16 : Nat) ^ (i + 1) = 16 ^ i * 16 := Nat.pow_succ _ _
      have key : ∀ d : UInt8, ((b ≤ d.toNat ↔ b ≤ dg s[i]) ∧ (d.toNat < b → d.toNat = dg s[i])) → ci (b : Int) c false (v : Int) (i : Int) (bB F s (b : Int) c n) d = match num b v (s.drop i) with | none => some (0, 2) | some w => some ((w : Int), 0) := by
        intro d ⟨h1, h2⟩
        rw [hd]
        unfold ci cN
        have hB : ((Go.Av.toB (b : Int)).toNat : Int) = (b : Int) := by rcases hb with rfl | rfl <;> rfl
        rw [hB]
        by_cases hbd : b ≤ d.toNat
        · rw [bT (by omega)]
          simp [num, h1.1 hbd]
        · have hd2 := h2 (by omega)
          have hbd' : ¬ b ≤ dg s[i] := fun e => hbd (h1.2 e)
          have hlt : d.toNat < 16 := by rcases hb with rfl | rfl <;> omega
          have hbv : b * v ≤ 16 * v := Nat.mul_le_mul_right v (by rcases hb with rfl | rfl <;> omega)
          have hmul : (v : Int) * (b : Int) = ((b * v : Nat) : Int) := by rw [Nat.mul_comm]; simp
          have wb : IntKind.u64.wrap (b : Int) = (b : Int) := pr _ (by omega) (by rcases hb with rfl | rfl <;> omega)
          have wd : IntKind.u64.wrap (d.toNat : Int) = (d.toNat : Int) := pr _ (by omega) (by omega)
          have wm : IntKind.u64.wrap ((b * v : Nat) : Int) = ((b * v : Nat) : Int) := pr _ (by omega) (by omega)
          have ws : IntKind.u64.wrap (((b * v : Nat) : Int) + (d.toNat : Int)) = ((b * v + d.toNat : Nat) : Int) := by rw [pr _ (by omega) (by omega)]; simp
          have wc : IntKind.u64.wrap ((IntKind.u64.wrap (1 * 2 ^ min (Int.toNat (IntKind.u64.wrap 64)) IntKind.u64.bits)) - 1) = 18446744073709551615 := by decide +kernel
          rw [wb, wd, hmul, wm, ws, wc, bF (by omega), bF (by omega), decide_eq_false (by omega : ¬ ((b * v + d.toNat : Nat) : Int) < ((b * v : Nat) : Int)), decide_eq_false (by omega : ¬ (18446744073709551615 : Int) < ((b * v + d.toNat : Nat) : Int))]
          rw [Bool.or_self, cond_false, cY (by omega), cP, ih (i + 1) (b * v + d.toNat) (by omega) (by rw [hp3]; rcases hb with rfl | rfl <;> omega) (by omega)]
          simp only [num, hbd', if_false, hd2]
      have hb0 : decide ((b : Int) = 0) = false := decide_eq_false (by rcases hb with rfl | rfl <;> omega)
      simp (disch := omega) only [bT, eh, bz, iH h, hb0, Bool.and_false, cond_false, bO, fW]
      cases hD : isD s[i] with
      | true =>
        have e : ((decide (48 ≤ ((s[i]).toNat : Int))) && (decide (((s[i]).toNat : Int) ≤ 57))) = true := hD
        rw [e, cond_true]
        exact key _ (dig_D b hb _ hD)
      | false =>
        have e : ((decide (48 ≤ ((s[i]).toNat : Int))) && (decide (((s[i]).toNat : Int) ≤ 57))) = false := hD
        rw [e, cond_false]
        have el : ((decide (97 ≤ ((s[i] ||| 32).toNat : Int))) && (decide ((((bif decide (97 ≤ ((s[i] ||| 32).toNat : Int)) then (s[i] ||| 32) else default) : UInt8).toNat : Int) ≤ 122))) = isL s[i] := by
          unfold isL
          cases decide (97 ≤ ((s[i] ||| 32).toNat : Int)) <;> rfl
        rw [el]
        cases hL : isL s[i] with
        | true =>
          rw [cond_true]
          exact key _ (dig_L b hb _ hD hL)
        | false =>
          rw [cond_false, hd]
          have := dig_no _ hD hL
          have : b ≤ dg s[i] := by rw [this]; rcases hb with rfl | rfl <;> omega
          simp [num, this]
    · rw [bF (by omega), iG]
      have hi2 : s.length ≤ i := by omega
      rw [bh hi2]
      rfl
theorem int_eq (F : Nat) (s : Bs) (b : Nat) (hb : b = 10 ∨ b = 16) (h0 : s ≠ []) (hs : s.length ≤ 10) (hF : 20 < F) (h43 : at_ s 0 ≠ 43) (h45 : at_ s 0 ≠ 45) :
    cC F s (b : Int) 0 = match num b 0 s with | none => some (0, 1) | some w => some ((w : Int), 0) := by
  have hp : 0 < s.length := List.length_pos_iff.2 h0
  have hw : ∀ (t : Bs) (v w : Nat), num b v t = some w → t.length ≤ 10 → v < 16 ^ (10 - t.length) → w < 16 ^ 10 := by
    intro t
    induction t with
    | nil => intro v w h _ hv; have : v = w := by simpa [num] using h
             subst this; exact hv
    | cons c r ih =>
      intro v w h hl hv
      simp only [num] at h
      split at h
      · cases h
      · rename_i hd
        simp only [List.length_cons] at hl hv
        refine ih _ _ h (by omega) ?_
        have e : 10 - r.length = (10 - (r.length + 1)) + 1 := by omega
        rw [e, Nat.pow_succ]
        rcases hb with rfl | rfl <;> omega
  have hu : dQ F s (b : Int) 0 = match num b 0 s with | none => some (0, 2) | some w => some ((w : Int), 0) := by
    unfold dQ dn dp cw
    have h2 : ((decide (2 ≤ (b : Int))) && (decide ((b : Int) ≤ 36))) = true := by rcases hb with rfl | rfl <;> rfl
    rw [bF h0, h2, jU, js rfl]
    have hwr := lb 64
    have go := fun c hc => oK F s b hb c hc hs F 0 0 (by omega) (by omega) (by omega)
    rcases hb with rfl | rfl
    · rw [bT (show ((10 : Nat) : Int) = 10 from rfl), js hwr, dC (by omega)]; exact go _ (by omega)
    · rw [bF (show ¬ ((16 : Nat) : Int) = 10 by decide), bT (show ((16 : Nat) : Int) = 16 from rfl), js hwr, dC (by omega)]; exact go _ (by omega)
  have hi : ew F s (b : Int) 0 = match num b 0 s with | none => some (0, 2) | some w => some ((w : Int), 0) := by
    unfold ew cH dI dh
    have e1 : IntKind.u64.wrap (1 * 2 ^ min (Int.toNat (IntKind.u64.wrap 63)) IntKind.u64.bits) = 9223372036854775808 := by decide +kernel
    have e2 : (0 : Int) ≤ IntKind.u64.wrap 63 := by decide +kernel
    rw [hu]
    cases hn : num b 0 s with
    | none => simp (disch := omega) only [bF h0, bF, eh, bz, aR]; rfl
    | some w =>
      have hwb : w < 16 ^ 10 := hw s 0 w hn hs (Nat.pow_pos (by omega))
      have hp2 : (16 : Nat) ^ 10 = 1099511627776 := rfl
      simp (disch := omega) only [bF h0, bF, eh, bz, aR, e1, js e2, cY, js, Bool.not_false, Bool.true_and, Bool.false_and, cond_false]
      rfl
  unfold cC
  rw [hi]
  cases hn : num b 0 s with
  | none =>
    simp only [aR]
    rw [show (!decide ((2 : Int) = 0)) = true by rfl, cond_true, jV (by omega)]; rfl
  | some w => rfl
theorem lc (n : Int) (c : Nat) (h : n = c) : toB n = UInt8.ofNat c := by
  subst h
  unfold toB
  apply UInt8.toNat.inj
  rw [UInt8.toNat_ofNat', UInt8.toNat_ofNat']
  omega
theorem kZ (F : Nat) (r : Int) : fK F r = if (r = 9 ∨ r = 10 ∨ r = 13) ∨ (32 ≤ r ∧ r ≤ 55295) ∨ (57344 ≤ r ∧ r ≤ 65533) ∨ (65536 ≤ r ∧ r ≤ 1114111) then some (ca r, true) else some ([], false) := by
  have fin : -2147483648 ≤ r ∧ r ≤ 2147483647 → (grd (okJ r) (lt (ca r) fun x17 => some (x17, true))) = some (ca r, true) := fun h => by rw [grd_J h]; rfl
  unfold fK iE
  simp only [fW]
  cases hA : ((decide (r = 9)) || (decide (r = 10))) || (decide (r = 13)) with
  | true =>
    have : r = 9 ∨ r = 10 ∨ r = 13 := by simpa [or_assoc] using hA
    simp only [Bool.not_true, Bool.false_and, cond_false]
    rw [if_pos (.inl this)]; exact fin (by omega)
  | false =>
    have hA' : ¬ (r = 9 ∨ r = 10 ∨ r = 13) := by simp at hA; omega
    simp only [Bool.not_false, Bool.true_and, cond_true]
    cases h7 : (decide (32 ≤ r)) && (decide (r ≤ 55295)) with
    | true =>
      have : 32 ≤ r ∧ r ≤ 55295 := by simpa using h7
      simp only [Bool.not_true, Bool.false_and, cond_false]
      rw [if_pos (by omega)]; exact fin (by omega)
    | false =>
      have h7' : ¬ (32 ≤ r ∧ r ≤ 55295) := fun e => by simp [e] at h7
      simp only [Bool.not_false, Bool.true_and, cond_true]
      cases h10 : (decide (57344 ≤ r)) && (decide (r ≤ 65533)) with
      | true =>
        have : 57344 ≤ r ∧ r ≤ 65533 := by simpa using h10
        simp only [Bool.not_true, Bool.false_and, cond_false]
        rw [if_pos (by omega)]; exact fin (by omega)
      | false =>
        have h10' : ¬ (57344 ≤ r ∧ r ≤ 65533) := fun e => by simp [e] at h10
        simp only [Bool.not_false, Bool.true_and, cond_true]
        cases h13 : (decide (65536 ≤ r)) && (decide (r ≤ 1114111)) with
        | true =>
          have : 65536 ≤ r ∧ r ≤ 1114111 := by simpa using h13
          simp only [Bool.not_true, Bool.false_and, cond_false]
          rw [if_pos (by omega)]; exact fin (by omega)
        | false =>
          have h13' : ¬ (65536 ≤ r ∧ r ≤ 1114111) := fun e => by simp [e] at h13
          rw [if_neg (by omega)]; rfl
theorem cond9 (p q s a b c d e f : Prop) [Decidable p] [Decidable q] [Decidable s] [Decidable a] [Decidable b] [Decidable c] [Decidable d] [Decidable e] [Decidable f] :
    (((!((((decide p) || (decide q)) || (decide s)) || ((decide a) && (decide b)))) && (!((decide c) && (decide d)))) && (!((decide e) && (decide f)))) = !decide ((p ∨ q ∨ s) ∨ (a ∧ b) ∨ (c ∧ d) ∨ (e ∧ f)) := by
  simp only [Bool.decide_or, Bool.decide_and, Bool.not_or, Bool.and_assoc, Bool.or_assoc]
theorem rK (r : Int) : (((!((((decide (r = 9)) || (decide (r = 10))) || (decide (r = 13))) || ((decide (32 ≤ r)) && (decide (r ≤ 55295))))) && (!((decide (57344 ≤ r)) && (decide (r ≤ 65533))))) && (!((decide (65536 ≤ r)) && (decide (r ≤ 1114111))))) = !decide ((r = 9 ∨ r = 10 ∨ r = 13) ∨ (32 ≤ r ∧ r ≤ 55295) ∨ (57344 ≤ r ∧ r ≤ 65533) ∨ (65536 ≤ r ∧ r ≤ 1114111)) := cond9 _ _ _ _ _ _ _ _ _
theorem re (k m c : Nat) : toB ((k : Int) + (c : Int) / (m : Int)) = UInt8.ofNat (k + c / m) := lc _ _ (by rw [Int.natCast_add, Int.natCast_ediv])
theorem tb_mod (k m c : Nat) : toB ((k : Int) + (c : Int) % (m : Int)) = UInt8.ofNat (k + c % m) := lc _ _ (by rw [Int.natCast_add, Int.natCast_emod])
theorem rk (k m n c : Nat) : toB ((k : Int) + (c : Int) / (m : Int) % (n : Int)) = UInt8.ofNat (k + c / m % n) := lc _ _ (by rw [Int.natCast_add, Int.natCast_emod, Int.natCast_ediv])
theorem enc1 (c : Nat) (hc : Utf8.valid (c : Int) = true) : Utf8.encode (c : Int) = if c < 128 then ⟨#[UInt8.ofNat c]⟩ else if c < 2048 then ⟨#[UInt8.ofNat (192 + c / 64), UInt8.ofNat (128 + c % 64)]⟩
    else if c < 65536 then ⟨#[UInt8.ofNat (224 + c / 4096), UInt8.ofNat (128 + c / 64 % 64), UInt8.ofNat (128 + c % 64)]⟩ else ⟨#[UInt8.ofNat (240 + c / 262144), UInt8.ofNat (128 + c / 4096 % 64), UInt8.ofNat (128 + c / 64 % 64), UInt8.ofNat (128 + c % 64)]⟩ := by
  have hcc : (if Utf8.valid (c : Int) = true then ((c : Int)).toNat else Utf8.runeError) = c := by rw [if_pos hc, Int.toNat_natCast]
  unfold Utf8.encode
  rw [hcc]
theorem pG (n : Int) : ca n = (Utf8.encode n).data.toList := rfl
theorem qF (c : Nat) (hc : Utf8.valid (c : Int) = true) : ca (c : Int) = if c < 128 then [toB c] else if c < 2048 then [toB (192 + (c : Int) / 64), toB (128 + (c : Int) % 64)]
    else if c < 65536 then [toB (224 + (c : Int) / 4096), toB (128 + (c : Int) / 64 % 64), toB (128 + (c : Int) % 64)] else [toB (240 + (c : Int) / 262144), toB (128 + (c : Int) / 4096 % 64), toB (128 + (c : Int) / 64 % 64), toB (128 + (c : Int) % 64)] := by
  have t1 : toB (c : Int) = UInt8.ofNat c := lc (c : Int) c rfl
  have t2 : toB (192 + (c : Int) / 64) = UInt8.ofNat (192 + c / 64) := re 192 64 c
  have t3 : toB (128 + (c : Int) % 64) = UInt8.ofNat (128 + c % 64) := tb_mod 128 64 c
  have t4 : toB (224 + (c : Int) / 4096) = UInt8.ofNat (224 + c / 4096) := re 224 4096 c
  have t5 : toB (128 + (c : Int) / 64 % 64) = UInt8.ofNat (128 + c / 64 % 64) := rk 128 64 64 c
  have t6 : toB (240 + (c : Int) / 262144) = UInt8.ofNat (240 + c / 262144) := re 240 262144 c
  have t7 : toB (128 + (c : Int) / 4096 % 64) = UInt8.ofNat (128 + c / 4096 % 64) := rk 128 4096 64 c
  rw [t1, t2, t3, t4, t5, t6, t7, pG, enc1 c hc]
  by_cases h1 : c < 128
  · rw [if_pos h1, if_pos h1]
  · rw [if_neg h1, if_neg h1]
    by_cases h2 : c < 2048
    · rw [if_pos h2, if_pos h2]
    · rw [if_neg h2, if_neg h2]
      by_cases h3 : c < 65536
      · rw [if_pos h3, if_pos h3]
      · rw [if_neg h3, if_neg h3]
theorem qE (c : Nat) (h : ((c : Int) = 9 ∨ (c : Int) = 10 ∨ (c : Int) = 13) ∨ (32 ≤ (c : Int) ∧ (c : Int) ≤ 55295) ∨ (57344 ≤ (c : Int) ∧ (c : Int) ≤ 65533) ∨ (65536 ≤ (c : Int) ∧ (c : Int) ≤ 1114111)) : Utf8.valid (c : Int) = true := by
  unfold Utf8.valid
  by_cases h1 : (c : Int) < 55296
  · have : (0 : Int) ≤ (c : Int) := by omega
    rw [decide_eq_true this, decide_eq_true h1]; rfl
  · have h2 : (57344 : Int) ≤ (c : Int) := by omega
    have h3 : (c : Int) ≤ 1114111 := by omega
    rw [decide_eq_true h2, decide_eq_true h3, Bool.and_self, Bool.or_true]
theorem mi (F : Nat) (r : Int) : fK F r = dS F r := by
  rw [kZ]
  unfold dS
  rw [rK]
  by_cases h : (r = 9 ∨ r = 10 ∨ r = 13) ∨ (32 ≤ r ∧ r ≤ 55295) ∨ (57344 ≤ r ∧ r ≤ 65533) ∨ (65536 ≤ r ∧ r ≤ 1114111)
  · rw [if_pos h, decide_eq_true h, Bool.not_true, cond_false]
    obtain ⟨c, rfl⟩ : ∃ c : Nat, r = c := ⟨r.toNat, by omega⟩
    rw [qF c (qE c h)]
    by_cases h1 : c < 128
    · rw [if_pos h1, bT (by omega)]
    · rw [if_neg h1, bF (by omega)]
      by_cases h2 : c < 2048
      · rw [if_pos h2, bT (by omega)]
        simp (disch := omega) only [po, cY]
      · rw [if_neg h2, bF (by omega)]
        by_cases h3 : c < 65536
        · rw [if_pos h3, bT (by omega)]
          simp (disch := omega) only [po, cY]
        · rw [if_neg h3, bF (by omega)]
          simp (disch := omega) only [po, cY]
  · rw [if_neg h, decide_eq_false h]; rfl
def cap (w : Nat) : Nat := if 1114111 < w then 1114112 else w
theorem pI (F : Nat) (s : Bs) (b : Nat) (hb : b = 10 ∨ b = 16) (hs : s.length ≤ 100000) : ∀ (n i v : Nat), s.length - i < n → i ≤ s.length →
    gw F s (b : Int) n ((cap v : Int), (i : Int)) = match num b v (s.drop i) with | none => some (-1) | some w => some (if s.length = 0 then -1 else (cap w : Int)) := by
  intro n
  induction n with
  | zero => intro i v h; omega
  | succ n ih =>
    intro i v hn hi;show gx F s (b : Int) (gw F s (b : Int) n) (cap v : Int) (i : Int) = _
    unfold gx gu jh
    have hcv : cap v ≤ 1114112 := by unfold cap; split <;> omega
    by_cases h : i < s.length
    · have hd : s.drop i = s[i] :: s.drop (i + 1) := be h
      simp (disch := omega) only [bT, eh, bz, iH h, digit_eq, bO]
      rw [hd]
      by_cases hbd : b ≤ dg s[i]
      · rw [bT (by omega)]; simp [num, hbd]
      · have hdb : dg s[i] < 16 := by rcases hb with rfl | rfl <;> omega
        have hbc : b * cap v ≤ 16 * cap v := Nat.mul_le_mul_right _ (by rcases hb with rfl | rfl <;> omega)
        have e1 : (b : Int) * (cap v : Int) = ((b * cap v : Nat) : Int) := by simp
        have e2 : ((b * cap v : Nat) : Int) + (dg s[i] : Int) = ((b * cap v + dg s[i] : Nat) : Int) := by simp
        have e3 : cap (b * v + dg s[i]) = if 1114111 < b * cap v + dg s[i] then 1114112 else b * cap v + dg s[i] := by
          unfold cap
          rcases hb with rfl | rfl <;> (split <;> split <;> (try split) <;> omega)
        rw [bF (by omega), e1, e2, cY (by omega), cY (by omega)]
        simp only [num, hbd, if_false]
        have := ih (i + 1) (b * v + dg s[i]) (by omega) (by omega)
        rw [e3] at this
        by_cases hc : 1114111 < b * cap v + dg s[i]
        · rw [bT (by omega), cY (by omega), cP]
          rw [if_pos hc] at this
          exact this
        · rw [bF (by omega), cY (by omega), cP]
          rw [if_neg hc] at this
          exact this
    · have hi2 : s.length ≤ i := by omega
      rw [bF (by omega), bh hi2]
      simp only [num]
      by_cases h0 : s.length = 0
      · rw [bT (by omega), if_pos h0]
      · rw [bF (by omega), if_neg h0]
theorem rN (F : Nat) (s : Bs) (b : Nat) (hb : b = 10 ∨ b = 16) (hs : s.length ≤ 100000) (hF : s.length < F) :
    eF F s (b : Int) = match num b 0 s with | none => some (-1) | some w => some (if s.length = 0 then -1 else (cap w : Int)) := by
  have := pI F s b hb hs F 0 0 (by omega) (by omega)
  have hc : cap 0 = 0 := rfl
  rw [hc, List.drop_zero] at this
  exact this
theorem px {s : Bs} {b v : Nat} (hb : b = 10 ∨ b = 16) {c : UInt8} (hc : dg c = 99) (h : c ∈ s) : num b v s = none := by
  induction s generalizing v with
  | nil => cases h
  | cons d r ih =>
    simp only [num]
    rcases List.mem_cons.1 h with rfl | h
    · rw [if_pos (by rcases hb with rfl | rfl <;> omega)]
    · split
      · rfl
      · exact ih h
end Go.Pn
namespace Go.Pn
open Go.Pv Go.Av
theorem iO (F : Nat) : dS F (-1) = some ([], false) := by rw [← mi, kZ, if_neg (by omega)]
theorem rune_cap (F w : Nat) : dS F (cap w : Int) = dS F (w : Int) := by
  unfold cap
  split
  · rw [← mi, ← mi, kZ, kZ, if_neg (by omega), if_neg (by omega)]
  · rfl
theorem nw (F : Nat) (s : Bs) (hs : s.length ≤ 100000) : eB F s [95] = some (decide (0 ≤ Go.Lib.indexByte s 95)) := by
  unfold eB iD jo fj fq
  have e : ((decide (8 < s.length)) && (decide (2 ≤ ([95] : Bs).length))) = false := by simp
  have e2 : at_ ([95] : Bs) 0 = 95 := rfl
  have e3 : fB [95] = true := by decide
  have e4 : ((95 : UInt8).toNat : Int) = 95 := rfl
  have e5 : toB 95 = 95 := rfl
  rw [e, cond_false]
  simp (disch := (first | omega | (simp; done) | (simp; omega))) only [e3, jU, jV, bF, bT, eh, bz, e2, e4, grd_J]
  rfl
theorem jA (F : Nat) (s : Bs) (b : Nat) (hb : b = 10 ∨ b = 16) (hs : s.length ≤ 10) (hF : 20 < F) : ∃ v, eF F s (b : Int) = some v ∧ cQ F s (b : Int) = dS F v := by
  rw [rN F s b hb (by omega) (by omega)]
  unfold cQ
  cases s with
  | nil =>
    refine ⟨-1, rfl, ?_⟩
    rw [iO]
    simp [eZ, bz, iG]
  | cons c r =>
    have h0 : decide ((c :: r) = []) = false := decide_eq_false (by simp)
    have ha : at_ (c :: r) 0 = c := rfl
    have hg : ∀ (q : Bool) (k : Option (Bs × Bool)), ek q (cG 0 (c :: r).length) k = k := fun q k => pn (fun _ => by simp)
    have hlen : ¬ (c :: r).length = 0 := by simp
    rw [nw F (c :: r) (by omega)]
    simp only [hg, h0, bz, ha, fW, Bool.false_or]
    by_cases h1 : c = 43
    · rw [px hb (c := 43) (by decide) (by simp [h1])]
      refine ⟨-1, rfl, ?_⟩
      rw [iO]; simp [h1]
    · by_cases h2 : c = 45
      · rw [px hb (c := 45) (by decide) (by simp [h2])]
        refine ⟨-1, rfl, ?_⟩
        rw [iO]; simp [h2]
      · by_cases h3 : c = 95
        · rw [px hb (c := 95) (by decide) (by simp [h3])]
          refine ⟨-1, rfl, ?_⟩
          rw [iO]; simp [h3]
        · simp only [h1, h2, h3, decide_false, Bool.or_self, Bool.false_or, Bool.not_false, cond_true]
          by_cases h4 : 0 ≤ Go.Lib.indexByte (c :: r) 95
          · rw [bT h4]
            have hmem : (95 : UInt8) ∈ c :: r := by
              by_cases hm : (95 : UInt8) ∈ c :: r
              · exact hm
              · have := kM (c := 95) (s := c :: r) (fun x hx e => hm (e ▸ hx))
                omega
            rw [px hb (c := 95) (by decide) hmem]
            exact ⟨-1, rfl, (iO F).symm⟩
          · rw [bF h4, int_eq F (c :: r) b hb (by simp) hs hF (by rw [ha]; exact h1) (by rw [ha]; exact h2)]
            cases hn : num b 0 (c :: r) with
            | none => exact ⟨-1, rfl, by rw [iO]; rfl⟩
            | some w =>
              refine ⟨(cap w : Int), by simp only [hlen, if_false], ?_⟩
              rw [rune_cap, ← mi]
              simp only [aR]
              simp only [decide_true, Bool.not_true, cond_false]
              cases he : fK F (w : Int) with
              | none => rfl
              | some p => rfl
theorem rJ (F : Nat) (b : Bs) (hb : b.length ≤ 10) (hF : 20 < F) : fe F b = gP F b := by
  have fallback : mhas [(([97, 109, 112] : List UInt8), (38 : Int)), (([108, 116] : List UInt8), 60), (([103, 116] : List UInt8), 62), (([113, 117, 111, 116] : List UInt8), 34), (([97, 112, 111, 115] : List UInt8), 39)] b = false →
      ¬ b = [97, 109, 112] → ¬ b = [108, 116] → ¬ b = [103, 116] → ¬ b = [113, 117, 111, 116] → ¬ b = [97, 112, 111, 115] → fe F b = gP F b := by
    intro hm n1 n2 n3 n4 n5
    unfold fe gK gP ig
    simp only [bO, bz, hm, cond_false, bF n1, bF n2, bF n3, bF n4, bF n5]
    cases b with
    | nil => simp [Go.Lib.hasPrefix, eZ]
    | cons c r =>
      cases r with
      | nil =>
        obtain ⟨v, _, hv⟩ := jA F [] 10 (.inl rfl) (by simp) hF
        have e0 : cQ F [] 10 = some ([], false) := by unfold cQ; simp [eZ, bz, iG]
        by_cases h : c = 35
        · subst h
          have e1 : Go.Lib.hasPrefix [35] [35, 120] = false := by decide
          have e2 : Go.Lib.hasPrefix [35] [35] = true := by decide
          have e3 : Go.Lib.trimPrefix [35] [35] = [] := by decide
          rw [e1, e2, e3, cond_false, cond_true, e0]
          simp [aR, eZ]
        · have e1 : Go.Lib.hasPrefix [c] [35, 120] = false := by simp [Go.Lib.hasPrefix, List.isPrefixOf]
          have e2 : Go.Lib.hasPrefix [c] [35] = false := by simp [Go.Lib.hasPrefix, List.isPrefixOf, Ne.symm h]
          rw [e1, e2, cond_false, cond_false]
          simp [eZ]
      | cons d r =>
        have ha : at_ (c :: d :: r) 0 = c := rfl
        have hb1 : at_ (c :: d :: r) 1 = d := rfl
        have hl : decide (((c :: d :: r).length : Int) < 2) = false := decide_eq_false (by simp only [List.length_cons]; omega)
        have f1 : eo (c :: d :: r) 1 = d :: r := rfl
        have f2 : eo (c :: d :: r) 2 = r := rfl
        have hg : ∀ (q : Bool) (k : Option (Bs × Bool)), ek q (cG 0 (c :: d :: r).length) k = k := fun q k => pn (fun _ => by simp only [List.length_cons]; omega)
        simp only [hg, hl, ha, hb1, f1, f2, Bool.false_or]
        by_cases h : c = 35
        · subst h
          rw [show (!decide ((35 : UInt8) = 35)) = false by rfl, cond_false]
          obtain ⟨v, hv1, hv2⟩ := jA F (d :: r) 10 (.inl rfl) (by simp at hb ⊢; omega) hF
          have hv1' : eF F (d :: r) 10 = some v := hv1
          have hv2' : cQ F (d :: r) 10 = dS F v := hv2
          simp (disch := (first | omega | (simp; done) | (simp; omega))) only [fN, eh, hv1', bO]
          by_cases hx : d = 120
          · subst hx
            obtain ⟨u, hu1, hu2⟩ := jA F r 16 (.inr rfl) (by simp at hb ⊢; omega) hF
            have hu1' : eF F r 16 = some u := hu1
            have hu2' : cQ F r 16 = dS F u := hu2
            have e1 : Go.Lib.hasPrefix (35 :: 120 :: r) [35, 120] = true := by simp [Go.Lib.hasPrefix, List.isPrefixOf]
            have e3 : Go.Lib.trimPrefix (35 :: 120 :: r) [35, 120] = r := by simp [Go.Lib.trimPrefix, Go.Lib.hasPrefix, List.isPrefixOf]
            rw [e1, e3, cond_true, bT rfl, hu1', bO, hu2']
          · have e1 : Go.Lib.hasPrefix (35 :: d :: r) [35, 120] = false := by simp [Go.Lib.hasPrefix, List.isPrefixOf, Ne.symm hx]
            have e2 : Go.Lib.hasPrefix (35 :: d :: r) [35] = true := by simp [Go.Lib.hasPrefix, List.isPrefixOf]
            have e3 : Go.Lib.trimPrefix (35 :: d :: r) [35] = d :: r := by simp [Go.Lib.trimPrefix, Go.Lib.hasPrefix, List.isPrefixOf]
            rw [e1, e2, e3, cond_false, cond_true, bF hx, hv2']
        · have e1 : Go.Lib.hasPrefix (c :: d :: r) [35, 120] = false := by simp [Go.Lib.hasPrefix, List.isPrefixOf, Ne.symm h]
          have e2 : Go.Lib.hasPrefix (c :: d :: r) [35] = false := by simp [Go.Lib.hasPrefix, List.isPrefixOf, Ne.symm h]
          rw [e1, e2, cond_false, cond_false, decide_eq_false h]; rfl
  have named : ∀ (n : Bs) (k : Int) (x : Bs), (mhas [(([97, 109, 112] : List UInt8), (38 : Int)), (([108, 116] : List UInt8), 60), (([103, 116] : List UInt8), 62), (([113, 117, 111, 116] : List UInt8), 34), (([97, 112, 111, 115] : List UInt8), 39)] n = true) →
      ca (mget [(([97, 109, 112] : List UInt8), (38 : Int)), (([108, 116] : List UInt8), 60), (([103, 116] : List UInt8), 62), (([113, 117, 111, 116] : List UInt8), 34), (([97, 112, 111, 115] : List UInt8), 39)] n) = x → fe F n = some (x, true) := by
    intro n k x h1 h2
    unfold fe gK
    simp only [bO, bz, h1, h2, cond_true]
  by_cases n1 : b = [97, 109, 112]
  · subst n1; rw [named _ 38 [38] (by decide +kernel) (by decide +kernel)]; rfl
  by_cases n2 : b = [108, 116]
  · subst n2; rw [named _ 60 [60] (by decide +kernel) (by decide +kernel)]; rfl
  by_cases n3 : b = [103, 116]
  · subst n3; rw [named _ 62 [62] (by decide +kernel) (by decide +kernel)]; rfl
  by_cases n4 : b = [113, 117, 111, 116]
  · subst n4; rw [named _ 34 [34] (by decide +kernel) (by decide +kernel)]; rfl
  by_cases n5 : b = [97, 112, 111, 115]
  · subst n5; rw [named _ 39 [39] (by decide +kernel) (by decide +kernel)]; rfl
  refine fallback ?_ n1 n2 n3 n4 n5
  simp [mhas, List.lookup, beq_false_of_ne n1, beq_false_of_ne n2, beq_false_of_ne n3, beq_false_of_ne n4, beq_false_of_ne n5]
end Go.Pn
namespace Go.Pn
open Go.Pv Go.Av
theorem getD_at (s : Bs) (k : Nat) (h : k < s.length) : (⟨s.toArray⟩ : ByteArray).get! k = s[k] := by
  show (s.toArray)[k]! = _
  simp [h]
theorem sE (s : Bs) (p m : Nat) (hm : 0 < m) (hk : m < (jp s p).2) : ∃ h : p + m < s.length, 128 ≤ (s[p + m]).toNat := by
  have key : ∀ k, (decide (p + k < (⟨s.toArray⟩ : ByteArray).size) && ((⟨s.toArray⟩ : ByteArray).get! (p + k)).toNat / 64 == 2) = true → ∃ h : p + k < s.length, 128 ≤ (s[p + k]).toNat := by
    intro k hk
    simp only [Bool.and_eq_true, decide_eq_true_eq, beq_iff_eq] at hk
    obtain ⟨h1, h2⟩ := hk
    have h1' : p + k < s.length := h1
    rw [getD_at s (p + k) h1'] at h2
    exact ⟨h1', by omega⟩
  unfold jp Utf8.decode at hk
  simp only at hk
  split at hk
  · simp at hk; omega
  · split at hk
    · rename_i h2
      simp only [Bool.and_eq_true] at h2
      split at hk
      · have : m = 1 := by simp at hk; omega
        subst this;exact key 1 (by simpa using h2.2)
      · simp at hk; omega
    · split at hk
      · rename_i h2
        simp only [Bool.and_eq_true] at h2
        split at hk
        · have : m = 1 ∨ m = 2 := by simp at hk; omega
          rcases this with rfl | rfl
          · exact key 1 (by simpa using h2.1.2)
          · exact key 2 (by simpa using h2.2)
        · simp at hk; omega
      · split at hk
        · rename_i h2
          simp only [Bool.and_eq_true] at h2
          split at hk
          · have : m = 1 ∨ m = 2 ∨ m = 3 := by simp at hk; omega
            rcases this with rfl | rfl | rfl
            · exact key 1 (by simpa using h2.1.1.2)
            · exact key 2 (by simpa using h2.1.2)
            · exact key 3 (by simpa using h2.2)
          · simp at hk; omega
        · simp at hk; omega
theorem decR_low (s : Bs) (p : Nat) (h : p < s.length) (hb : (s[p]).toNat < 128) : jp s p = ((s[p]).toNat, 1) := decode_ascii (⟨s.toArray⟩ : ByteArray) p h hb
theorem sF (s : Bs) (p : Nat) (h : p < s.length) (hb : 128 ≤ (s[p]).toNat) : 128 ≤ (jp s p).1 := (decode_high (⟨s.toArray⟩ : ByteArray) p h hb).1
theorem qK (F : Nat) (hF : 5 ≤ F) (r : Int) (hr : 128 ≤ r) : fq F [38, 59] r = some (-1) := by
  obtain ⟨k1, k2⟩ := lI r hr
  have k3 := hN r
  unfold fq
  have hf : ((decide (0 ≤ r)) && (decide (r < 128))) = false := by rw [decide_eq_false (by omega : ¬ r < 128), Bool.and_false]
  rw [hf, cond_false]
  by_cases h2 : r = 65533
  · rw [bT h2]
    obtain ⟨m, rfl⟩ : ∃ m, F = m + 3 := ⟨F - 3, by omega⟩
    have e0 : jp [38, 59] 0 = (38, 1) := by decide +kernel
    have e1 : jp [38, 59] 1 = (59, 1) := by decide +kernel
    show dk [38, 59] (fh [38, 59] (m + 2)) 0 = _
    unfold dk
    simp only [e0]
    show dk [38, 59] (fh [38, 59] (m + 1)) 1 = _
    unfold dk
    simp only [e1]
    rfl
  · rw [bF h2]
    have hv : ∃ b, fX F r = some b := by
      unfold fX
      cases (decide (0 ≤ r)) && (decide (r < 55296)) with
      | true => exact ⟨true, rfl⟩
      | false =>
        rw [cond_false]
        cases (decide (57343 < r)) && (decide (r ≤ 1114111)) with
        | true => exact ⟨true, rfl⟩
        | false => exact ⟨false, rfl⟩
    obtain ⟨b, hb⟩ := hv
    rw [hb, bO]
    cases b with
    | false => rfl
    | true =>
      obtain ⟨m, rfl⟩ : ∃ m, F = m + 1 := ⟨F - 1, by omega⟩
      simp (disch := omega) only [Bool.not_true, cond_false, bz, cY]
      show fi [38, 59] (ca r) (gR [38, 59] (ca r) m) = _
      unfold fi fR
      by_cases h3 : (ca r).length = 2
      · have e1 : ((ca r).length : Int) - 1 = 1 := by omega
        have e2 : at_ ([38, 59] : Bs) 1 = 59 := rfl
        have e3 : eo ([38, 59] : Bs) (1 + 1) = [] := rfl
        rw [e1]
        simp (disch := (first | omega | (simp; done) | (simp; omega))) only [bT, eh, bz, e2, decide_eq_false (k2 h3), Bool.not_false, jU, cY, fN, e3]
        rfl
      · have : ¬ ((ca r).length : Int) - 1 < (([38, 59] : Bs).length : Int) := by simp; omega
        rw [bF this]
def nxt (s : Bs) (y : Nat) : Int := if Go.Lib.indexAny (s.drop y) [38, 59] = -1 then -1 else (y : Int) + Go.Lib.indexAny (s.drop y) [38, 59]
theorem qe (s : Bs) (y : Nat) (h : y < s.length) (hc : ([38, 59] : Bs).contains s[y] = false) : nxt s (y + 1) = nxt s y := by
  unfold nxt
  rw [be h]
  simp only [Go.Lib.indexAny, hc]
  have := (jb (s.drop (y + 1)) [38, 59]).1
  by_cases e : Go.Lib.indexAny (s.drop (y + 1)) [38, 59] = -1
  · simp [e]
  · have e2 : (Go.Lib.indexAny (s.drop (y + 1)) [38, 59] == -1) = false := by simpa using e
    have e3 : ¬ Go.Lib.indexAny (s.drop (y + 1)) [38, 59] + 1 = -1 := by omega
    simp [e, e2, e3]; omega
theorem nxt_hi (s : Bs) (y : Nat) (h : y < s.length) (hb : 128 ≤ (s[y]).toNat) : nxt s (y + 1) = nxt s y := by
  refine qe s y h ?_
  have h1 : s[y] ≠ 38 := by intro e; rw [e] at hb; revert hb; decide
  have h2 : s[y] ≠ 59 := by intro e; rw [e] at hb; revert hb; decide
  simp [h1, h2]
theorem nxt_skip (s : Bs) (y : Nat) : ∀ k, (∀ m, m < k → ∃ h : y + m < s.length, 128 ≤ (s[y + m]).toNat) → nxt s (y + k) = nxt s y := by
  intro k
  induction k with
  | zero => intro _; rfl
  | succ k ih =>
    intro h;obtain ⟨h1, h2⟩ := h k (by omega)
    rw [show y + (k + 1) = y + k + 1 by omega, nxt_hi s (y + k) h1 h2]
    exact ih (fun m hm => h m (by omega))
theorem qM (F : Nat) (hF : 5 ≤ F) (s : Bs) : ∀ (n y : Nat), s.length - y < n → fk F s [38, 59] n y = some (nxt s y) := by
  intro n
  induction n with
  | zero => intro y h; omega
  | succ n ih =>
    intro y hy;show fm F s [38, 59] (fk F s [38, 59] n) y = _
    unfold fm fT
    by_cases h : y < s.length
    · rw [bT h]
      by_cases hb : (s[y]).toNat < 128
      · rw [decR_low s y h hb]
        have hi : fq F [38, 59] ((s[y]).toNat : Int) = some (Go.Lib.indexByte [38, 59] s[y]) := by
          unfold fq
          have e : ((decide ((0 : Int) ≤ ((s[y]).toNat : Int))) && (decide (((s[y]).toNat : Int) < 128))) = true := by
            rw [decide_eq_true (by omega : (0 : Int) ≤ ((s[y]).toNat : Int)), decide_eq_true (by omega : ((s[y]).toNat : Int) < 128)]; rfl
          rw [e, cond_true, bz, lc _ (s[y]).toNat rfl, UInt8.ofNat_toNat]
        simp only [hi, bO]
        by_cases hc : ([38, 59] : Bs).contains s[y] = true
        · have h0 : 0 ≤ Go.Lib.indexByte [38, 59] s[y] := by
            have : s[y] = 38 ∨ s[y] = 59 := by simpa using hc
            rcases this with e | e <;> rw [e] <;> decide
          rw [bT h0]
          unfold nxt
          rw [be h]
          simp only [Go.Lib.indexAny, hc, if_true]
          simp
        · have hc' : ([38, 59] : Bs).contains s[y] = false := by simpa using hc
          have h0 : ¬ 0 ≤ Go.Lib.indexByte [38, 59] s[y] := by
            have hne : ¬ s[y] = 38 ∧ ¬ s[y] = 59 := by simpa using hc'
            have := kM (c := s[y]) (s := [38, 59]) (fun b hb e => by
              simp at hb
              rcases hb with rfl | rfl
              · exact hne.1 e.symm
              · exact hne.2 e.symm)
            omega
          rw [bF h0, ih (y + 1) (by omega), qe s y h hc']
      · have hh := sF s y h (by omega)
        have hp := qm s y
        rw [qK F hF _ (by omega), bO, bF (by omega), ih _ (by omega)]
        rw [nxt_skip s y (jp s y).2 (fun m hm => by
          cases m with
          | zero => exact ⟨h, by simpa using hb⟩
          | succ m => exact sE s y (m + 1) (by omega) hm)]
    · rw [bF h]
      unfold nxt
      rw [bh (by omega)]
      rfl
theorem rP (F : Nat) (s : Bs) (hF : 20 ≤ F) : iD F s [38, 59] = some (Go.Lib.indexAny s [38, 59]) := by
  unfold iD
  by_cases h : 8 < s.length
  · simp [h]
  · have e : ((decide (8 < s.length)) && (decide (2 ≤ ([38, 59] : Bs).length))) = false := by simp [h]
    rw [e, cond_false]
    unfold jo mX fS
    have e3 : decide ((8 : Int) < (s.length : Int)) = false := decide_eq_false (by omega)
    simp (disch := (first | omega | (simp; done) | (simp; omega))) only [bF, bO, e3, Bool.not_false, jU]
    rw [qM F (by omega) s F 0 (by omega)]
    unfold nxt
    rw [List.drop_zero]
    split
    · rename_i e; rw [e]
    · simp
end Go.Pn
namespace Go.Pn
open Go.Pv Go.Av
abbrev amp : Bs := [38, 59]
theorem any_cons (c : UInt8) (r : Bs) : Go.Lib.indexAny (c :: r) amp = if c = 38 ∨ c = 59 then 0 else if Go.Lib.indexAny r amp = -1 then -1 else Go.Lib.indexAny r amp + 1 := by
  simp [Go.Lib.indexAny]
theorem any_is (r : Bs) : ∀ (k : Nat) (h : k < r.length), Go.Lib.indexAny r amp = (k : Int) → r[k] = 38 ∨ r[k] = 59 := by
  induction r with
  | nil => intro k h; simp at h
  | cons c r ih =>
    intro k h hk
    rw [any_cons] at hk
    by_cases hc : c = 38 ∨ c = 59
    · rw [if_pos hc] at hk
      have : k = 0 := by omega
      subst this; simpa using hc
    · rw [if_neg hc] at hk
      split at hk
      · omega
      · cases k with
        | zero => have := (jb r amp).1; omega
        | succ k => simpa using ih k (by simpa using h) (by omega)
def cJ (r : Bs) : Bs × Bool :=
  if 0 ≤ Go.Lib.indexAny r amp ∧ Go.Lib.indexAny r amp ≤ 10 ∧ r.getD (Go.Lib.indexAny r amp).toNat 0 = 59 then (r.take (Go.Lib.indexAny r amp).toNat, decide (0 < Go.Lib.indexAny r amp)) else ([], false)
theorem body_len (r : Bs) : (cJ r).1.length ≤ 10 := by
  unfold cJ
  split
  · rename_i h; simp; omega
  · simp
theorem first_eq (F : Nat) (r : Bs) (hs : r.length ≤ 100000) (hF : 150000 < F) : ∃ x k, gP F (cJ r).1 = some (x, k) ∧ fV F (38 :: r) = some (if (cJ r).2 = true ∧ k = true then (x, ((cJ r).1.length : Int) + 2) else ([], 0)) := by
  have hbl := body_len r
  obtain ⟨x, k, hx, _⟩ := pZ F (cJ r).1 (by omega) (by omega);refine ⟨x, k, by rw [← rJ F _ hbl (by omega)]; exact hx, ?_⟩;obtain ⟨hj1, hj2⟩ := jb r amp
  have h1 : eo (38 :: r) 1 = r := rfl
  have ha : fB [38, 59] = true := by decide
  have hl : ((38 :: r : Bs).length : Int) = (r.length : Int) + 1 := by simp
  unfold fV iE
  simp (disch := (first | omega | (simp; done) | (simp; omega))) only [fN, bz, ha, jU, jV, h1, rP F r (by omega), bO]
  by_cases h : 1 ≤ Go.Lib.indexAny r amp ∧ Go.Lib.indexAny r amp ≤ 10
  · obtain ⟨j, hj⟩ : ∃ j : Nat, Go.Lib.indexAny r amp = j := ⟨(Go.Lib.indexAny r amp).toNat, by omega⟩
    have hjl : j < r.length := by omega
    have hc := any_is r j hjl hj
    have hx' : ((decide (1 ≤ Go.Lib.indexAny r amp)) && (decide (Go.Lib.indexAny r amp ≤ 10))) = true := by simp [h]
    have hat : at_ (38 :: r) ((j : Int) + 1) = r[j] := by
      rw [show (j : Int) + 1 = ((j + 1 : Nat) : Int) from rfl, iH (by simp; omega)]; simp
    have hsub : sub (38 :: r) 1 ((j : Int) + 1) = r.take j := by
      rw [show (j : Int) + 1 = ((j + 1 : Nat) : Int) from rfl, show (1 : Int) = ((1 : Nat) : Int) from rfl, pg]; simp
    rw [hj] at hx' h ⊢
    simp (disch := (first | omega | (simp; done) | (simp; omega))) only [hx', Bool.not_true, Bool.not_false, jq, cY, eh, Bool.false_or, hat]
    have hget : r.getD (j : Int).toNat 0 = r[j] := by simp [hjl]
    rcases hc with hc | hc
    · have hb : cJ r = ([], false) := by
        unfold cJ
        rw [hj, hget, hc, if_neg (by simp)]
      rw [bT hc, hb]; simp
    · have hb : cJ r = (r.take j, true) := by
        unfold cJ
        rw [hj, hget, hc, if_pos ⟨by omega, by omega, rfl⟩, decide_eq_true (by omega)]
        simp
      rw [hb] at hx ⊢
      have hlt : ((r.take j).length : Int) = (j : Int) := by simp; omega
      rw [bF (by rw [hc]; decide)]
      simp (disch := (first | omega | (simp; done) | (simp; omega))) only [mm, bz, hsub, hx, aR]
      cases k with
      | false => simp
      | true =>
        simp (disch := (first | omega | (simp; done) | (simp; omega))) only [Bool.not_true, cond_false, cY]
        simp [hlt]; omega
  · have hx' : ((decide (1 ≤ Go.Lib.indexAny r amp)) && (decide (Go.Lib.indexAny r amp ≤ 10))) = false := by
      cases hq : (decide (1 ≤ Go.Lib.indexAny r amp)) && (decide (Go.Lib.indexAny r amp ≤ 10)) with
      | false => rfl
      | true => exact absurd (by simpa using hq) h
    simp only [hx', Bool.not_false, Bool.not_true, eZ, Bool.true_or, cond_true]
    have hb : (cJ r).2 = false := by
      unfold cJ
      split
      · rename_i hh; simp; omega
      · rfl
    rw [hb]; simp
end Go.Pn
namespace Go.Pn
open Go.Pv Go.Av
def ent1 (F : Nat) (r : Bs) : Option (Bs × Nat) :=
  match gP F (cJ r).1 with
  | some (x, true) => bif (cJ r).2 then some (x, (cJ r).1.length + 2) else none
  | _ => none
def G1 (F : Nat) : Nat → Bs → Bool → Bs → Bs × Bool
  | 0, _, ok, acc => (acc, ok)
  | _ + 1, [], ok, acc => (acc, ok)
  | m + 1, c :: r, ok, acc =>
    if c = 38 then
      match ent1 F r with
      | some (x, k) => G1 F m ((c :: r).drop k) ok (acc ++ x)
      | none => G1 F m r false (acc ++ [38])
    else G1 F m r ok (acc ++ [c])
theorem ent1_two {F : Nat} {r : Bs} {x : Bs} {k : Nat} (h : ent1 F r = some (x, k)) : 2 ≤ k := by
  unfold ent1 at h
  split at h
  · cases hb : (cJ r).2 with
    | true => rw [hb] at h; simp at h; omega
    | false => rw [hb] at h; simp at h
  · cases h
theorem G1_fuel (F : Nat) : ∀ (m m' : Nat) (s : Bs) (ok : Bool) (acc : Bs), s.length < m → s.length < m' → G1 F m s ok acc = G1 F m' s ok acc := by
  intro m
  induction m with
  | zero => intro m' s ok acc h; omega
  | succ m ih =>
    intro m' s ok acc h h';obtain ⟨m'', rfl⟩ : ∃ m'', m' = m'' + 1 := ⟨m' - 1, by omega⟩
    cases s with
    | nil => rfl
    | cons c r =>
      simp only [List.length_cons] at h h'
      simp only [G1]
      by_cases hc : c = 38
      · rw [if_pos hc, if_pos hc]
        cases he : ent1 F r with
        | none => exact ih _ _ _ _ (by omega) (by omega)
        | some p =>
          have := ent1_two (x := p.1) (k := p.2) he
          exact ih _ _ _ _ (by simp; omega) (by simp; omega)
      · rw [if_neg hc, if_neg hc]
        exact ih _ _ _ _ (by omega) (by omega)
theorem rD (F : Nat) : ∀ (p t : Bs) (m : Nat) (ok : Bool) (acc : Bs), (∀ b ∈ p, b ≠ 38) → p.length + t.length < m → G1 F m (p ++ t) ok acc = G1 F m t ok (acc ++ p) := by
  intro p
  induction p with
  | nil => intro t m ok acc _ _; simp
  | cons c r ih =>
    intro t m ok acc hp hm;obtain ⟨m', rfl⟩ : ∃ m', m = m' + 1 := ⟨m - 1, by omega⟩
    simp only [List.length_cons] at hm
    simp only [List.cons_append, G1]
    rw [if_neg (hp c (by simp)), ih t m' ok _ (fun b hb => hp b (by simp [hb])) (by omega), G1_fuel F m' (m' + 1) t ok _ (by omega) (by omega)]
    simp
theorem mb (s : Bs) (i : Nat) (h : Go.Lib.indexByte s 38 = (i : Int)) : (∀ b ∈ s.take i, b ≠ 38) ∧ ∃ r, s.drop i = 38 :: r := by
  induction s generalizing i with
  | nil => simp [Go.Lib.indexByte] at h
  | cons c r ih =>
    unfold Go.Lib.indexByte at h
    by_cases hc : c = 38
    · subst hc
      have : i = 0 := by simp at h; omega
      subst this;exact ⟨by simp, r, rfl⟩
    · have hcb : (c == 38) = false := by simpa using hc
      rw [hcb] at h
      by_cases hn : Go.Lib.indexByte r 38 = -1
      · simp [hn] at h
      · have hnb : (Go.Lib.indexByte r 38 == -1) = false := by simpa using hn
        rw [hnb] at h
        have hr := jB r 38
        simp at h
        obtain ⟨j, rfl⟩ : ∃ j, i = j + 1 := ⟨i - 1, by omega⟩;obtain ⟨h1, t, h2⟩ := ih j (by omega);refine ⟨fun b hb => ?_, t, by simpa using h2⟩
        simp only [List.take_succ_cons, List.mem_cons] at hb
        rcases hb with rfl | hb
        · exact hc
        · exact h1 b hb
theorem ns (s : Bs) (h : Go.Lib.indexByte s 38 < 0) : ∀ b ∈ s, b ≠ 38 := by
  induction s with
  | nil => simp
  | cons c r ih =>
    have hr := jB r 38
    unfold Go.Lib.indexByte at h
    split at h
    · omega
    · rename_i hc
      have hc' : c ≠ 38 := by simpa using hc
      split at h
      · rename_i hn
        have hn' : Go.Lib.indexByte r 38 = -1 := by simpa using hn
        intro b hb
        rcases List.mem_cons.1 hb with rfl | hb
        · exact hc'
        · exact ih (by omega) b hb
      · rename_i hn
        have hn' : ¬ Go.Lib.indexByte r 38 = -1 := by simpa using hn
        omega
theorem pS (F : Nat) (hF : 200000 < F) : ∀ (n : Nat) (s : Bs) (ok : Bool) (acc : Bs) (m : Nat), s.length < n → s.length < m → s.length ≤ 100000 → acc.length + 4 * s.length ≤ 1000000 → ey F n (s, ok, acc) = some (G1 F m s ok acc) := by
  intro n
  induction n with
  | zero => intro s ok acc m h; omega
  | succ n ih =>
    intro s ok acc m hn hm hs ha;show gi F (ey F n) s ok acc = _
    unfold gi fv
    obtain ⟨hi1, hi2⟩ := jB s 38
    by_cases h : Go.Lib.indexByte s 38 < 0
    · simp (disch := (first | omega | (simp; done) | (simp; omega))) only [bz, bT, grd_W]
      have := rD F s [] m ok acc (ns s h) (by simpa using hm)
      rw [List.append_nil] at this
      rw [this]
      obtain ⟨m', rfl⟩ : ∃ m', m = m' + 1 := ⟨m - 1, by omega⟩
      rfl
    · obtain ⟨i, hi⟩ : ∃ i : Nat, Go.Lib.indexByte s 38 = i := ⟨(Go.Lib.indexByte s 38).toNat, by omega⟩
      obtain ⟨hp, r, hr⟩ := mb s i hi
      have il : i < s.length := by omega
      have l1 : (to_ s (i : Int)).length = i := by simp [mY]; omega
      have e2 : eo s (i : Int) = 38 :: r := by rw [kX, hr]
      have hsp : s = s.take i ++ 38 :: r := by rw [← hr, List.take_append_drop]
      have lr : r.length = s.length - i - 1 := by
        have := congrArg List.length hr
        simp at this; omega
      have e1 : to_ s (i : Int) = s.take i := mY
      obtain ⟨x, k, hx, hf⟩ := first_eq F r (by omega) (by omega);obtain ⟨o, kk, ho, hk⟩ := rT F (38 :: r) (by simp) (by simp; omega) (by simp; omega)
      rw [hf] at ho
      have hG : G1 F m s ok acc = G1 F m (38 :: r) ok (acc ++ s.take i) := by
        have := rD F (s.take i) (38 :: r) m ok acc hp (by simp; omega)
        rw [← hsp] at this; exact this
      obtain ⟨m', rfl⟩ : ∃ m', m = m' + 1 := ⟨m - 1, by omega⟩
      have ltk : (s.take i).length = i := by simp; omega
      rw [hG]
      simp (disch := (first | omega | (simp; done) | (simp; omega))) only [bz, hi, bF, fN, grd_W, e2, hf]
      simp only [G1, if_true, ent1, hx]
      by_cases hb : (cJ r).2 = true ∧ k = true
      · rw [if_pos hb] at ho ⊢
        obtain ⟨hb1, rfl⟩ := hb
        have ho' := al ho
        have hk1 : ((cJ r).1.length : Int) + 2 = kk := (Prod.mk.inj ho').2
        have ho1 : x = o := (Prod.mk.inj ho').1
        subst ho1
        rcases hk with rfl | ⟨k3, kl, ol⟩
        · omega
        · simp only [List.length_cons] at kl
          have ef : eo (38 :: r) (((cJ r).1.length : Int) + 2) = (38 :: r).drop ((cJ r).1.length + 2) := by
            rw [show ((cJ r).1.length : Int) + 2 = (((cJ r).1.length + 2 : Nat) : Int) from rfl, kX]
          simp only [hb1, cond_true, aR, ef]
          simp (disch := (first | omega | (simp; done) | (simp; omega))) only [bF, grd_W, bz, fN, e1]
          rw [ih _ ok _ m' (by simp; omega) (by simp; omega) (by simp; omega) (by simp; omega)]
      · rw [if_neg hb]
        have e0 : eo (38 :: r) 1 = r := rfl
        have hm1 : (match (some (x, k) : Option (Bs × Bool)) with | some (x, true) => bif (cJ r).2 then some (x, (cJ r).1.length + 2) else none | _ => none) = none := by
          cases k with
          | false => rfl
          | true =>
            have : (cJ r).2 = false := by
              cases hq : (cJ r).2 with
              | false => rfl
              | true => exact absurd ⟨hq, rfl⟩ hb
            rw [this]; rfl
        simp only [aR]
        simp (disch := (first | omega | (simp; done) | (simp; omega))) only [decide_true, cond_true, grd_W, bz, fN, e0, e1]
        rw [ih r false _ m' (by omega) (by omega) (by omega) (by simp; omega)]
        have hm2 : ent1 F r = none := by unfold ent1; rw [hx]; exact hm1
        unfold ent1 at hm2; rw [hx] at hm2
        cases k with
        | false => rfl
        | true => 
          cases hq : (cJ r).2 with
          | false => rfl
          | true => exact absurd ⟨hq, rfl⟩ hb
end Go.Pn
namespace Go.Pn
open Go.Pv Go.Av
theorem goneG (F : Nat) (hF : 200000 < F) (s : Bs) (hs : s.length ≤ 100000) : la F s = some (G1 F (s.length + 1) s true []) := pS F hF F s true [] (s.length + 1) (by omega) (by omega) hs (by simp; omega)
theorem decG (F : Nat) (hF : 200000 < F) (s : Bs) (hs : s.length ≤ 100000) : gS F s = some (bif (G1 F (s.length + 1) s true []).2 then ((G1 F (s.length + 1) s true []).1, 0) else ([], 2)) := by
  unfold gS; rw [goneG F hF s hs]
  obtain ⟨o, k⟩ := G1 F (s.length + 1) s true []
  rw [aR]
  cases k <;> rfl
end Go.Pn
namespace Go.Xm
open Go.Pv Go.Av
theorem jW {α : Type} {a b : α} : (bif true then a else b) = a := Eq.symm (Eq.symm rfl)
theorem er {α : Type} {a b : α} : (bif false then a else b) = b := Eq.symm (Eq.symm rfl)
theorem bnT {α : Type} {a b : α} : (bif !true then a else b) = b := Eq.symm (Eq.symm rfl)
theorem bnF {α : Type} {a b : α} : (bif !false then a else b) = a := Eq.symm (Eq.symm rfl)
theorem notT : (!true) = false := Eq.symm (Eq.symm rfl)
theorem notF : (!false) = true := Eq.symm (Eq.symm rfl)
theorem ands {a b : Bool} (h : (a && b) = true) : a = true ∧ b = true := by cases a <;> cases b <;> first | exact ⟨rfl, rfl⟩ | cases h
theorem gcS {α : Type} {k : Option α} {c : Bool} {n : Nat} (h : n < 4294967281) : ek c (okS n) k = k := by
  cases c
  · exact eZ
  · rw [jq, jV h]
theorem gcA {α : Type} {k : Option α} {c : Bool} : ek c (fB xmla_k1) k = k := by
  have : fB xmla_k1 = true := by decide +kernel
  rw [this]; cases c <;> rfl
theorem all8 (p : UInt8 → Bool) (h : ∀ k : Fin 256, p (UInt8.ofNat k.val) = true) (b : UInt8) : p b = true := by
  have := h ⟨b.toNat, b.toNat_lt⟩
  simpa using this
theorem qh (x : UInt8) (r u : Bs) : Go.Lib.index (x :: r) u = if u.isPrefixOf (x :: r) = true then 0 else if Go.Lib.index r u = -1 then -1 else Go.Lib.index r u + 1 := by
  by_cases h : u.isPrefixOf (x :: r) = true
  · simp [Go.Lib.index, h]
  · simp [Go.Lib.index, h]
def cutO : Option (Bs × Bs) → Bs → Bs × Bs × Bool
  | none, s => (s, [], false)
  | some (a, b), _ => (a, b, true)
theorem cut_eq {p : Bs} (hp : p ≠ []) : ∀ s : Bs, Go.Lib.cut s p = cutO (iB p s) s
  | [] => by
    have : p.isEmpty = false := by cases p with | nil => exact absurd rfl hp | cons a b => rfl
    unfold Go.Lib.cut iB
    rw [if_neg hp]
    simp [Go.Lib.index, this, cutO]
  | c :: r => by
    have ih := cut_eq hp r
    have hg := Go.Lib.index_ge r p
    unfold Go.Lib.cut at ih ⊢
    unfold iB
    rw [qh]
    by_cases h : p.isPrefixOf (c :: r) = true
    · rw [if_pos h, if_pos h, if_pos (Int.le_refl 0)]
      simp [cutO]
    · rw [if_neg h, if_neg h]
      by_cases h1 : Go.Lib.index r p = -1
      · rw [if_neg (by omega)] at ih
        rw [if_pos h1, if_neg (by omega)]
        cases e : iB p r with
        | none => rfl
        | some x => rw [e] at ih; obtain ⟨a, b⟩ := x; have := congrArg (fun x => x.2.2) ih; simp [cutO] at this
      · rw [if_pos (by omega)] at ih
        rw [if_neg h1, if_pos (by omega)]
        obtain ⟨n, hn⟩ : ∃ n : Nat, Go.Lib.index r p = (n : Int) := ⟨(Go.Lib.index r p).toNat, by omega⟩
        rw [hn] at ih ⊢
        cases e : iB p r with
        | none => rw [e] at ih; have := congrArg (fun x => x.2.2) ih; simp [cutO] at this
        | some x =>
          obtain ⟨a, b⟩ := x
          rw [e] at ih
          simp only [cutO, Prod.mk.injEq, Int.toNat_natCast, and_true] at ih ⊢
          have e1 : ((n : Int) + 1).toNat = n + 1 := by omega
          rw [e1]
          refine ⟨by rw [List.take_succ_cons, ih.1], ?_⟩
          rw [show n + 1 + p.length = (n + p.length) + 1 by omega, List.drop_succ_cons, ih.2]
theorem ry (s p : Bs) : Go.Lib.hasPrefix s p = p.isPrefixOf s := rfl
theorem iC {F : Nat} {s p : Bs} {o : List Bs} {k : Int} {l : List Tok} (h : p.isPrefixOf s = false) : dB F s o k l p = some (false, s) := by
  unfold dB Go.Lib.trimPrefix
  rw [bz, ry, h]; rfl
theorem gY {F : Nat} {s p : Bs} {o : List Bs} {k : Int} {l : List Tok} (h : p.isPrefixOf s = true) : dB F s o k l p = some (true, s.drop p.length) := by
  unfold dB Go.Lib.trimPrefix
  rw [bz, ry, h]; rfl
theorem mh {F : Nat} : cc F true = some (.ok ()) := Eq.symm (Eq.symm rfl)
theorem lk {F : Nat} : cc F false = some (.pan 2) := Eq.symm (Eq.symm rfl)
def cutR : Option (Bs × Bs) → Res (Bs × Bs)
  | none => .pan 2
  | some x => .ok x
theorem pf {F : Nat} {s p : Bs} {o : List Bs} {k : Int} {l : List Tok} (hp : p ≠ []) (hs : s.length ≤ 1000000) : fp F s o k l p = some (cutR (iB p s)) := by
  unfold fp
  rw [jV (by omega), bz, cut_eq hp]
  cases iB p s with
  | none => simp only [cutO]; rw [lk, bZ]; rfl
  | some x => obtain ⟨a, b⟩ := x; simp only [cutO]; rw [mh, bN]; rfl
theorem blk_c (c : UInt8) : ([9, 10, 13, 32] : Bs).contains c = fM c := by
  have := all8 (fun c => ([9, 10, 13, 32] : Bs).contains c == fM c) (by decide +kernel) c
  simpa using this
theorem nJ {F : Nat} {s : Bs} {o : List Bs} {k : Int} {l : List Tok} : gI F s o k l = some (decide (((s.dropWhile fM).length : Int) < (s.length : Int)), s.dropWhile fM) := by
  have h : fB ([9, 10, 13, 32] : List UInt8) = true := by decide +kernel
  have e : (fun x => ([9, 10, 13, 32] : Bs).contains x) = fM := funext blk_c
  unfold gI Go.Lib.trimLeftS
  rw [jV (by simp), h, jU, bz, e]
theorem sgn_i (c : UInt8) : decide (0 ≤ Go.Lib.indexByte xmla_k1 c) = iz c := by
  have := all8 (fun c => decide (0 ≤ Go.Lib.indexByte xmla_k1 c) == iz c) (by decide +kernel) c
  simpa using this
theorem sgn_n (c : UInt8) : decide (Go.Lib.indexByte xmla_k1 c < 0) = !iz c := by
  rw [← sgn_i]
  by_cases h : 0 ≤ Go.Lib.indexByte xmla_k1 c
  · rw [decide_eq_true h, decide_eq_false (by omega)]; rfl
  · rw [decide_eq_false h, decide_eq_true (by omega)]; rfl
theorem sgn_c (c : UInt8) : xmla_k1.contains c = iz c := by
  have := all8 (fun c => xmla_k1.contains c == iz c) (by decide +kernel) c
  simpa using this
theorem let_c (c : UInt8) : Go.Lib.contains xmla_k2 [c] = letB c := by
  have := all8 (fun c => Go.Lib.contains xmla_k2 [c] == letB c) (by decide +kernel) c
  simpa using this
theorem tw_at {f : UInt8 → Bool} : ∀ {s : Bs} {i : Nat}, i ≤ s.length → (s.take i).all f = true → (∀ h : i < s.length, f s[i] = false) → s.takeWhile f = s.take i ∧ s.dropWhile f = s.drop i
  | [], i, h, _, _ => by simp
  | c :: s, 0, h, _, g => by
    have := g (by simp)
    rw [List.getElem_cons_zero] at this
    rw [List.takeWhile_cons, List.dropWhile_cons, this]; simp
  | c :: s, i + 1, h, ha, g => by
    rw [List.take_succ_cons, List.all_cons] at ha
    obtain ⟨h1, h2⟩ := ands ha
    have := tw_at (s := s) (i := i) (by simpa using h) h2 fun q => by
      have := g (by simpa using q)
      rw [List.getElem_cons_succ] at this; exact this
    rw [List.takeWhile_cons, List.dropWhile_cons, h1]
    simp [this.1, this.2]
theorem mI (s : Bs) (hs : s.length ≤ 1000000) : ∀ (n i : Nat), s.length - i < n → i ≤ s.length → ge s n (i : Int) = some ((s.drop i).all iz)
  | 0, i, h, _ => by omega
  | n + 1, i, h, hi => by
    show gf s (ge s n) (i : Int) = _
    unfold gf
    by_cases g : i < s.length
    · rw [bT (by omega), eh (by omega), bz, iH g, bz, sgn_n, be g, List.all_cons]
      cases iz s[i] with
      | false => rw [notF, jW, Bool.false_and]
      | true =>
        rw [notT, er, cY (by omega), cP, mI s hs n (i + 1) (by omega) (by omega), Bool.true_and]
    · rw [bF (by omega), bh (by omega)]; rfl
theorem inner_eq (F : Nat) (s : Bs) (hs : s.length ≤ 1000000) (hF : s.length < F) : kP F s = some (s.all iz) := mI s hs F 0 (by omega) (by omega)
theorem py (f : UInt8 → Bool) : ∀ l : Bs, l.dropWhile f = [] ↔ ∀ x ∈ l, f x = true
  | [] => by simp
  | c :: l => by
    have ih := py f l
    cases h : f c with
    | true => simp [List.dropWhile_cons, h, ih]
    | false => simp [List.dropWhile_cons, h]
theorem trim_sgn (t : Bs) : decide (Go.Lib.trimS t xmla_k1 = []) = t.all iz := by
  unfold Go.Lib.trimS Go.Lib.trimLeftS Go.Lib.trimRightS
  have e : (fun x => xmla_k1.contains x) = iz := funext sgn_c
  rw [e]
  cases h : t.all iz with
  | true =>
    rw [List.all_eq_true] at h
    refine decide_eq_true ?_
    have : t.reverse.dropWhile iz = [] := by
      rw [py]; intro x hx; exact h x (List.mem_reverse.1 hx)
    rw [this]; rfl
  | false =>
    rw [List.all_eq_false] at h
    obtain ⟨x, hx, hn⟩ := h
    refine decide_eq_false fun q => ?_
    rw [py] at q
    have hne : t.reverse.dropWhile iz ≠ [] := by
      intro e
      rw [py] at e
      exact hn (e x (List.mem_reverse.2 hx))
    have := List.head_dropWhile_not iz (l := t.reverse) hne
    have hm := q _ (List.mem_reverse.2 (List.head_mem hne))
    rw [hm] at this
    simp at this
theorem to1 (c : UInt8) (r : Bs) : to_ (c :: r) 1 = [c] := rfl
theorem qJ (c : UInt8) (r : Bs) : nb (c :: r) = (letB c && ((c :: r).all iz && decide ((c :: r).length ≤ 60))) := Eq.symm (Eq.symm rfl)
theorem Name_eq (F : Nat) (s : Bs) (hs : s.length ≤ 1000000) (hF : 100 < F) : jP F s = some (nb s) := by
  unfold jP
  have l1 : xmla_k1.length < 4294967281 := by decide +kernel
  have l2 : xmla_k2.length < 4294967281 := by decide +kernel
  simp only [bz, gcS l1, gcS l2, gcS (n := s.length) (by omega), gcA]
  cases s with
  | nil => simp [ek, iQ, nb]
  | cons c r =>
    rw [decide_eq_false (p := c :: r = ([] : List UInt8)) (by simp), notF, Bool.true_and, to1, let_c, trim_sgn]
    rw [qJ]
    have hp : 0 < (c :: r).length := by simp
    by_cases h : (c :: r).length ≤ 60
    · rw [decide_eq_true h, decide_eq_true (p := (((c :: r).length : Nat) : Int) ≤ 60) (by omega), jq, fN (by omega), Bool.true_and]
      cases hc : letB c with
      | false => rw [Bool.false_and, iG, Bool.false_and, Bool.false_and]
      | true =>
        cases ha : (c :: r).all iz with
        | false => rw [Bool.and_false, iG, Bool.false_and, Bool.false_and, Bool.and_false]
        | true => rw [inner_eq F (c :: r) hs (by omega), ha, fW]; rfl
    · rw [decide_eq_false h, decide_eq_false (p := (((c :: r).length : Nat) : Int) ≤ 60) (by omega), eZ, Bool.false_and, Bool.false_and, iG, Bool.false_and, Bool.and_false, Bool.and_false]
def jT : Option (Bs × Bs) → Res (Bs × Bs)
  | none => .pan 2
  | some x => .ok x
theorem nM (F : Nat) (hF : 100 < F) (s : Bs) (hs : s.length ≤ 1000000) : ∀ (n i : Nat), s.length - i < n → i ≤ s.length → (s.take i).all iz = true → gN F s n (i : Int) = some (jT (gp s))
  | 0, i, h, _, _ => by omega
  | n + 1, i, h, hi, ha => by
    have fin : (∀ h : i < s.length, iz s[i] = false) → fP F s (i : Int) = some (jT (gp s)) := fun q => by
      obtain ⟨e1, e2⟩ := tw_at hi ha q
      unfold fP gp
      rw [fN (by omega), bz, mY, kX, Name_eq F _ (by rw [List.length_take]; omega) hF, bO, e1, e2]
      cases nb (s.take i) with
      | false => rw [lk, bZ]; rfl
      | true => rw [mh, bN, fN (by omega), bz]; rfl
    show gO F s (gN F s n) (i : Int) = _
    unfold gO
    by_cases g : i < s.length
    · rw [decide_eq_true (p := (i : Int) < (s.length : Int)) (by omega), jq, eh (by omega), bz, iH g, bz, sgn_i, Bool.true_and]
      cases hc : iz s[i] with
      | false => rw [er]; exact fin fun _ => hc
      | true =>
        rw [jW, cY (by omega), cP]
        refine nM F hF s hs n (i + 1) (by omega) (by omega) ?_
        rw [List.take_succ_eq_append_getElem g, List.all_append, ha, List.all_cons, hc]; rfl
    · rw [decide_eq_false (p := (i : Int) < (s.length : Int)) (by omega), eZ, bz, bz, Bool.false_and, er]
      exact fin fun q => absurd q g
theorem pm {F : Nat} {s : Bs} {o : List Bs} {k : Int} {l : List Tok} (hF : 100 < F) (hs : s.length ≤ 1000000) (hl : s.length < F) : ip F s o k l = some (jT (gp s)) :=
  nM F hF s hs F 0 (by omega) (by omega) (by simp)
end Go.Xm
namespace Go.Xm
open Go.Pv Go.Av
def dec (F : Nat) (s : Bs) : Option Bs := bif (Go.Pn.G1 F (s.length + 1) s true []).2 then some (Go.Pn.G1 F (s.length + 1) s true []).1 else none
def oR {α : Type} : Option α → Res α
  | none => .pan 2
  | some x => .ok x
section
variable {F : Nat} (hF : 1500000 < F)
include hF
theorem oy {s : Bs} (hs : s.length ≤ 100000) : fx F s = some (oR (dec F s)) := by
  unfold fx dec
  rw [Go.Pn.decG F (by omega) s hs]
  cases (Go.Pn.G1 F (s.length + 1) s true []).2 with
  | true => rw [jW, jW, aR, decide_eq_true rfl, mh, bN]; rfl
  | false => rw [er, er, aR, decide_eq_false (by decide), lk, bZ]; rfl
omit hF in
theorem rj {s t : Bs} {o : List Bs} {k : Int} {l : List Tok} (hl : l.length ≤ 1000000) : jO F s o k l t = some (oY t l) := by
  unfold jO oY
  by_cases h : t = []
  · rw [decide_eq_true h, bnT, if_pos h]
  · rw [decide_eq_false h, bnF, if_neg h, dC (by simp; omega), bz]
omit hF in
theorem at_last {o : List Bs} (h : o ≠ []) : at_ o ((o.length : Int) - 1) = o.getLast h := by
  have hp := List.length_pos_iff.2 h
  rw [show (o.length : Int) - 1 = ((o.length - 1 : Nat) : Int) by omega, iH (by omega), List.getLast_eq_getElem]
def qn : Rx → Res (List Tok × List Bs)
  | .ok x => .ok (x.2.2.2, x.2.1)
  | .no e => .pan e
omit hF in
theorem rn {s n : Bs} {o : List Bs} {k : Nat} {l : List Tok} (ho : o.length ≤ 100) (hl : l.length ≤ 1000000) : io F s o (k : Int) l n = some (qn (ll n s o k l)) := by
  unfold io ll
  rw [cY (by omega)]
  by_cases h : o = []
  · subst h
    rw [decide_eq_false (p := 0 ≤ ((([] : List Bs).length : Nat) : Int) - 1) (by simp), eZ, eZ, bz, Bool.false_and, lk, bZ, if_neg (by simp)]; rfl
  · have hp := List.length_pos_iff.2 h
    rw [decide_eq_true (p := 0 ≤ (o.length : Int) - 1) (by omega), jq, jq, eh (by omega), eh (by omega), bz, at_last h, Bool.true_and, List.getLast?_eq_some_getLast h]
    by_cases g : o.getLast h = n
    · rw [decide_eq_true g, mh, bN, fN (by omega), bz, dC (by simp; omega), bz, if_pos (by rw [g])]
      rw [show (o.length : Int) - 1 = ((o.length - 1 : Nat) : Int) by omega, mY, ← List.dropLast_eq_take]; rfl
    · rw [decide_eq_false g, lk, bZ, if_neg (by simpa using g)]; rfl
omit hF in
theorem ib_eq : ∀ s : Bs, (Go.Lib.indexByte s 60 = -1 ∧ (s.takeWhile fun c => decide (c ≠ 60)) = s ∧ (s.dropWhile fun c => decide (c ≠ 60)) = []) ∨
    ∃ i : Nat, Go.Lib.indexByte s 60 = (i : Int) ∧ i < s.length ∧ (s.takeWhile fun c => decide (c ≠ 60)) = s.take i ∧ (s.dropWhile fun c => decide (c ≠ 60)) = s.drop i
  | [] => .inl ⟨rfl, rfl, rfl⟩
  | c :: r => by
    by_cases h : c = 60
    · right; subst h; exact ⟨0, by simp [Go.Lib.indexByte], by simp, by simp, by simp⟩
    · have hb : (c == 60) = false := by simpa using h
      rcases ib_eq r with ⟨h1, h2, h3⟩ | ⟨i, h1, h2, h3, h4⟩
      · left
        refine ⟨by simp [Go.Lib.indexByte, hb, h1], ?_, ?_⟩
        · rw [List.takeWhile_cons, if_pos (by simpa using h), h2]
        · rw [List.dropWhile_cons, if_pos (by simpa using h), h3]
      · right
        refine ⟨i + 1, ?_, by simpa using h2, ?_, ?_⟩
        · have : ¬ ((i : Int) = -1) := by omega
          simp [Go.Lib.indexByte, hb, h1, this]
        · rw [List.takeWhile_cons, if_pos (by simpa using h), h3]; rfl
        · rw [List.dropWhile_cons, if_pos (by simpa using h), h4]; rfl
omit hF in
theorem bl_blk (c : UInt8) : Go.Pn.bl c = fM c := Eq.symm (Eq.symm rfl)
omit hF in
theorem pX : ∀ s : Bs, decide (Go.Pn.trim s = []) = s.all fM
  | [] => rfl
  | c :: r => by
    rw [Go.Pn.trim, List.all_cons, bl_blk]
    cases fM c with
    | true => rw [jW, Bool.true_and, pX r]
    | false => rw [er, Bool.false_and]; simp
def rg : Rx → Res (Bool × Bs × List Tok)
  | .ok x => .ok (true, x.1, x.2.2.2)
  | .no e => .pan e
theorem rq {s : Bs} {o : List Bs} {k : Nat} {l : List Tok} (i : Nat) (hs : s.length ≤ 100000) (hl : l.length ≤ 1000000) (hi : i ≤ s.length) (h0 : i ≠ 0)
    (e1 : (s.takeWhile fun c => decide (c ≠ 60)) = s.take i) (e2 : (s.dropWhile fun c => decide (c ≠ 60)) = s.drop i) : dP F s o (k : Int) l (i : Int) = some (rg (kA (dec F) s o k l)) := by
  have h1 : (s.take i).length ≤ 100000 := by rw [List.length_take]; omega
  unfold dP kA
  rw [bF (by omega), fN (by omega), bz, fN (by omega), bz, mY, kX, oy hF h1, e1, e2]
  cases dec F (s.take i) with
  | none => simp only [oR]; rw [bZ]; rfl
  | some t =>
    simp only [oR]
    rw [bN]
    by_cases ho : o = []
    · subst ho
      rw [bT (by simp), Go.Pn.ent_Trim_eq F _ (by omega) (by omega), bO, pX, if_pos rfl]
      cases (s.take i).all fM with
      | true => rw [mh, bN]; rfl
      | false => rw [lk, bZ]; rfl
    · have := List.length_pos_iff.2 ho
      rw [bF (by omega), rj hl, bO, if_neg ho]; rfl
theorem plain_eq {s : Bs} {o : List Bs} {k : Nat} {l : List Tok} (hs : s.length ≤ 100000) (hl : l.length ≤ 1000000) (h0 : s ≠ []) (h : ([60] : Bs).isPrefixOf s = false) :
    fJ F s o (k : Int) l = some (rg (kA (dec F) s o k l)) := by
  have hp := List.length_pos_iff.2 h0
  unfold fJ
  rw [bz]
  rcases ib_eq s with ⟨h1, h2, h3⟩ | ⟨i, h1, h2, h3, h4⟩
  · rw [h1, bT (by omega)]
    exact rq hF s.length hs hl (Nat.le_refl _) (by omega) (by rw [List.take_length]; exact h2) (by rw [List.drop_length]; exact h3)
  · rw [h1, bF (by omega)]
    refine rq hF i hs hl (by omega) (fun e => ?_) h3 h4;subst e
    cases s with
    | nil => exact h0 rfl
    | cons c r =>
      by_cases g : c = 60
      · subst g; simp at h
      · have hb : (c == 60) = false := by simpa using g
        have hg := Go.Lib.indexByte_ge r 60
        rw [Go.Lib.indexByte, hb] at h1
        simp only [Bool.false_eq_true, if_false] at h1
        by_cases q : Go.Lib.indexByte r 60 = -1
        · rw [q] at h1; simp at h1
        · simp only [beq_iff_eq, q, if_false] at h1; omega
omit hF in
theorem plain_no {s : Bs} {o : List Bs} {k : Int} {l : List Tok} (h : ([60] : Bs).isPrefixOf s = true) : fJ F s o k l = some (.ok (false, s, l)) := by
  cases s with
  | nil => cases h
  | cons c r =>
    have hc : c = 60 := by
      by_cases g : c = 60
      · exact g
      · have : (60 == c) = false := by simpa using fun q => g q.symm
        simp [List.isPrefixOf, this] at h
    subst hc
    have : Go.Lib.indexByte (60 :: r) 60 = 0 := by simp [Go.Lib.indexByte]
    unfold fJ
    rw [bz, this, bF (by omega)]
    unfold dP
    rw [bT rfl]
end
end Go.Xm
namespace Go.Xm
open Go.Pv Go.Av
theorem ib_ge (s : Bs) : -1 ≤ Go.Lib.index s [60] := Go.Lib.index_ge s [60]
theorem rA : ∀ s : Bs, Go.Lib.contains s [60] = decide (60 ∈ s)
  | [] => by simp [Go.Lib.contains, Go.Lib.index]
  | c :: r => by
    have ih := rA r
    have hg := ib_ge r
    unfold Go.Lib.contains at ih ⊢
    rw [qh]
    by_cases h : c = 60
    · subst h; simp
    · have hb : (60 == c) = false := by simpa using fun q => h q.symm
      have hm : (60 ∈ c :: r) ↔ 60 ∈ r := by rw [List.mem_cons]; exact ⟨fun q => q.elim (fun e => absurd e.symm h) id, .inr⟩
      rw [if_neg (by simp [List.isPrefixOf, hb]), decide_eq_decide.2 hm, ← ih]
      by_cases g : Go.Lib.index r [60] = -1
      · rw [if_pos g, g]
      · rw [if_neg g]; exact decide_eq_decide.2 (by omega)
def attrR : Option (At × Bs) → Res (Bs × Bs × Bs)
  | none => .pan 2
  | some (a, r) => .ok (a.1, a.2, r)
theorem nN (F : Nat) (as_ : List At) (n v : Bs) (hl : as_.length ≤ 1000000) : ∀ (m i : Nat), as_.length - i < m → i ≤ as_.length → ∃ j : Int, dm F as_ n v m (i : Int) = some j ∧ decide (0 ≤ j) = (as_.drop i).any fun x => decide (x.1 = n)
  | 0, i, h, _ => by omega
  | m + 1, i, h, hi => by
    show ∃ j : Int, dV F as_ n v (dm F as_ n v m) (i : Int) = some j ∧ _
    unfold dV
    by_cases g : i < as_.length
    · rw [bT (by omega), eh (by omega), bz, iH g, be g, List.any_cons]
      unfold kQ
      rw [bO]
      by_cases e : n = as_[i].1
      · rw [decide_eq_true e, jW, decide_eq_true e.symm, Bool.true_or]
        exact ⟨_, rfl, decide_eq_true (by omega)⟩
      · rw [decide_eq_false e, er, cY (by omega), cP, decide_eq_false (fun q => e q.symm), Bool.false_or]
        exact nN F as_ n v hl m (i + 1) (by omega) (by omega)
    · rw [bF (by omega), bh (by omega)]
      exact ⟨-1, rfl, rfl⟩
theorem cont_eq (F : Nat) (as_ : List At) (n v : Bs) (hl : as_.length ≤ 1000000) (hF : as_.length < F) : dW F as_ n v = some (as_.any fun x => decide (x.1 = n)) := by
  obtain ⟨j, h1, h2⟩ := nN F as_ n v hl F 0 (by omega) (by omega)
  unfold dW gE
  show bnd (dm F as_ n v F ((0 : Nat) : Int)) _ = _
  rw [h1, bO, h2, List.drop_zero]
section
variable {F : Nat} (hF : 1500000 < F)
include hF
theorem attr_j {s : Bs} {o : List Bs} {k : Int} {l : List Tok} {x : Bs × Bs} (q : UInt8) (hs : s.length ≤ 100000) : fg F o k l x [q] s = some (attrR (pd (dec F) x.1 q s)) := by
  unfold fg pd
  rw [pf (by simp) (by omega)]
  cases e : iB [q] s with
  | none => simp only [cutR]; rw [bZ]; rfl
  | some y =>
    obtain ⟨raw, r⟩ := y
    have hl := congrArg List.length (jG (by simp) e)
    simp only [List.length_append] at hl
    simp only [cutR]
    rw [bN, jV (by simp; omega), bz]
    simp only []
    rw [rA]
    by_cases g : 60 ∈ raw
    · rw [decide_eq_true g, notT, lk, bZ, if_pos g]; rfl
    · rw [decide_eq_false g, notF, mh, bN, if_neg g, oy hF (by omega)]
      cases dec F raw with
      | none => simp only [oR]; rw [bZ]; rfl
      | some t => simp only [oR]; rw [bN]; rfl
theorem attr_eq {s : Bs} {o : List Bs} {k : Int} {l : List Tok} (hs : s.length ≤ 100000) : jm F s o k l = some (attrR (mg (dec F) s)) := by
  unfold jm mg
  rw [pm (by omega) (by omega) (by omega)]
  cases e : gp s with
  | none => simp only [jT]; rw [bZ]; rfl
  | some y =>
    obtain ⟨n, r⟩ := y
    have hl := congrArg List.length (lf e).1
    rw [List.length_append] at hl
    simp only [jT]
    rw [bN]
    simp only []
    by_cases h1 : ([61, 34] : Bs).isPrefixOf r = true
    · rw [gY h1, aR, bnT, if_pos h1]
      exact attr_j hF 34 (by simp; omega)
    · rw [iC (eq_false_of_ne_true h1), aR, bnF, if_neg h1]
      by_cases h2 : ([61, 39] : Bs).isPrefixOf r = true
      · rw [gY h2, aR, mh, bN, if_pos h2]
        exact attr_j hF 39 (by simp; omega)
      · rw [iC (eq_false_of_ne_true h2), aR, lk, bZ, if_neg h2]; rfl
abbrev ER := Bool × Bs × Int × List Tok × List Bs
def qr : Rx → Res ER
  | .ok x => .ok (true, x.1, (x.2.2.1 : Int), x.2.2.2, x.2.1)
  | .no e => .pan e
omit hF in
theorem rr {s n v : Bs} {as_ : List At} {em : Bool} {o : List Bs} {k : Nat} {l : List Tok} (ho : o.length ≤ 20) (hl : l.length ≤ 999000) :
    dy F o l (n, v) em s as_ (k : Int) = some (qr (if 20 ≤ o.length then .no 5 else if em = true then .ok (s, o, k, (l ++ [(0, n, [], as_)]) ++ [(1, n, [], [])]) else .ok (s, o ++ [n], k, l ++ [(0, n, [], as_)]))) := by
  have hn : (o ++ [n]).length = o.length + 1 := by simp
  unfold dy eP
  dsimp only
  rw [dC (by simp; omega), bz]
  by_cases h : 20 ≤ o.length
  · rw [bT (by omega), if_pos h]; rfl
  · rw [bF (by omega), if_neg h]
    unfold eQ eR
    dsimp only
    rw [dC (by simp; omega), bz]
    cases em with
    | false => rw [er, if_neg (by decide)]; rfl
    | true =>
      rw [jW, if_pos rfl, rn (by omega) (by simp; omega)]
      unfold ll
      rw [if_pos (by simp)]
      simp only [qn]
      rw [bN]
      simp [eb, qr]
omit hF in
theorem rt {s n v : Bs} {as_ : List At} {em : Bool} {o : List Bs} {k : Nat} {l : List Tok} (ho : o.length ≤ 20) (hl : l.length ≤ 999000) (hk : k ≤ 1) :
    dx F o (k : Int) l (n, v) em s as_ = some (qr (oZ n as_ em s o k l)) := by
  unfold dx oZ
  by_cases h : o = []
  · subst h
    rw [bT (by simp), cY (by omega)]
    by_cases g : k = 0
    · subst g
      rw [decide_eq_true (p := ((0 : Nat) : Int) + 1 = 1) (by omega), mh, bN, if_neg (by simp), if_pos rfl]
      exact rr (k := 1) (by simp) hl
    · rw [decide_eq_false (p := (k : Int) + 1 = 1) (by omega), lk, bZ, if_pos ⟨rfl, g⟩]; rfl
  · have := List.length_pos_iff.2 h
    rw [bF (by omega), if_neg (fun q => h q.1), if_neg h]
    exact rr ho hl
def elemP' (F : Nat) (n : Bs) (o : List Bs) (k : Nat) (l : List Tok) : Option (List At × Bool × Bs) → Rx
  | none => .no 2
  | some (as_, em, r) => oZ n as_ em r o k l
theorem ow {n v : Bs} {o : List Bs} {k : Nat} {l : List Tok} (ho : o.length ≤ 20) (hl : l.length ≤ 999000) (hk : k ≤ 1) : ∀ (m : Nat) (as_ : List At) (s : Bs), s.length < m → as_.length + s.length ≤ 100000 →
    eS F o (k : Int) l (n, v) m (as_, s) = some (qr (elemP' F n o k l (gZ (dec F) (s.length + 1) as_ s)))
  | 0, as_, s, h, _ => by omega
  | m + 1, as_, s, h, hs => by
    show eT F o (k : Int) l (n, v) (eS F o (k : Int) l (n, v) m) as_ s = _
    have hd := qs fM s
    unfold eT gZ
    rw [nJ, aR]
    by_cases h1 : ([62] : Bs).isPrefixOf (s.dropWhile fM) = true
    · rw [gY h1, aR, jW, if_pos h1]
      exact rt ho hl hk
    · rw [iC (eq_false_of_ne_true h1), aR, er, if_neg h1]
      by_cases h2 : ([47, 62] : Bs).isPrefixOf (s.dropWhile fM) = true
      · rw [gY h2, aR, jW, if_pos h2]
        exact rt ho hl hk
      · rw [iC (eq_false_of_ne_true h2), aR, er, if_neg h2]
        by_cases h3 : (s.dropWhile fM).length = s.length
        · rw [if_pos h3, decide_eq_false (by omega), lk, bZ]; rfl
        · rw [if_neg h3, decide_eq_true (by omega), mh, bN, attr_eq hF (by omega)]
          cases e : mg (dec F) (s.dropWhile fM) with
          | none => simp only [attrR]; rw [bZ]; rfl
          | some y =>
            obtain ⟨a, r⟩ := y
            have hr := ly e
            simp only [attrR]
            rw [bN, cont_eq F as_ _ _ (by omega) (by omega), bO]
            cases hc : as_.any fun x => decide (x.1 = a.1) with
            | true => rw [notT, lk, bZ, if_pos rfl]; rfl
            | false =>
              rw [notF, mh, bN, if_neg (by decide), dC (by simp; omega), bz]
              have := ow (n := n) (v := v) ho hl hk m (as_ ++ [a]) r (by omega) (by simp; omega)
              rw [lT (k := s.length) (m := r.length + 1) (by omega) (by omega)]
              exact this
theorem sD {s : Bs} {o : List Bs} {k : Nat} {l : List Tok} (hs : s.length ≤ 100000) (ho : o.length ≤ 20) (hl : l.length ≤ 999000) (hk : k ≤ 1) (h : ([60] : Bs).isPrefixOf s = true) :
    ff F s o (k : Int) l = some (qr (pb (dec F) (s.drop 1) o k l)) := by
  unfold ff pb
  rw [gY h, aR, bnT, pm (by omega) (by simp; omega) (by simp; omega)]
  show ee (some (jT (gp (s.drop 1)))) _ = _
  cases e : gp (s.drop 1) with
  | none => simp only [jT]; rw [bZ]; rfl
  | some y =>
    obtain ⟨n, r⟩ := y
    have hr := congrArg List.length (lf e).1
    rw [List.length_append, List.length_drop] at hr
    simp only [jT]
    rw [bN]
    refine Eq.trans (ow hF ho hl hk F [] r (by omega) (by simp; omega)) ?_
    cases gZ (dec F) (r.length + 1) [] r with
    | none => rfl
    | some z => rfl
def na : Rx → Res (Bool × Bs)
  | .ok x => .ok (true, x.1)
  | .no e => .pan e
def endR : Rx → Res (Bool × Bs × List Tok × List Bs)
  | .ok x => .ok (true, x.1, x.2.2.2, x.2.1)
  | .no e => .pan e
omit hF in
theorem pi {s p q : Bs} {o : List Bs} {k : Nat} {l : List Tok} (hs : s.length ≤ 1000000) (hp : p ≠ []) : (ee (fp F s o (k : Int) l p) fun x14 => some (Res.ok (true, x14.2))) = some (na (gV p s o k l)) := by
  rw [pf hp hs]
  unfold gV
  cases iB p s with
  | none => simp only [cutR]; rw [bZ]; rfl
  | some y => simp only [cutR]; rw [bN]; rfl
omit hF in
theorem data_eq {s : Bs} {o : List Bs} {k : Nat} {l : List Tok} (hs : s.length ≤ 1000000) (hl : l.length ≤ 1000000) (h : ([60, 33, 91, 67, 68, 65, 84, 65, 91] : Bs).isPrefixOf s = true) :
    iq F s o (k : Int) l = some (rg (pc (s.drop 9) o k l)) := by
  unfold iq pc
  rw [gY h, aR, bnT, pf (by simp) (by simp; omega)]
  show ee (some (cutR (iB [93, 93, 62] (s.drop 9)))) _ = _
  cases iB [93, 93, 62] (s.drop 9) with
  | none => simp only [cutR]; rw [bZ]; rfl
  | some y =>
    obtain ⟨t, r⟩ := y
    simp only [cutR]
    rw [bN]
    by_cases ho : o = []
    · subst ho
      rw [decide_eq_false (by simp), lk, bZ, if_pos rfl]; rfl
    · have := List.length_pos_iff.2 ho
      rw [decide_eq_true (by omega), mh, bN, rj hl, bO, if_neg ho]; rfl
theorem end_eq {s : Bs} {o : List Bs} {k : Nat} {l : List Tok} (hs : s.length ≤ 100000) (ho : o.length ≤ 20) (hl : l.length ≤ 999000) (h : ([60, 47] : Bs).isPrefixOf s = true) :
    fw F s o (k : Int) l = some (endR (endP (s.drop 2) o k l)) := by
  unfold fw endP
  rw [gY h, aR, bnT, pm (by omega) (by simp; omega) (by simp; omega)]
  show ee (some (jT (gp (s.drop 2)))) _ = _
  cases gp (s.drop 2) with
  | none => simp only [jT]; rw [bZ]; rfl
  | some y =>
    obtain ⟨n, r⟩ := y
    simp only [jT]
    rw [bN, nJ, aR]
    simp only []
    by_cases h1 : ([62] : Bs).isPrefixOf (r.dropWhile fM) = true
    · rw [gY h1, aR, mh, bN, if_pos h1, rn (by omega) (by omega)]
      show ee (some (qn (ll n ((r.dropWhile fM).drop 1) o k l))) _ = _
      unfold ll
      by_cases g : o.getLast? = some n
      · rw [if_pos g]; simp only [qn]; rw [bN]; rfl
      · rw [if_neg g]; simp only [qn]; rw [bZ]; rfl
    · rw [iC (eq_false_of_ne_true h1), aR, lk, bZ, if_neg h1]; rfl
def stepR : Rx → Res (Bs × Int × List Tok × List Bs)
  | .ok x => .ok (x.1, (x.2.2.1 : Int), x.2.2.2, x.2.1)
  | .no e => .pan e
omit hF in
theorem kS {p s : Bs} {o : List Bs} {k : Nat} {l : List Tok} {x : Sx} (h : gV p s o k l = .ok x) : x.2 = (o, k, l) := by
  unfold gV at h
  split at h
  · cases h
  · cases h; rfl
theorem step_eq {s : Bs} {o : List Bs} {k : Nat} {l : List Tok} (h0 : s ≠ []) (hs : s.length ≤ 100000) (ho : o.length ≤ 20) (hl : l.length ≤ 999000) (hk : k ≤ 1) :
    jl F s o (k : Int) l = some (stepR (mf (dec F) s o k l)) := by
  unfold jl mf
  by_cases h1 : ([60] : Bs).isPrefixOf s = true
  · rw [plain_no h1, bN, er, if_neg (by rw [h1]; decide)]
    simp only []
    unfold fQ
    by_cases h2 : ([60, 33, 45, 45] : Bs).isPrefixOf s = true
    · rw [gY h2, aR, bnT, pi (q := []) (by simp; omega) (by simp), if_pos h2]
      show ee (some (na (gV [45, 45, 62] (s.drop 4) o k l))) _ = _
      cases e : gV [45, 45, 62] (s.drop 4) o k l with
      | no e => rfl
      | ok x =>
        have := kS e
        obtain ⟨a, b⟩ := x
        simp only at this; subst this
        simp only [na]; rw [bN]; rfl
    · rw [iC (eq_false_of_ne_true h2), aR, bnF, bN, er, if_neg h2]
      simp only []
      unfold lV
      by_cases h3 : ([60, 63] : Bs).isPrefixOf s = true
      · rw [gY h3, aR, bnT, pi (q := []) (by simp; omega) (by simp), if_pos h3]
        show ee (some (na (gV [63, 62] (s.drop 2) o k l))) _ = _
        cases e : gV [63, 62] (s.drop 2) o k l with
        | no e => rfl
        | ok x =>
          have := kS e
          obtain ⟨a, b⟩ := x
          simp only at this; subst this
          simp only [na]; rw [bN]; rfl
      · rw [iC (eq_false_of_ne_true h3), aR, bnF, bN, er, if_neg h3]
        simp only []
        by_cases h4 : ([60, 33, 91, 67, 68, 65, 84, 65, 91] : Bs).isPrefixOf s = true
        · rw [data_eq (by omega) (by omega) h4, if_pos h4]
          unfold pc
          cases iB [93, 93, 62] (s.drop 9) with
          | none => rfl
          | some y =>
            obtain ⟨t, r⟩ := y
            simp only []
            by_cases g : o = []
            · rw [if_pos g]; rfl
            · rw [if_neg g]; rfl
        · rw [if_neg h4]
          unfold iq
          rw [iC (eq_false_of_ne_true h4), aR, bnF, bN, er]
          simp only []
          unfold lU
          by_cases h5 : ([60, 33] : Bs).isPrefixOf s = true
          · rw [gY h5, aR, bnT, pi (q := []) (by simp; omega) (by simp), if_pos h5]
            show ee (some (na (gV [62] (s.drop 2) o k l))) _ = _
            cases e : gV [62] (s.drop 2) o k l with
            | no e => rfl
            | ok x =>
              have := kS e
              obtain ⟨a, b⟩ := x
              simp only at this; subst this
              simp only [na]; rw [bN]; rfl
          · rw [iC (eq_false_of_ne_true h5), aR, bnF, bN, er, if_neg h5]
            simp only []
            by_cases h6 : ([60, 47] : Bs).isPrefixOf s = true
            · rw [end_eq hF hs ho hl h6, if_pos h6]
              unfold endP
              cases gp (s.drop 2) with
              | none => rfl
              | some y =>
                obtain ⟨n, r⟩ := y
                simp only []
                by_cases g : ([62] : Bs).isPrefixOf (r.dropWhile fM) = true
                · rw [if_pos g]
                  unfold ll
                  by_cases g2 : o.getLast? = some n
                  · rw [if_pos g2]; rfl
                  · rw [if_neg g2]; rfl
                · rw [if_neg g]; rfl
            · rw [if_neg h6]
              unfold fw
              rw [iC (eq_false_of_ne_true h6), aR, bnF, bN, er]
              simp only []
              rw [sD hF hs ho hl hk h1]
              cases pb (dec F) (s.drop 1) o k l with
              | no e => rfl
              | ok x => rfl
  · rw [plain_eq hF hs (by omega) h0 (eq_false_of_ne_true h1), if_pos (eq_false_of_ne_true h1)]
    unfold kA
    cases dec F (s.takeWhile fun c => decide (c ≠ 60)) with
    | none => rfl
    | some t =>
      simp only []
      by_cases g : o = []
      · rw [if_pos g]
        cases (s.takeWhile fun c => decide (c ≠ 60)).all fM with
        | true => rw [if_pos rfl]; rfl
        | false => rw [if_neg (by decide)]; rfl
      · rw [if_neg g]; rfl
end
end Go.Xm
namespace Go.Xm
open Go.Pv Go.Av
theorem nI (t : Bs) (l : List Tok) : (oY t l).length ≤ l.length + 1 := by
  unfold oY; split <;> simp
def Kp (o : List Bs) (k : Nat) (l : List Tok) (m : Nat) : Prop := o.length ≤ 20 ∧ k ≤ 1 ∧ l.length ≤ m
theorem ph {p s : Bs} {o : List Bs} {k : Nat} {l : List Tok} {m : Nat} {x : Sx} (h : Kp o k l m) (e : gV p s o k l = .ok x) : Kp x.2.1 x.2.2.1 x.2.2.2 (m + 2) := by
  have := kS e
  obtain ⟨a, b⟩ := x
  simp only at this; subst this
  obtain ⟨h1, h2, h3⟩ := h;exact ⟨h1, h2, by simp only; omega⟩
theorem step_kp {d : Bs → Option Bs} {s : Bs} {o : List Bs} {k : Nat} {l : List Tok} {m : Nat} {x : Sx} (h : Kp o k l m) (e : mf d s o k l = .ok x) : Kp x.2.1 x.2.2.1 x.2.2.2 (m + 2) := by
  obtain ⟨h1, h2, h3⟩ := id h
  unfold mf at e
  split at e
  · unfold kA at e
    split at e
    · cases e
    · split at e
      · split at e
        · cases e; exact ⟨h1, h2, by simp only; omega⟩
        · cases e
      · rename_i t _ _
        cases e
        have := nI t l
        exact ⟨h1, h2, by simp only; omega⟩
  split at e
  · exact ph h e
  split at e
  · exact ph h e
  split at e
  · unfold pc at e
    split at e
    · cases e
    · split at e
      · cases e
      · rename_i t r _ _
        cases e
        have := nI t l
        exact ⟨h1, h2, by simp only; omega⟩
  split at e
  · exact ph h e
  split at e
  · unfold endP at e
    split at e
    · cases e
    · split at e
      · unfold ll at e
        split at e
        · cases e; exact ⟨by simp only [List.length_dropLast]; omega, h2, by simp only [List.length_append, List.length_singleton]; omega⟩
        · cases e
      · cases e
  · unfold pb at e
    split at e
    · cases e
    · split at e
      · cases e
      · unfold oZ at e
        split at e
        · cases e
        · rename_i g
          split at e
          · cases e
          · have hk : (if o = [] then k + 1 else k) ≤ 1 := by
              by_cases q : o = []
              · rw [if_pos q]
                have : k = 0 := Classical.byContradiction fun z => g ⟨q, z⟩
                omega
              · rw [if_neg q]; exact h2
            split at e
            · cases e; exact ⟨h1, hk, by simp; omega⟩
            · cases e; exact ⟨by simp; omega, hk, by simp; omega⟩
def tokE : Rx → List Tok × Int
  | .ok (_, o, k, l) => if o = [] ∧ 0 < k then (l, 0) else ([], 2)
  | .no e => ([], e)
theorem tokP_eq (d : Bs → Option Bs) (s : Bs) : tokP d s = tokE (runP d (s.length + 1) (s, [], 0, [])) := by
  unfold tokP
  cases runP d (s.length + 1) (s, [], 0, []) with
  | ok x => rfl
  | no e => rfl
theorem pY {F : Nat} (hF : 1500000 < F) : ∀ (n m : Nat) (s : Bs) (o : List Bs) (k : Nat) (l : List Tok), s.length < n → s.length < m → s.length ≤ 100000 → Kp o k l (900000 - 2 * s.length) →
    fF F n (s, o, (k : Int), l) = some (tokE (runP (dec F) m (s, o, k, l)))
  | 0, _, s, o, k, l, h, _, _, _ => by omega
  | _, 0, s, o, k, l, _, h, _, _ => by omega
  | n + 1, m + 1, s, o, k, l, hn, hm, hs, hk => by
    show fG F (fF F n) s o (k : Int) l = _
    unfold fG runP
    by_cases h0 : s = []
    · rw [decide_eq_true h0, bnT, if_pos h0]
      unfold fE tokE
      simp only []
      by_cases ho : o = []
      · subst ho
        by_cases g : 0 < k
        · rw [decide_eq_true (by simp), decide_eq_true (by omega), Bool.and_self, mh, rB, if_pos ⟨rfl, g⟩]
        · rw [decide_eq_true (by simp), decide_eq_false (p := (0 : Int) < (k : Int)) (by omega), Bool.and_false, lk, mV, if_neg fun q => g q.2]
      · have := List.length_pos_iff.2 ho
        rw [decide_eq_false (p := (o.length : Int) = 0) (by omega), Bool.false_and, lk, mV, if_neg fun q => ho q.1]
    · rw [decide_eq_false h0, bnF, if_neg h0, step_eq hF h0 hs hk.1 (by have := hk.2.2; omega) hk.2.1]
      cases e : mf (dec F) s o k l with
      | no e => simp only [stepR]; rw [mV]; rfl
      | ok x =>
        obtain ⟨s', o', k', l'⟩ := x
        have h1 := step_len h0 e
        have h2 := step_kp hk e
        simp only at h1 h2
        simp only [stepR]
        rw [rB]
        simp only []
        exact pY hF n m s' o' k' l' (by omega) (by omega) (by omega) ⟨h2.1, h2.2.1, by have := h2.2.2; omega⟩
theorem tok_eq {F : Nat} (hF : 1500000 < F) {s : Bs} (hs : s.length ≤ 100000) : gJ F s = some (tokP (dec F) s) := by
  unfold gJ
  rw [bF (by omega), tokP_eq]
  exact pY hF F (s.length + 1) s [] 0 [] (by omega) (by omega) hs ⟨by simp, by omega, by simp⟩
end Go.Xm
namespace Go.Xm
open Go.Pv Go.Av
instance decBL : DecidableEq (Bs × List At) := instDecidableEqProd
instance decBBL : DecidableEq (Bs × Bs × List At) := instDecidableEqProd
instance decTok : DecidableEq Tok := instDecidableEqProd
theorem awake : gg 2000000 = some true := by decide +kernel
end Go.Xm
namespace Go.Xm
open Go.Pv Go.Av
def opn : Nat → Bs
  | 0 => []
  | n + 1 => opn n ++ [60, 97, 62]
def cls : Nat → Bs
  | 0 => []
  | n + 1 => cls n ++ [60, 47, 97, 62]
def docE (n : Nat) (b : Bool) : Bs := (opn n ++ (if b then [60, 97, 47, 62] else [60, 97, 62, 60, 47, 97, 62])) ++ cls n
def resD (n : Nat) (r : List Tok × Int) : Bool := if 20 < n then decide (r.2 = 5) && r.1.isEmpty else decide (r.2 = 0) && decide (r.1.length = 2 * n)
theorem deep_all : ∀ a : Fin 60, ∀ b : Bool, resD (a.val + 1) (tokP (dec 2000000) (docE a.val b)) = true := by decide +kernel
theorem pj : ∀ n : Nat, (opn n).length = 3 * n
  | 0 => rfl
  | n + 1 => by rw [opn, List.length_append, pj n]; simp; omega
theorem pp : ∀ n : Nat, (cls n).length = 4 * n
  | 0 => rfl
  | n + 1 => by rw [cls, List.length_append, pp n]; simp; omega
theorem gcI {α : Type} {k : Option α} {c : Bool} {n : Int} (h : -9223372036854775808 ≤ n ∧ n ≤ 9223372036854775807) : ek c (okI n) k = k := by
  cases c
  · exact eZ
  · rw [jq, cY h]
theorem rz (F : Nat) (hF : 1500000 < F) (n : Nat) (hn : n < 60) (b : Bool) (x : Bs) (hx : x = opn n ++ (if b then [60, 97, 47, 62] else [60, 97, 62, 60, 47, 97, 62])) (hr : resD (n + 1) (tokP (dec F) (docE n b)) = true) :
    cD F ((n + 1 : Nat) : Int) (cls n) x = some true := by
  have hm : (if b then ([60, 97, 47, 62] : Bs) else [60, 97, 62, 60, 47, 97, 62]).length ≤ 7 := by cases b <;> decide
  have h1 := pj n
  have h2 := pp n
  have hl : x.length ≤ 187 := by rw [hx, List.length_append]; omega
  have hd : (x ++ cls n).length ≤ 1000 := by rw [List.length_append]; omega
  unfold cD
  rw [dC (by omega), bz, dC (by omega), tok_eq hF (by omega)]
  have e : x ++ cls n = docE n b := by rw [hx]; rfl
  rw [e]
  generalize tokP (dec F) (docE n b) = r at hr
  obtain ⟨l, e⟩ := r
  rw [aR]
  unfold resD at hr
  by_cases h : 20 < n + 1
  · rw [if_pos h] at hr
    obtain ⟨q1, q2⟩ := ands hr
    rw [bT (by omega), q1]
    have : l = [] := by cases l with | nil => rfl | cons a b => cases q2
    rw [this]; rfl
  · rw [if_neg h] at hr
    obtain ⟨q1, q2⟩ := ands hr
    have := of_decide_eq_true q2
    simp only at this
    rw [bF (by omega), gcI (by omega), q1, decide_eq_true (by omega)]; rfl
theorem ox (F : Nat) (hF : 1500000 < F) (n : Nat) (hn : n < 60) (b : Bool) (hr : resD (n + 1) (tokP (dec F) (docE n b)) = true) : ∀ (m i : Nat), n - i < m → i ≤ n →
    dG F ((n + 1 : Nat) : Int) b m (opn i, cls i, ((i + 1 : Nat) : Int)) = some true
  | 0, i, h, _ => by omega
  | m + 1, i, h, hi => by
    show dH F ((n + 1 : Nat) : Int) b (dG F ((n + 1 : Nat) : Int) b m) (opn i) (cls i) ((i + 1 : Nat) : Int) = _
    have h1 := pj i
    have h2 := pp i
    unfold dH
    by_cases g : i < n
    · rw [bT (by omega), dC (by simp; omega), bz, dC (by simp; omega), bz, cY (by omega), cP]
      exact ox F hF n hn b hr m (i + 1) (by omega) (by omega)
    · have : i = n := by omega
      subst this
      rw [bF (by omega)]
      unfold dF
      cases b with
      | true => rw [jW, dC (by simp; omega), bz]; exact rz F hF i hn true _ rfl hr
      | false => rw [er, dC (by simp; omega), bz]; exact rz F hF i hn false _ rfl hr
theorem deep_t (F : Nat) (hF : 1500000 < F) (hw : gg F = some true) (hr : ∀ a : Fin 60, ∀ b : Bool, resD (a.val + 1) (tokP (dec F) (docE a.val b)) = true) (a : Int) (b : Bool) : eV F a b = some true := by
  unfold eV
  rw [hw, bO, notT, Bool.false_or]
  by_cases h : a < 1 ∨ 60 < a
  · have : (decide (a < 1) || decide (60 < a)) = true := by
      rcases h with h | h
      · rw [decide_eq_true h]; rfl
      · rw [decide_eq_true h, Bool.or_true]
    rw [this, jW]
  · obtain ⟨n, hn, e⟩ : ∃ n : Nat, n < 60 ∧ a = ((n + 1 : Nat) : Int) := ⟨(a - 1).toNat, by omega, by omega⟩
    rw [decide_eq_false (p := a < 1) (by omega), decide_eq_false (p := 60 < a) (by omega), Bool.or_self, er, e]
    exact ox F hF n hn b (hr ⟨n, hn⟩ b) F 0 (by omega) (by omega)
theorem XmlDeep_t (a : Int) (b : Bool) : eV 2000000 a b = some true := deep_t 2000000 (by omega) awake deep_all a b
end Go.Xm
