/-
  Texts in one (only what XmlBack needs): XmlBW, XmlLP, XmlLW, AvSync, AvRep, RepP, RepW, XmlWP, XmlWW, LXmlBackP, LXmlBackW, XmA, RefEP, PnTrim, PnPlainE.
-/
import Derived.Test.YteokdkimegepoaaGreatDoorZXmlBack3
import Derived.Test.YteokdkimegepoaaGreatDoorShelf
import Derived.Lib.ItoaNum
import Derived.Lib.IndexLaws
import Derived.Test.YteokdkimegepoaaGreatDoorChecked
import Derived.Laws.LoneSync
import Derived.Lib.IndexMore
set_option linter.unusedVariables false
set_option linter.unusedSimpArgs false
set_option linter.unusedSectionVars false
namespace Go.Proofs.YteokdkimegepoaaGreatDoor
open Go.RowKit Go.Av Go.Pv
theorem wx : ∀ (args : Array Value) (w : World), (callFunc 25 args).run Tryz.prog w = .ok (.enter 25 args) w := fun _ _ => by kernel_rfl
theorem ww : ∀ (args : Array Value) (w : World), (callFunc 26 args).run Tryz.prog w = .ok (.enter 26 args) w := fun _ _ => by kernel_rfl
theorem wv : ∀ (args : Array Value) (w : World), (callFunc 27 args).run Tryz.prog w = .ok (.enter 27 args) w := fun _ _ => by kernel_rfl
theorem wn : ∀ (args : Array Value) (w : World), (callFunc 36 args).run Tryz.prog w = .ok (.enter 36 args) w := fun _ _ => by kernel_rfl
theorem wj : ∀ (args : Array Value) (w : World), (callFunc 63 args).run Tryz.prog w = .ok (.enter 63 args) w := fun _ _ => by kernel_rfl
set_option maxRecDepth 100000 in
set_option maxHeartbeats 1000000 in
theorem tZ (F : Nat) (a1 : List ((List UInt8) × List UInt8)) (q2 : Option Nat) (a3 : List ((List UInt8) × List UInt8)) (q4 : Option Nat) (r5 : Bool) (H : lF F a1 a3 = some r5) : ACalls Tryz.prog 27 [slE (Enc.prod Enc.str Enc.str) a1 q2, slE (Enc.prod Enc.str Enc.str) a3 q4] [] (Ret (B r5) []) := by
 unfold lF at H
 refine ay Tryz.func27 rfl rfl ?_;show AW _ _ 26 _ _ _;refine af <| aa ?_;show AR _ _ _ _ _ [0] _;refine za rfl <| ah <| af <| af <| aa ?_;show AR _ _ _ _ _ [0, 1, 2, 3, 4] _;refine zS rfl (ai (av := slE _ _ _) rfl) <| zS rfl (aV aG rfl) <| zS rfl (ai (av := slE _ _ _) rfl) <| zS rfl (aV aG rfl) <| zS rfl (dh rfl rfl) <| ah <| ax rfl (fun c6 => ?_) (fun c6 => ?_)
 ·replace H := ba c6 H;refine af <| aa ?_;show AR _ _ _ _ _ [0] _;refine za rfl <| ah <| aP ?_;obtain rfl := am H;exact And.intro rfl (Exists.intro _ (Exists.intro _ ⟨aF rfl (.refl _), aK [] rfl, rfl, rfl⟩))
 ·replace H := bb c6 H;refine aC <| bw (X := Unit) (fun _ => ⟨[], [], []⟩) (fun _ => jH = some r5) ?_ ?_
  ·refine af <| aa ?_;show AR _ _ _ _ _ [0, 1, 2] _;refine zS rfl (ai (av := slE _ _ _) rfl) <| zS rfl (aV aG rfl) <| zm rfl <| ah <| aQ <| cJ (X := Nat × Int) (fun (n9, y7) => ⟨[(0, slE (Enc.prod Enc.str Enc.str) a1 q2), (1, slE (Enc.prod Enc.str Enc.str) a3 q4), (12, i64 (a1.length : Int)), (13, i64 y7)], [], []⟩) (fun (n9, y7) => iG a1 a3 n9 y7 = some r5) (fun (n9, y7) => n9) (F, 0) H (aW [] (.cons (.refl _) (.cons (.refl _) (.cons (.refl _) (.cons (.refl _) (.nil _))))) rfl) ?_;rintro ⟨n9, y7⟩ H;obtain ⟨n9, rfl, H⟩ := dz H;replace H : iH a1 a3 (iG a1 a3 n9) y7 = some r5 := H
   unfold iH at H
   refine af <| aa ?_;show AR _ _ _ _ _ [0] _;refine zS rfl (bQ rfl rfl) <| ah <| af <| ax rfl (fun c10 => ?_) (fun c10 => ?_)
   ·replace H := ba c10 H;refine aC <| af <| aQ <| af <| aa ?_;show AR _ _ _ _ _ [0, 1] _;refine zm rfl <| za rfl <| ah <| af ?_;obtain ⟨g11, H⟩ := aR H;obtain ⟨x12, e13, H⟩ := bB H;obtain ⟨g14, H⟩ := aR H;obtain ⟨x15, e16, H⟩ := bB H;refine bI (by kernel_rfl) ?_;show AI _ _ _ _ _ 9 (Array.replicate 9 false) _;refine zk 0 rfl (ai (av := slE _ _ _) rfl) ?_;show AI _ _ _ _ _ _ #[true, false, false, false, false, false, false, false, false] _;refine zk 1 rfl (mv rfl) ?_;show AI _ _ _ _ _ _ #[true, true, false, false, false, false, false, false, false] _;refine zk 2 rfl (bj (E := (Enc.prod Enc.str Enc.str)) aG (by kernel_rfl) rfl rfl g11 e13) ?_;show AI _ _ _ _ _ _ #[true, true, true, false, false, false, false, false, false] _;refine zk 3 rfl (cj bZ rfl (n := 2) (by kernel_rfl) rfl (ag rfl)) ?_;show AI _ _ _ _ _ _ #[true, true, true, true, false, false, false, false, false] _;refine zk 4 rfl (ai (av := slE _ _ _) rfl) ?_;show AI _ _ _ _ _ _ #[true, true, true, true, true, false, false, false, false] _;refine zk 5 rfl (mv rfl) ?_;show AI _ _ _ _ _ _ #[true, true, true, true, true, true, false, false, false] _;refine zk 6 rfl (bj (E := (Enc.prod Enc.str Enc.str)) aG (by kernel_rfl) rfl rfl g14 e16) ?_;show AI _ _ _ _ _ _ #[true, true, true, true, true, true, true, false, false] _;refine zk 7 rfl (cj bZ rfl (n := 2) (by kernel_rfl) rfl (ag rfl)) ?_
    show AI _ _ _ _ _ _ #[true, true, true, true, true, true, true, true, false] _;refine zk 8 rfl (mm (r := (decide (x12.1 = x15.1)) && (decide (x12.2 = x15.2))) (.inr rfl) bZ (by kernel_rfl) (by kernel_rfl) (by kernel_rfl) rfl rfl rfl (by simp only [List.all_cons, List.all_nil, id, vc, Bool.and_true])) ?_;show AI _ _ _ _ _ _ #[true, true, true, true, true, true, true, true, true] _;refine cx rfl <| ax rfl (fun c17 => ?_) (fun c17 => ?_)
    ·replace H := ba c17 H;refine af <| aa ?_;show AR _ _ _ _ _ [0] _;refine za rfl <| ah <| aP ?_;obtain rfl := am H;exact And.intro rfl (Exists.intro _ (Exists.intro _ ⟨aF rfl (.refl _), aK [] rfl, rfl, rfl⟩))
    ·replace H := bb c17 H;refine aC ?_;obtain ⟨g18, H⟩ := aR H;refine aa ?_;show AR _ _ _ _ _ [0, 1] _;refine zS rfl (cH rfl rfl g18) <| zm rfl <| ah ?_;exact Exists.intro (n9, y7 + 1) ⟨H, Nat.lt_succ_self _, aW [] (.cons (.refl _) (.cons (.refl _) (.cons (.refl _) (.cons (.refl _) (.nil _))))) rfl⟩
   ·replace H := bb c10 H;refine cf ?_;exact Exists.intro () ⟨H, aW [] (.nil _) rfl⟩
  rintro _ H;replace H : jH = some r5 := H
  unfold jH at H
  refine af <| aa ?_;show AR _ _ _ _ _ [0] _;refine za rfl <| ah <| aP ?_;obtain rfl := am H;exact And.intro rfl (Exists.intro _ (Exists.intro _ ⟨aF rfl (.refl _), aK [] rfl, rfl, rfl⟩))
set_option maxRecDepth 100000 in
set_option maxHeartbeats 1000000 in
theorem tX (F : Nat) (a1 : Int) (a2 : List UInt8) (a3 : List UInt8) (a4 : List ((List UInt8) × List UInt8)) (a5 : Int) (a6 : List UInt8) (a7 : List UInt8) (a8 : List ((List UInt8) × List UInt8)) (r9 : Bool) (H : ng F a1 a2 a3 a4 a5 a6 a7 a8 = some r9) : ACalls Tryz.prog 26 [.agg [i64 a1, S a2, S a3, slE (Enc.prod Enc.str Enc.str) a4 none], .agg [i64 a5, S a6, S a7, slE (Enc.prod Enc.str Enc.str) a8 none]] [] (Ret (B r9) []) := by
 unfold ng at H
 refine ay Tryz.func26 rfl rfl ?_;show AW _ _ 31 _ _ _;refine af <| aa ?_;show AR _ _ _ _ _ [0, 1, 2] _;refine zR rfl (nL rfl (.inr ⟨_, rfl⟩)) <| zR rfl (nL rfl (.inr ⟨_, rfl⟩)) <| za rfl <| ah <| af ?_;obtain ⟨x13, e14, H⟩ := eX H;refine aa ?_;show AR _ _ _ _ _ [0, 1, 2, 3, 4, 5, 6, 7, 8, 9, 10, 11, 12, 13, 14, 15, 16, 17, 18, 19, 20, 21, 22, 23, 24, 25, 26] _;refine zS rfl (aE (n := 0) (by kernel_rfl) rfl (ag rfl)) <| zS rfl (aA bO rfl rfl) <| zS rfl (aE (n := 0) (by kernel_rfl) rfl (ag rfl)) <| zS rfl (aA bO rfl rfl) <| zS rfl (bR rfl rfl) <| zm rfl <| bi (l := [12, 13, 14, 15, 16, 17, 18, 19, 20, 21, 22, 23, 24, 25, 26]) 16 (B ((decide (a1 = a5)) && (decide (a2 = a6)))) (fun K => ?_) ?_
 ·rcases ao (decide (a1 = a5)) with h10 | h10
  ·refine zU h10 rfl (aE (n := 1) (by kernel_rfl) rfl (ag rfl)) <| zU h10 rfl (aA ac rfl rfl) <| zU h10 rfl (aE (n := 1) (by kernel_rfl) rfl (ag rfl)) <| zU h10 rfl (aA ac rfl rfl) <| zU h10 rfl (fT rfl rfl) <| zS rfl (aL (av := .v _) rfl h10 rfl) ?_;exact K _ 5 _ (az (cQ h10)) rfl rfl
  ·refine zF h10 rfl <| zF h10 rfl <| zF h10 rfl <| zF h10 rfl <| zF h10 rfl <| zS rfl (aJ (av := .v _) rfl h10 rfl) ?_;exact K _ 5 _ (az (cR h10)) rfl rfl
 refine zm rfl <| bi (l := [19, 20, 21, 22, 23, 24, 25, 26]) 23 (B (((decide (a1 = a5)) && (decide (a2 = a6))) && (decide (a3 = a7)))) (fun K => ?_) ?_
 ·rcases ao ((decide (a1 = a5)) && (decide (a2 = a6))) with h11 | h11
  ·refine zU h11 rfl (aE (n := 2) (by kernel_rfl) rfl (ag rfl)) <| zU h11 rfl (aA ac rfl rfl) <| zU h11 rfl (aE (n := 2) (by kernel_rfl) rfl (ag rfl)) <| zU h11 rfl (aA ac rfl rfl) <| zU h11 rfl (fT rfl rfl) <| zS rfl (aL (av := .v _) rfl h11 rfl) ?_;exact K _ 5 _ (az (cQ h11)) rfl rfl
  ·refine zF h11 rfl <| zF h11 rfl <| zF h11 rfl <| zF h11 rfl <| zF h11 rfl <| zS rfl (aJ (av := .v _) rfl h11 rfl) ?_;exact K _ 5 _ (az (cR h11)) rfl rfl
 refine zm rfl <| bi (l := [26]) 30 (B ((((decide (a1 = a5)) && (decide (a2 = a6))) && (decide (a3 = a7))) && x13)) (fun K => ?_) ?_
 ·rcases ao (((decide (a1 = a5)) && (decide (a2 = a6))) && (decide (a3 = a7))) with h12 | h12
  ·refine zU h12 rfl (aE (n := 3) (by kernel_rfl) rfl (ag rfl)) <| zU h12 rfl (aA aG rfl rfl) <| zU h12 rfl (aE (n := 3) (by kernel_rfl) rfl (ag rfl)) <| zU h12 rfl (aA aG rfl rfl) <| zT h12 rfl (aI rfl wv rfl (tZ F a4 none a8 none x13 (e14 h12)) ?_);refine zS rfl (aL (av := .v _) rfl h12 rfl) ?_;exact K _ 5 _ (az (cQ h12)) rfl rfl
  ·refine zF h12 rfl <| zF h12 rfl <| zF h12 rfl <| zF h12 rfl <| zF h12 rfl <| zS rfl (aJ (av := .v _) rfl h12 rfl) ?_;exact K _ 5 _ (az (cR h12)) rfl rfl
 refine za rfl <| ah <| aP ?_;obtain rfl := am H;exact And.intro rfl (Exists.intro _ (Exists.intro _ ⟨aF rfl (.refl _), aK [] rfl, rfl, rfl⟩))
set_option maxRecDepth 100000 in
set_option maxHeartbeats 1000000 in
theorem pc (F : Nat) (a1 : List (Int × (List UInt8) × (List UInt8) × List ((List UInt8) × List UInt8))) (q2 : Option Nat) (a3 : List (Int × (List UInt8) × (List UInt8) × List ((List UInt8) × List UInt8))) (q4 : Option Nat) (r5 : Bool) (H : jd F a1 a3 = some r5) : ACalls Tryz.prog 25 [slE (Enc.prod Enc.int (Enc.prod Enc.str (Enc.prod Enc.str (Enc.sl (Enc.prod Enc.str Enc.str))))) a1 q2, slE (Enc.prod Enc.int (Enc.prod Enc.str (Enc.prod Enc.str (Enc.sl (Enc.prod Enc.str Enc.str))))) a3 q4, .v (.func (.func 26) #[] #[])] [] (Ret (B r5) []) := by
 unfold jd at H
 refine ay Tryz.func25 rfl rfl ?_;show AW _ _ 32 _ _ _;refine af <| aa ?_;show AR _ _ _ _ _ [0] _;refine za rfl <| ah <| af <| af <| aa ?_;show AR _ _ _ _ _ [0, 1, 2, 3, 4] _;refine zS rfl (ai (av := slE _ _ _) rfl) <| zS rfl (aV aw rfl) <| zS rfl (ai (av := slE _ _ _) rfl) <| zS rfl (aV aw rfl) <| zS rfl (dh rfl rfl) <| ah <| ax rfl (fun c6 => ?_) (fun c6 => ?_)
 ·replace H := ba c6 H;refine af <| aa ?_;show AR _ _ _ _ _ [0] _;refine za rfl <| ah <| aP ?_;obtain rfl := am H;exact And.intro rfl (Exists.intro _ (Exists.intro _ ⟨aF rfl (.refl _), aK [] rfl, rfl, rfl⟩))
 ·replace H := bb c6 H;refine aC <| bw (X := Unit) (fun _ => ⟨[], [], []⟩) (fun _ => gk = some r5) ?_ ?_
  ·refine af <| aa ?_;show AR _ _ _ _ _ [0, 1, 2] _;refine zS rfl (ai (av := slE _ _ _) rfl) <| zS rfl (aV aw rfl) <| zm rfl <| ah <| aQ <| cJ (X := Nat × Int) (fun (n9, y7) => ⟨[(1, slE (Enc.prod Enc.int (Enc.prod Enc.str (Enc.prod Enc.str (Enc.sl (Enc.prod Enc.str Enc.str))))) a3 q4), (2, .v (.func (.func 26) #[] #[])), (15, slE (Enc.prod Enc.int (Enc.prod Enc.str (Enc.prod Enc.str (Enc.sl (Enc.prod Enc.str Enc.str))))) a1 q2), (16, i64 (a1.length : Int)), (17, i64 y7)], [], []⟩) (fun (n9, y7) => dX F a1 a3 n9 y7 = some r5) (fun (n9, y7) => n9) (F, 0) H (aW [] (.cons (.refl _) (.cons (.refl _) (.cons (.refl _) (.cons (.refl _) (.cons (.refl _) (.nil _)))))) rfl) ?_;rintro ⟨n9, y7⟩ H;obtain ⟨n9, rfl, H⟩ := dz H;replace H : ff F a1 a3 (dX F a1 a3 n9) y7 = some r5 := H
   unfold ff at H
   refine af <| aa ?_;show AR _ _ _ _ _ [0] _;refine zS rfl (bQ rfl rfl) <| ah <| af <| ax rfl (fun c10 => ?_) (fun c10 => ?_)
   ·replace H := ba c10 H;refine aC <| af <| aQ <| af ?_;obtain ⟨g11, H⟩ := aR H;obtain ⟨x12, e13, H⟩ := bB H;refine aa ?_;show AR _ _ _ _ _ [0, 1, 2, 3, 4, 5] _;refine zm rfl <| zS rfl (bj (E := (Enc.prod Enc.int (Enc.prod Enc.str (Enc.prod Enc.str (Enc.sl (Enc.prod Enc.str Enc.str)))))) aw (by kernel_rfl) rfl rfl g11 e13) <| zS rfl (cj cO rfl (n := 4) (by kernel_rfl) rfl (ag rfl)) <| zX rfl (dL (zs := [.int .i64 0, .string ⟨#[]⟩, .string ⟨#[]⟩, .slice none 0 0]) (by kernel_rfl)) ?_;rintro _ _ ⟨o14, rfl, rfl⟩;refine za rfl <| s0 rfl rfl (cK (i := 0) (vs := [i64 x12.1, S x12.2.1, S x12.2.2.1, slE (Enc.prod Enc.str Enc.str) x12.2.2.2 none]) (by kernel_rfl) rfl rfl (by simp [co, slE]) rfl (ag rfl)) <| AR.freezeCp 8 0 rfl rfl ?_;show AR _ _ _ _ _ _ ⟨_, _, []⟩;refine ah <| af ?_;obtain ⟨g15, H⟩ := aR H;obtain ⟨x16, e17, H⟩ := bB H;refine aa ?_;show AR _ _ _ _ _ [0, 1, 2, 3, 4, 5] _;refine zS rfl (ai (av := slE _ _ _) rfl) <| zm rfl <| zS rfl (bj (E := (Enc.prod Enc.int (Enc.prod Enc.str (Enc.prod Enc.str (Enc.sl (Enc.prod Enc.str Enc.str)))))) aw (by kernel_rfl) rfl rfl g15 e17) <| zS rfl (cj cO rfl (n := 4) (by kernel_rfl) rfl (ag rfl)) <| zX rfl (dL (zs := [.int .i64 0, .string ⟨#[]⟩, .string ⟨#[]⟩, .slice none 0 0]) (by kernel_rfl)) ?_;rintro _ _ ⟨o18, rfl, rfl⟩
    refine s0 rfl rfl (cK (i := 0) (vs := [i64 x16.1, S x16.2.1, S x16.2.2.1, slE (Enc.prod Enc.str Enc.str) x16.2.2.2 none]) (by kernel_rfl) rfl rfl (by simp [co, slE]) rfl (ag rfl)) <| AR.freezeCp 9 0 rfl rfl ?_;show AR _ _ _ _ _ _ ⟨_, _, []⟩;refine ah <| af ?_;obtain ⟨x19, e20, H⟩ := ep H;refine aa ?_;show AR _ _ _ _ _ [0, 1, 2, 3, 4] _;refine zm rfl <| zS rfl (cj cO rfl (n := 4) (by kernel_rfl) rfl (ag rfl)) <| zS rfl (cj cO rfl (n := 4) (by kernel_rfl) rfl (ag rfl)) <| ap rfl rfl (AO.callFp rfl (.inr ⟨rfl, rfl, rfl⟩) ww rfl (tX F x12.1 x12.2.1 x12.2.2.1 x12.2.2.2 x16.1 x16.2.1 x16.2.2.1 x16.2.2.2 x19 e20) ?_);refine zS rfl (cd rfl) <| ah <| ax rfl (fun c21 => ?_) (fun c21 => ?_)
    ·replace H := ba c21 H;refine af <| aa ?_;show AR _ _ _ _ _ [0] _;refine za rfl <| ah <| aP ?_;obtain rfl := am H;exact And.intro rfl (Exists.intro _ (Exists.intro _ ⟨aF rfl (.refl _), aK [] rfl, rfl, rfl⟩))
    ·replace H := bb c21 H;refine aC ?_;obtain ⟨g22, H⟩ := aR H;refine aa ?_;show AR _ _ _ _ _ [0, 1] _;refine zS rfl (cH rfl rfl g22) <| zm rfl <| ah ?_;exact Exists.intro (n9, y7 + 1) ⟨H, Nat.lt_succ_self _, aW [] (.cons (.refl _) (.cons (.refl _) (.cons (.refl _) (.cons (.refl _) (.cons (.refl _) (.nil _)))))) rfl⟩
   ·replace H := bb c10 H;refine cf ?_;exact Exists.intro () ⟨H, aW [] (.nil _) rfl⟩
  rintro _ H;replace H : gk = some r5 := H
  unfold gk at H
  refine af <| aa ?_;show AR _ _ _ _ _ [0] _;refine za rfl <| ah <| aP ?_;obtain rfl := am H;exact And.intro rfl (Exists.intro _ (Exists.intro _ ⟨aF rfl (.refl _), aK [] rfl, rfl, rfl⟩))
set_option maxRecDepth 100000 in
set_option maxHeartbeats 1000000 in
theorem lJ (F : Nat) (a1 : List (Int × (List UInt8) × (List UInt8) × List ((List UInt8) × List UInt8))) (q2 : Option Nat) (a3 : List (Int × (List UInt8) × (List UInt8) × List ((List UInt8) × List UInt8))) (q4 : Option Nat) (r5 : Bool) (H : ko F a1 a3 = some r5) : ACalls Tryz.prog 13 [slE (Enc.prod Enc.int (Enc.prod Enc.str (Enc.prod Enc.str (Enc.sl (Enc.prod Enc.str Enc.str))))) a1 q2, slE (Enc.prod Enc.int (Enc.prod Enc.str (Enc.prod Enc.str (Enc.sl (Enc.prod Enc.str Enc.str))))) a3 q4] [] (Ret (B r5) []) := by
 unfold ko at H
 refine ay Tryz.func13 rfl rfl ?_;show AW _ _ 8 _ _ _;refine af <| aa ?_;show AR _ _ _ _ _ [0] _;refine za rfl <| ah <| af ?_;obtain ⟨x6, e7, H⟩ := ep H;refine aa ?_;show AR _ _ _ _ _ [0, 1, 2, 3] _;refine zS rfl (ai (av := slE _ _ _) rfl) <| zS rfl (ai (av := slE _ _ _) rfl) <| ap rfl rfl (aI rfl wx rfl (pc F a1 q2 a3 q4 x6 e7) ?_);refine za rfl <| ah <| aP ?_;obtain rfl := am H;exact And.intro rfl (Exists.intro _ (Exists.intro _ ⟨aF rfl (.refl _), aK [] rfl, rfl, rfl⟩))
set_option maxRecDepth 100000 in
set_option maxHeartbeats 1000000 in
theorem rE (F : Nat) (a1 : List UInt8) (a2 : UInt8) (r3 : Int) (H : my F a1 a2 = some r3) : ACalls Tryz.prog 63 [S a1, u8 a2] [] (Ret (i64 r3) []) := by
 unfold my at H
 refine ay Tryz.func63 rfl rfl ?_;show AW _ _ 19 _ _ _;refine af <| aa ?_;show AR _ _ _ _ _ [0] _;refine za rfl <| ah <| bw (X := Unit) (fun _ => ⟨[], [], []⟩) (fun _ => im = some r3) ?_ ?_
 ·refine af ?_;obtain ⟨g4, H⟩ := aR H;refine aa ?_;show AR _ _ _ _ _ [0, 1, 2, 3] _;refine zm rfl <| zS rfl (aZ ac rfl) <| zS rfl (ld rfl rfl g4) <| za rfl <| ah <| aQ <| cJ (X := Nat × Int) (fun (n7, y5) => ⟨[(0, S a1), (1, u8 a2), (5, i64 y5)], [], []⟩) (fun (n7, y5) => jZ a1 a2 n7 y5 = some r3) (fun (n7, y5) => n7) (F, (a1.length : Int) - 1) H (aW [] (.cons (.refl _) (.cons (.refl _) (.cons (.refl _) (.nil _)))) rfl) ?_;rintro ⟨n7, y5⟩ H;obtain ⟨n7, rfl, H⟩ := dz H;replace H : ka a1 a2 (jZ a1 a2 n7) y5 = some r3 := H
  unfold ka at H
  refine af <| af <| aa ?_;show AR _ _ _ _ _ [0, 1] _;refine zm rfl <| zS rfl (eC rfl rfl) <| ah <| ax rfl (fun c8 => ?_) (fun c8 => ?_)
  ·replace H := ba c8 H;refine aC <| af <| aQ <| af ?_;obtain ⟨g9, H⟩ := aR H;obtain ⟨x10, e11, H⟩ := bB H;refine aa ?_;show AR _ _ _ _ _ [0, 1, 2, 3, 4] _;refine zm rfl <| zm rfl <| zS rfl (br ac rfl rfl g9 e11) <| zm rfl <| zS rfl (jz (a := x10) (b := a2) rfl rfl) <| ah <| ax rfl (fun c12 => ?_) (fun c12 => ?_)
   ·replace H := ba c12 H;refine af <| aa ?_;show AR _ _ _ _ _ [0, 1] _;refine zm rfl <| za rfl <| ah <| aP ?_;obtain rfl := am H;exact And.intro rfl (Exists.intro _ (Exists.intro _ ⟨aF rfl (.refl _), aK [] rfl, rfl, rfl⟩))
   ·replace H := bb c12 H;refine aC ?_;obtain ⟨g13, H⟩ := aR H;refine aa ?_;show AR _ _ _ _ _ [0, 1, 2] _;refine zm rfl <| zS rfl (ld rfl rfl g13) <| za rfl <| ah ?_;exact Exists.intro (n7, y5 - 1) ⟨H, Nat.lt_succ_self _, aW [] (.cons (.refl _) (.cons (.refl _) (.cons (.refl _) (.nil _)))) rfl⟩
  ·replace H := bb c8 H;refine cf ?_;exact Exists.intro () ⟨H, aW [] (.nil _) rfl⟩
 rintro _ H;replace H : im = some r3 := H
 unfold im at H
 refine af <| aa ?_;show AR _ _ _ _ _ [0] _;refine za rfl <| ah <| aP ?_;obtain rfl := am H;exact And.intro rfl (Exists.intro _ (Exists.intro _ ⟨aF rfl (.refl _), aK [] rfl, rfl, rfl⟩))
set_option maxRecDepth 100000 in
set_option maxHeartbeats 1000000 in
theorem mr (F : Nat) (a1 : List UInt8) (a2 : UInt8) (r3 : Int) (H : hN F a1 a2 = some r3) : ACalls Tryz.prog 36 [S a1, u8 a2] [] (Ret (i64 r3) []) := by
 unfold hN at H
 refine ay Tryz.func36 rfl rfl ?_;show AW _ _ 8 _ _ _;refine af <| aa ?_;show AR _ _ _ _ _ [0] _;refine za rfl <| ah <| af ?_;obtain ⟨x4, e5, H⟩ := ep H;refine aa ?_;show AR _ _ _ _ _ [0, 1, 2, 3] _;refine zm rfl <| zm rfl <| ap rfl rfl (aI rfl wj rfl (rE F a1 a2 x4 e5) ?_);refine za rfl <| ah <| aP ?_;obtain rfl := am H;exact And.intro rfl (Exists.intro _ (Exists.intro _ ⟨aF rfl (.refl _), aK [] rfl, rfl, rfl⟩))
set_option maxRecDepth 100000 in
set_option maxHeartbeats 1000000 in
theorem tY (F : Nat) (a1 : List UInt8) (r2 : List UInt8) (H : pB F a1 = some r2) : ACalls Tryz.prog 19 [S a1] [] (Ret (S r2) []) := by
 unfold pB at H
 refine ay Tryz.func19 rfl rfl ?_;show AW _ _ 8 _ _ _;refine af <| aa ?_;show AR _ _ _ _ _ [0] _;refine za rfl <| ah <| af ?_;obtain ⟨x3, e4, H⟩ := ep H;obtain ⟨g5, H⟩ := aR H;obtain ⟨g6, H⟩ := aR H;obtain ⟨x7, e8, H⟩ := bB H;refine aa ?_;show AR _ _ _ _ _ [0, 1, 2, 3, 4, 5] _;refine zm rfl <| zm rfl <| ap rfl rfl (aI rfl wn rfl (mr F a1 58 x3 e4) ?_);refine zS rfl (cH rfl rfl g5) <| zS rfl (eD ac rfl rfl g6 e8) <| za rfl <| ah <| aP ?_;obtain rfl := am H;exact And.intro rfl (Exists.intro _ (Exists.intro _ ⟨aF rfl (.refl _), aK [] rfl, rfl, rfl⟩))
end Go.Proofs.YteokdkimegepoaaGreatDoor
namespace Go.Pv
def ir : Option Bool :=
some true
def iq (y7 : Int) (rec8 : Int → Option Bool) : Option Bool :=
grd (okI (y7 + 1)) <|
rec8 (y7 + 1)
def ke (a1 : List (Int × (List UInt8) × (List UInt8) × List ((List UInt8) × List UInt8))) (a3 : List (Int × (List UInt8) × (List UInt8) × List ((List UInt8) × List UInt8))) (y7 : Int) (rec8 : Int → Option Bool) (rec40 : Int → Option Bool) (y39 : Int) : Option Bool :=
grd (ce y7 a1.length) <|
lt (at_ a1 y7) fun x43 =>
bif decide (y39 < (x43.2.2.2.length : Int)) then
  grd (ce y7 a1.length) <|
  lt (at_ a1 y7) fun x47 =>
  grd (ce y39 x47.2.2.2.length) <|
  lt (at_ x47.2.2.2 y39) fun x50 =>
  grd (ce y7 a3.length) <|
  lt (at_ a3 y7) fun x53 =>
  grd (ce y39 x53.2.2.2.length) <|
  lt (at_ x53.2.2.2 y39) fun x56 =>
  bif !((decide (x50.1 = x56.1)) && (decide (x50.2 = x56.2))) then
    some false
  else
    grd (okI (y39 + 1)) <|
    rec40 (y39 + 1)
else
  iq y7 rec8
def kc (a1 : List (Int × (List UInt8) × (List UInt8) × List ((List UInt8) × List UInt8))) (a3 : List (Int × (List UInt8) × (List UInt8) × List ((List UInt8) × List UInt8))) (y7 : Int) (rec8 : Int → Option Bool) (n : Nat) : Int → Option Bool :=
  loop (fun rec x => ke a1 a3 y7 rec8 rec x) n
def kd (F : Nat) (a1 : List (Int × (List UInt8) × (List UInt8) × List ((List UInt8) × List UInt8))) (a3 : List (Int × (List UInt8) × (List UInt8) × List ((List UInt8) × List UInt8))) (rec8 : Int → Option Bool) (y7 : Int) : Option Bool :=
bif decide (y7 < (a1.length : Int)) then
  grd (ce y7 a1.length) <|
  lt (at_ a1 y7) fun x12 =>
  grd (ce y7 a3.length) <|
  lt (at_ a3 y7) fun x15 =>
  eK (!(!decide (x12.1 = x15.1))) (ce y7 a1.length) <|
  lt (at_ a1 y7) fun x19 =>
  eK (!(!decide (x12.1 = x15.1))) (ce y7 a3.length) <|
  lt (at_ a3 y7) fun x22 =>
  eK (!((!decide (x12.1 = x15.1)) || (!decide (x19.2.1 = x22.2.1)))) (ce y7 a1.length) <|
  lt (at_ a1 y7) fun x26 =>
  eK (!((!decide (x12.1 = x15.1)) || (!decide (x19.2.1 = x22.2.1)))) (ce y7 a3.length) <|
  lt (at_ a3 y7) fun x29 =>
  eK (!(((!decide (x12.1 = x15.1)) || (!decide (x19.2.1 = x22.2.1))) || (!decide (x26.2.2.1 = x29.2.2.1)))) (ce y7 a1.length) <|
  lt (at_ a1 y7) fun x33 =>
  eK (!(((!decide (x12.1 = x15.1)) || (!decide (x19.2.1 = x22.2.1))) || (!decide (x26.2.2.1 = x29.2.2.1)))) (ce y7 a3.length) <|
  lt (at_ a3 y7) fun x36 =>
  bif (((!decide (x12.1 = x15.1)) || (!decide (x19.2.1 = x22.2.1))) || (!decide (x26.2.2.1 = x29.2.2.1))) || (!decide ((x33.2.2.2.length : Int) = (x36.2.2.2.length : Int))) then
    some false
  else
    kc a1 a3 y7 rec8 F 0
else
  ir
def dy (F : Nat) (a1 : List (Int × (List UInt8) × (List UInt8) × List ((List UInt8) × List UInt8))) (a3 : List (Int × (List UInt8) × (List UInt8) × List ((List UInt8) × List UInt8))) (n : Nat) : Int → Option Bool :=
  loop (fun rec x => kd F a1 a3 rec x) n
def mD (F : Nat) (a1 : List (Int × (List UInt8) × (List UInt8) × List ((List UInt8) × List UInt8))) (a3 : List (Int × (List UInt8) × (List UInt8) × List ((List UInt8) × List UInt8))) : Option Bool :=
bif !decide ((a1.length : Int) = (a3.length : Int)) then
  some false
else
  dy F a1 a3 F 0
def iJ (F : Nat) : Option Bool :=
gY (eM F ([60, 97, 32, 98, 61, 34, 49, 34, 62, 120, 38, 97, 109, 112, 59, 60] ++ [99, 47, 62, 60, 47, 97, 62] : List UInt8)) fun x3 x4 =>
bnd (mD F x3 ([(0, ([97] : List UInt8), ([] : List UInt8), ([(([98] : List UInt8), ([49] : List UInt8))] : List ((List UInt8) × List UInt8))), (2, ([] : List UInt8), ([120, 38] : List UInt8), ([] : List ((List UInt8) × List UInt8))), (0, ([99] : List UInt8), ([] : List UInt8), ([] : List ((List UInt8) × List UInt8))), (1, ([99] : List UInt8), ([] : List UInt8), ([] : List ((List UInt8) × List UInt8))), (1, ([97] : List UInt8), ([] : List UInt8), ([] : List ((List UInt8) × List UInt8)))] : List (Int × (List UInt8) × (List UInt8) × List ((List UInt8) × List UInt8)))) fun x6 =>
jE ((decide (x4 = 0)) && x6) (lX F ([97, 58, 98] : List UInt8)) fun x10 =>
jE (((decide (x4 = 0)) && x6) && x10) (pB F ([97, 58, 98] : List UInt8)) fun x13 =>
jE ((((decide (x4 = 0)) && x6) && x10) && (decide (x13 = ([98] : List UInt8)))) (ko F x3 ([(0, ([97] : List UInt8), ([] : List UInt8), ([(([98] : List UInt8), ([49] : List UInt8))] : List ((List UInt8) × List UInt8))), (2, ([] : List UInt8), ([120, 38] : List UInt8), ([] : List ((List UInt8) × List UInt8))), (0, ([99] : List UInt8), ([] : List UInt8), ([] : List ((List UInt8) × List UInt8))), (1, ([99] : List UInt8), ([] : List UInt8), ([] : List ((List UInt8) × List UInt8))), (1, ([97] : List UInt8), ([] : List UInt8), ([] : List ((List UInt8) × List UInt8)))] : List (Int × (List UInt8) × (List UInt8) × List ((List UInt8) × List UInt8)))) fun x16 =>
some (((((decide (x4 = 0)) && x6) && x10) && (decide (x13 = ([98] : List UInt8)))) && x16)
def ji : Option Bool :=
some true
def fN (y6 : Int) (rec7 : Int → Option Bool) : Option Bool :=
grd (okI (y6 + 1)) <|
rec7 (y6 + 1)
def gX (a1 : List (Int × (List UInt8) × (List UInt8) × List ((List UInt8) × List UInt8))) (y6 : Int) (rec7 : Int → Option Bool) (rec23 : Int → Option Bool) (y22 : Int) : Option Bool :=
grd (ce y6 a1.length) <|
lt (at_ a1 y6) fun x26 =>
bif decide (y22 < (x26.2.2.2.length : Int)) then
  grd (ce y6 a1.length) <|
  lt (at_ a1 y6) fun x30 =>
  grd (ce y22 x30.2.2.2.length) <|
  lt (at_ x30.2.2.2 y22) fun x33 =>
  eK (!(decide (200 < (x33.1.length : Int)))) (ce y6 a1.length) <|
  lt (at_ a1 y6) fun x37 =>
  eK (!(decide (200 < (x33.1.length : Int)))) (ce y22 x37.2.2.2.length) <|
  lt (at_ x37.2.2.2 y22) fun x40 =>
  bif (decide (200 < (x33.1.length : Int))) || (decide (200 < (x40.2.length : Int))) then
    some false
  else
    grd (okI (y22 + 1)) <|
    rec23 (y22 + 1)
else
  fN y6 rec7
def gV (a1 : List (Int × (List UInt8) × (List UInt8) × List ((List UInt8) × List UInt8))) (y6 : Int) (rec7 : Int → Option Bool) (n : Nat) : Int → Option Bool :=
  loop (fun rec x => gX a1 y6 rec7 rec x) n
def gW (F : Nat) (a1 : List (Int × (List UInt8) × (List UInt8) × List ((List UInt8) × List UInt8))) (rec7 : Int → Option Bool) (y6 : Int) : Option Bool :=
bif decide (y6 < (a1.length : Int)) then
  grd (ce y6 a1.length) <|
  lt (at_ a1 y6) fun x11 =>
  eK (!(decide (200 < (x11.2.1.length : Int)))) (ce y6 a1.length) <|
  lt (at_ a1 y6) fun x15 =>
  eK (!((decide (200 < (x11.2.1.length : Int))) || (decide (200 < (x15.2.2.1.length : Int))))) (ce y6 a1.length) <|
  lt (at_ a1 y6) fun x19 =>
  bif ((decide (200 < (x11.2.1.length : Int))) || (decide (200 < (x15.2.2.1.length : Int)))) || (decide (10 < (x19.2.2.2.length : Int))) then
    some false
  else
    gV a1 y6 rec7 F 0
else
  ji
def cM (F : Nat) (a1 : List (Int × (List UInt8) × (List UInt8) × List ((List UInt8) × List UInt8))) (n : Nat) : Int → Option Bool :=
  loop (fun rec x => gW F a1 rec x) n
def jn (F : Nat) (a1 : List (Int × (List UInt8) × (List UInt8) × List ((List UInt8) × List UInt8))) (a3 : Int) : Option Bool :=
bif decide (a3 < (a1.length : Int)) then
  some false
else
  cM F a1 F 0
end Go.Pv
namespace Go.Proofs.YteokdkimegepoaaGreatDoor
open Go.RowKit Go.Av Go.Pv
theorem wP : ∀ (args : Array Value) (w : World), (callFunc 10 args).run Tryz.prog w = .ok (.enter 10 args) w := fun _ _ => by kernel_rfl
theorem wK : ∀ (args : Array Value) (w : World), (callFunc 12 args).run Tryz.prog w = .ok (.enter 12 args) w := fun _ _ => by kernel_rfl
theorem wH : ∀ (args : Array Value) (w : World), (callFunc 13 args).run Tryz.prog w = .ok (.enter 13 args) w := fun _ _ => by kernel_rfl
theorem wA : ∀ (args : Array Value) (w : World), (callFunc 18 args).run Tryz.prog w = .ok (.enter 18 args) w := fun _ _ => by kernel_rfl
theorem wz : ∀ (args : Array Value) (w : World), (callFunc 19 args).run Tryz.prog w = .ok (.enter 19 args) w := fun _ _ => by kernel_rfl
set_option maxRecDepth 100000 in
set_option maxHeartbeats 1000000 in
theorem rH (F : Nat) (a1 : List (Int × (List UInt8) × (List UInt8) × List ((List UInt8) × List UInt8))) (q2 : Option Nat) (a3 : List (Int × (List UInt8) × (List UInt8) × List ((List UInt8) × List UInt8))) (q4 : Option Nat) (r5 : Bool) (H : mD F a1 a3 = some r5) : ACalls Tryz.prog 12 [slE (Enc.prod Enc.int (Enc.prod Enc.str (Enc.prod Enc.str (Enc.sl (Enc.prod Enc.str Enc.str))))) a1 q2, slE (Enc.prod Enc.int (Enc.prod Enc.str (Enc.prod Enc.str (Enc.sl (Enc.prod Enc.str Enc.str))))) a3 q4] [] (Ret (B r5) []) := by
 unfold mD at H
 refine ay Tryz.func12 rfl rfl ?_;show AW _ _ 97 _ _ _;refine af <| aa ?_;show AR _ _ _ _ _ [0] _;refine za rfl <| ah <| af <| af <| aa ?_;show AR _ _ _ _ _ [0, 1, 2, 3, 4] _;refine zS rfl (ai (av := slE _ _ _) rfl) <| zS rfl (aV aw rfl) <| zS rfl (ai (av := slE _ _ _) rfl) <| zS rfl (aV aw rfl) <| zS rfl (dh rfl rfl) <| ah <| ax rfl (fun c6 => ?_) (fun c6 => ?_)
 ·replace H := ba c6 H;refine af <| aa ?_;show AR _ _ _ _ _ [0] _;refine za rfl <| ah <| aP ?_;obtain rfl := am H;exact And.intro rfl (Exists.intro _ (Exists.intro _ ⟨aF rfl (.refl _), aK [] rfl, rfl, rfl⟩))
 ·replace H := bb c6 H;refine aC <| bw (X := Unit) (fun _ => ⟨[], [], []⟩) (fun _ => ir = some r5) ?_ ?_
  ·refine af <| aa ?_;show AR _ _ _ _ _ [0] _;refine za rfl <| ah <| aQ <| cJ (X := Nat × Int) (fun (n9, y7) => ⟨[(0, slE (Enc.prod Enc.int (Enc.prod Enc.str (Enc.prod Enc.str (Enc.sl (Enc.prod Enc.str Enc.str))))) a1 q2), (1, slE (Enc.prod Enc.int (Enc.prod Enc.str (Enc.prod Enc.str (Enc.sl (Enc.prod Enc.str Enc.str))))) a3 q4), (5, i64 y7)], [], []⟩) (fun (n9, y7) => dy F a1 a3 n9 y7 = some r5) (fun (n9, y7) => n9) (F, 0) H (aW [] (.cons (.refl _) (.cons (.refl _) (.cons (.refl _) (.nil _)))) rfl) ?_;rintro ⟨n9, y7⟩ H;obtain ⟨n9, rfl, H⟩ := dz H;replace H : kd F a1 a3 (dy F a1 a3 n9) y7 = some r5 := H
   unfold kd at H
   refine af <| af <| aa ?_;show AR _ _ _ _ _ [0, 1, 2, 3] _;refine zm rfl <| zS rfl (ai (av := slE _ _ _) rfl) <| zS rfl (aV aw rfl) <| zS rfl (bQ rfl rfl) <| ah <| ax rfl (fun c10 => ?_) (fun c10 => ?_)
   ·replace H := ba c10 H;refine aC <| bw (X := Unit) (fun _ => ⟨[(0, slE (Enc.prod Enc.int (Enc.prod Enc.str (Enc.prod Enc.str (Enc.sl (Enc.prod Enc.str Enc.str))))) a1 q2), (1, slE (Enc.prod Enc.int (Enc.prod Enc.str (Enc.prod Enc.str (Enc.sl (Enc.prod Enc.str Enc.str))))) a3 q4), (5, i64 y7)], [], []⟩) (fun _ => iq y7 (dy F a1 a3 n9) = some r5) ?_ ?_
    ·refine aQ <| af <| af ?_;obtain ⟨g11, H⟩ := aR H;obtain ⟨x12, e13, H⟩ := bB H;obtain ⟨g14, H⟩ := aR H;obtain ⟨x15, e16, H⟩ := bB H;obtain ⟨g18, H⟩ := cC H;obtain ⟨x19, e20, H⟩ := bB H;obtain ⟨g21, H⟩ := cC H;obtain ⟨x22, e23, H⟩ := bB H;obtain ⟨g25, H⟩ := cC H;obtain ⟨x26, e27, H⟩ := bB H;obtain ⟨g28, H⟩ := cC H;obtain ⟨x29, e30, H⟩ := bB H;obtain ⟨g32, H⟩ := cC H;obtain ⟨x33, e34, H⟩ := bB H;obtain ⟨g35, H⟩ := cC H;obtain ⟨x36, e37, H⟩ := bB H;refine bI (by kernel_rfl) ?_;show AI _ _ _ _ _ 52 (Array.replicate 52 false) _;refine zk 0 rfl (ai (av := slE _ _ _) rfl) ?_;show AI _ _ _ _ _ _ #[true, false, false, false, false, false, false, false, false, false, false, false, false, false, false, false, false, false, false, false, false, false, false, false, false, false, false, false, false, false, false, false, false, false, false, false, false, false, false, false, false, false, false, false, false, false, false, false, false, false, false, false] _;refine zk 1 rfl (mv rfl) ?_;show AI _ _ _ _ _ _ #[true, true, false, false, false, false, false, false, false, false, false, false, false, false, false, false, false, false, false, false, false, false, false, false, false, false, false, false, false, false, false, false, false, false, false, false, false, false, false, false, false, false, false, false, false, false, false, false, false, false, false, false] _
     refine zk 2 rfl (bj (E := (Enc.prod Enc.int (Enc.prod Enc.str (Enc.prod Enc.str (Enc.sl (Enc.prod Enc.str Enc.str)))))) aw (by kernel_rfl) rfl rfl g11 e13) ?_;show AI _ _ _ _ _ _ #[true, true, true, false, false, false, false, false, false, false, false, false, false, false, false, false, false, false, false, false, false, false, false, false, false, false, false, false, false, false, false, false, false, false, false, false, false, false, false, false, false, false, false, false, false, false, false, false, false, false, false, false] _;refine zk 3 rfl (aE (n := 0) (by kernel_rfl) rfl (ag rfl)) ?_;show AI _ _ _ _ _ _ #[true, true, true, true, false, false, false, false, false, false, false, false, false, false, false, false, false, false, false, false, false, false, false, false, false, false, false, false, false, false, false, false, false, false, false, false, false, false, false, false, false, false, false, false, false, false, false, false, false, false, false, false] _;refine zk 4 rfl (aA bO rfl rfl) ?_;show AI _ _ _ _ _ _ #[true, true, true, true, true, false, false, false, false, false, false, false, false, false, false, false, false, false, false, false, false, false, false, false, false, false, false, false, false, false, false, false, false, false, false, false, false, false, false, false, false, false, false, false, false, false, false, false, false, false, false, false] _;refine zk 5 rfl (ai (av := slE _ _ _) rfl) ?_
     show AI _ _ _ _ _ _ #[true, true, true, true, true, true, false, false, false, false, false, false, false, false, false, false, false, false, false, false, false, false, false, false, false, false, false, false, false, false, false, false, false, false, false, false, false, false, false, false, false, false, false, false, false, false, false, false, false, false, false, false] _;refine zk 6 rfl (mv rfl) ?_;show AI _ _ _ _ _ _ #[true, true, true, true, true, true, true, false, false, false, false, false, false, false, false, false, false, false, false, false, false, false, false, false, false, false, false, false, false, false, false, false, false, false, false, false, false, false, false, false, false, false, false, false, false, false, false, false, false, false, false, false] _;refine zk 7 rfl (bj (E := (Enc.prod Enc.int (Enc.prod Enc.str (Enc.prod Enc.str (Enc.sl (Enc.prod Enc.str Enc.str)))))) aw (by kernel_rfl) rfl rfl g14 e16) ?_;show AI _ _ _ _ _ _ #[true, true, true, true, true, true, true, true, false, false, false, false, false, false, false, false, false, false, false, false, false, false, false, false, false, false, false, false, false, false, false, false, false, false, false, false, false, false, false, false, false, false, false, false, false, false, false, false, false, false, false, false] _;refine zk 8 rfl (aE (n := 0) (by kernel_rfl) rfl (ag rfl)) ?_
     show AI _ _ _ _ _ _ #[true, true, true, true, true, true, true, true, true, false, false, false, false, false, false, false, false, false, false, false, false, false, false, false, false, false, false, false, false, false, false, false, false, false, false, false, false, false, false, false, false, false, false, false, false, false, false, false, false, false, false, false] _;refine zk 9 rfl (aA bO rfl rfl) ?_;show AI _ _ _ _ _ _ #[true, true, true, true, true, true, true, true, true, true, false, false, false, false, false, false, false, false, false, false, false, false, false, false, false, false, false, false, false, false, false, false, false, false, false, false, false, false, false, false, false, false, false, false, false, false, false, false, false, false, false, false] _;refine zk 10 rfl (dh rfl rfl) ?_;show AI _ _ _ _ _ _ #[true, true, true, true, true, true, true, true, true, true, true, false, false, false, false, false, false, false, false, false, false, false, false, false, false, false, false, false, false, false, false, false, false, false, false, false, false, false, false, false, false, false, false, false, false, false, false, false, false, false, false, false] _;refine zk 11 rfl (mv rfl) ?_
     show AI _ _ _ _ _ _ #[true, true, true, true, true, true, true, true, true, true, true, true, false, false, false, false, false, false, false, false, false, false, false, false, false, false, false, false, false, false, false, false, false, false, false, false, false, false, false, false, false, false, false, false, false, false, false, false, false, false, false, false] _;refine AI.meet 28 #[true, true, true, true, true, true, true, true, true, true, true, true, true, true, true, true, true, true, true, true, true, true, true, true, false, false, false, false, false, false, false, false, false, false, false, false, false, false, false, false, false, false, false, false, false, false, false, false, false, false, false, false] 41 (B ((!decide (x12.1 = x15.1)) || (!decide (x19.2.1 = x22.2.1)))) (fun K23 => ?_) ?_
     ·refine nV (t := 29) rfl (fun h17 => ?_) (fun h17 => ?_)
      ·refine bL (i := 12) rfl rfl (by kernel_rfl) (by kernel_rfl) (by kernel_rfl) rfl rfl rfl (fun _ _ h => h) h17 ?_;show AI _ _ _ _ _ _ #[true, true, true, true, true, true, true, true, true, true, true, true, true, false, false, false, false, false, false, false, false, false, false, false, false, false, false, false, false, false, false, false, false, false, false, false, false, false, false, false, false, false, false, false, false, false, false, false, false, false, false, false] _;refine bL (i := 13) rfl rfl (by kernel_rfl) (by kernel_rfl) (by kernel_rfl) rfl rfl rfl (fun _ _ h => h) h17 ?_;show AI _ _ _ _ _ _ #[true, true, true, true, true, true, true, true, true, true, true, true, true, true, false, false, false, false, false, false, false, false, false, false, false, false, false, false, false, false, false, false, false, false, false, false, false, false, false, false, false, false, false, false, false, false, false, false, false, false, false, false] _;refine bL (i := 14) rfl rfl (by kernel_rfl) (by kernel_rfl) (by kernel_rfl) rfl rfl rfl (fun _ _ h => h) h17 ?_;show AI _ _ _ _ _ _ #[true, true, true, true, true, true, true, true, true, true, true, true, true, true, true, false, false, false, false, false, false, false, false, false, false, false, false, false, false, false, false, false, false, false, false, false, false, false, false, false, false, false, false, false, false, false, false, false, false, false, false, false] _;refine bL (i := 15) rfl rfl (by kernel_rfl) (by kernel_rfl) (by kernel_rfl) rfl rfl rfl (fun _ _ h => h) h17 ?_
       show AI _ _ _ _ _ _ #[true, true, true, true, true, true, true, true, true, true, true, true, true, true, true, true, false, false, false, false, false, false, false, false, false, false, false, false, false, false, false, false, false, false, false, false, false, false, false, false, false, false, false, false, false, false, false, false, false, false, false, false] _;refine bL (i := 16) rfl rfl (by kernel_rfl) (by kernel_rfl) (by kernel_rfl) rfl rfl rfl (fun _ _ h => h) h17 ?_;show AI _ _ _ _ _ _ #[true, true, true, true, true, true, true, true, true, true, true, true, true, true, true, true, true, false, false, false, false, false, false, false, false, false, false, false, false, false, false, false, false, false, false, false, false, false, false, false, false, false, false, false, false, false, false, false, false, false, false, false] _;refine bL (i := 17) rfl rfl (by kernel_rfl) (by kernel_rfl) (by kernel_rfl) rfl rfl rfl (fun _ _ h => h) h17 ?_;show AI _ _ _ _ _ _ #[true, true, true, true, true, true, true, true, true, true, true, true, true, true, true, true, true, true, false, false, false, false, false, false, false, false, false, false, false, false, false, false, false, false, false, false, false, false, false, false, false, false, false, false, false, false, false, false, false, false, false, false] _;refine bL (i := 18) rfl rfl (by kernel_rfl) (by kernel_rfl) (by kernel_rfl) rfl rfl rfl (fun _ _ h => h) h17 ?_
       show AI _ _ _ _ _ _ #[true, true, true, true, true, true, true, true, true, true, true, true, true, true, true, true, true, true, true, false, false, false, false, false, false, false, false, false, false, false, false, false, false, false, false, false, false, false, false, false, false, false, false, false, false, false, false, false, false, false, false, false] _;refine bL (i := 19) rfl rfl (by kernel_rfl) (by kernel_rfl) (by kernel_rfl) rfl rfl rfl (fun _ _ h => h) h17 ?_;show AI _ _ _ _ _ _ #[true, true, true, true, true, true, true, true, true, true, true, true, true, true, true, true, true, true, true, true, false, false, false, false, false, false, false, false, false, false, false, false, false, false, false, false, false, false, false, false, false, false, false, false, false, false, false, false, false, false, false, false] _;refine bL (i := 20) rfl rfl (by kernel_rfl) (by kernel_rfl) (by kernel_rfl) rfl rfl rfl (fun _ _ h => h) h17 ?_;show AI _ _ _ _ _ _ #[true, true, true, true, true, true, true, true, true, true, true, true, true, true, true, true, true, true, true, true, true, false, false, false, false, false, false, false, false, false, false, false, false, false, false, false, false, false, false, false, false, false, false, false, false, false, false, false, false, false, false, false] _;refine bL (i := 21) rfl rfl (by kernel_rfl) (by kernel_rfl) (by kernel_rfl) rfl rfl rfl (fun _ _ h => h) h17 ?_
       show AI _ _ _ _ _ _ #[true, true, true, true, true, true, true, true, true, true, true, true, true, true, true, true, true, true, true, true, true, true, false, false, false, false, false, false, false, false, false, false, false, false, false, false, false, false, false, false, false, false, false, false, false, false, false, false, false, false, false, false] _;refine bL (i := 22) rfl rfl (by kernel_rfl) (by kernel_rfl) (by kernel_rfl) rfl rfl rfl (fun _ _ h => h) h17 ?_;show AI _ _ _ _ _ _ #[true, true, true, true, true, true, true, true, true, true, true, true, true, true, true, true, true, true, true, true, true, true, true, false, false, false, false, false, false, false, false, false, false, false, false, false, false, false, false, false, false, false, false, false, false, false, false, false, false, false, false, false] _;refine zk 23 rfl (bc (av' := B ((!decide (x12.1 = x15.1)) || (!decide (x19.2.1 = x22.2.1)))) (aL (av := .v _) rfl h17 rfl) (az (ky h17))) ?_;show AI _ _ _ _ _ _ #[true, true, true, true, true, true, true, true, true, true, true, true, true, true, true, true, true, true, true, true, true, true, true, true, false, false, false, false, false, false, false, false, false, false, false, false, false, false, false, false, false, false, false, false, false, false, false, false, false, false, false, false] _;exact K23 _ 11 rfl rfl
      ·refine bK (i := 12) rfl rfl (by kernel_rfl) (by kernel_rfl) (by kernel_rfl) rfl rfl rfl (fun _ _ h => h) h17 (ai (av := slE _ _ _) rfl) ?_;show AI _ _ _ _ _ _ #[true, true, true, true, true, true, true, true, true, true, true, true, true, false, false, false, false, false, false, false, false, false, false, false, false, false, false, false, false, false, false, false, false, false, false, false, false, false, false, false, false, false, false, false, false, false, false, false, false, false, false, false] _;refine bK (i := 13) rfl rfl (by kernel_rfl) (by kernel_rfl) (by kernel_rfl) rfl rfl rfl (fun _ _ h => h) h17 (mv rfl) ?_;show AI _ _ _ _ _ _ #[true, true, true, true, true, true, true, true, true, true, true, true, true, true, false, false, false, false, false, false, false, false, false, false, false, false, false, false, false, false, false, false, false, false, false, false, false, false, false, false, false, false, false, false, false, false, false, false, false, false, false, false] _;refine bK (i := 14) rfl rfl (by kernel_rfl) (by kernel_rfl) (by kernel_rfl) rfl rfl rfl (fun _ _ h => h) h17 (bj (E := (Enc.prod Enc.int (Enc.prod Enc.str (Enc.prod Enc.str (Enc.sl (Enc.prod Enc.str Enc.str)))))) aw (by kernel_rfl) rfl rfl (g18 (nf h17)) e20) ?_
       show AI _ _ _ _ _ _ #[true, true, true, true, true, true, true, true, true, true, true, true, true, true, true, false, false, false, false, false, false, false, false, false, false, false, false, false, false, false, false, false, false, false, false, false, false, false, false, false, false, false, false, false, false, false, false, false, false, false, false, false] _;refine bK (i := 15) rfl rfl (by kernel_rfl) (by kernel_rfl) (by kernel_rfl) rfl rfl rfl (fun _ _ h => h) h17 (aE (n := 1) (by kernel_rfl) rfl (ag rfl)) ?_;show AI _ _ _ _ _ _ #[true, true, true, true, true, true, true, true, true, true, true, true, true, true, true, true, false, false, false, false, false, false, false, false, false, false, false, false, false, false, false, false, false, false, false, false, false, false, false, false, false, false, false, false, false, false, false, false, false, false, false, false] _;refine bK (i := 16) rfl rfl (by kernel_rfl) (by kernel_rfl) (by kernel_rfl) rfl rfl rfl (fun _ _ h => h) h17 (aA ac rfl rfl) ?_;show AI _ _ _ _ _ _ #[true, true, true, true, true, true, true, true, true, true, true, true, true, true, true, true, true, false, false, false, false, false, false, false, false, false, false, false, false, false, false, false, false, false, false, false, false, false, false, false, false, false, false, false, false, false, false, false, false, false, false, false] _
       refine bK (i := 17) rfl rfl (by kernel_rfl) (by kernel_rfl) (by kernel_rfl) rfl rfl rfl (fun _ _ h => h) h17 (ai (av := slE _ _ _) rfl) ?_;show AI _ _ _ _ _ _ #[true, true, true, true, true, true, true, true, true, true, true, true, true, true, true, true, true, true, false, false, false, false, false, false, false, false, false, false, false, false, false, false, false, false, false, false, false, false, false, false, false, false, false, false, false, false, false, false, false, false, false, false] _;refine bK (i := 18) rfl rfl (by kernel_rfl) (by kernel_rfl) (by kernel_rfl) rfl rfl rfl (fun _ _ h => h) h17 (mv rfl) ?_;show AI _ _ _ _ _ _ #[true, true, true, true, true, true, true, true, true, true, true, true, true, true, true, true, true, true, true, false, false, false, false, false, false, false, false, false, false, false, false, false, false, false, false, false, false, false, false, false, false, false, false, false, false, false, false, false, false, false, false, false] _;refine bK (i := 19) rfl rfl (by kernel_rfl) (by kernel_rfl) (by kernel_rfl) rfl rfl rfl (fun _ _ h => h) h17 (bj (E := (Enc.prod Enc.int (Enc.prod Enc.str (Enc.prod Enc.str (Enc.sl (Enc.prod Enc.str Enc.str)))))) aw (by kernel_rfl) rfl rfl (g21 (nf h17)) e23) ?_
       show AI _ _ _ _ _ _ #[true, true, true, true, true, true, true, true, true, true, true, true, true, true, true, true, true, true, true, true, false, false, false, false, false, false, false, false, false, false, false, false, false, false, false, false, false, false, false, false, false, false, false, false, false, false, false, false, false, false, false, false] _;refine bK (i := 20) rfl rfl (by kernel_rfl) (by kernel_rfl) (by kernel_rfl) rfl rfl rfl (fun _ _ h => h) h17 (aE (n := 1) (by kernel_rfl) rfl (ag rfl)) ?_;show AI _ _ _ _ _ _ #[true, true, true, true, true, true, true, true, true, true, true, true, true, true, true, true, true, true, true, true, true, false, false, false, false, false, false, false, false, false, false, false, false, false, false, false, false, false, false, false, false, false, false, false, false, false, false, false, false, false, false, false] _;refine bK (i := 21) rfl rfl (by kernel_rfl) (by kernel_rfl) (by kernel_rfl) rfl rfl rfl (fun _ _ h => h) h17 (aA ac rfl rfl) ?_;show AI _ _ _ _ _ _ #[true, true, true, true, true, true, true, true, true, true, true, true, true, true, true, true, true, true, true, true, true, true, false, false, false, false, false, false, false, false, false, false, false, false, false, false, false, false, false, false, false, false, false, false, false, false, false, false, false, false, false, false] _;refine bK (i := 22) rfl rfl (by kernel_rfl) (by kernel_rfl) (by kernel_rfl) rfl rfl rfl (fun _ _ h => h) h17 (nx rfl rfl) ?_
       show AI _ _ _ _ _ _ #[true, true, true, true, true, true, true, true, true, true, true, true, true, true, true, true, true, true, true, true, true, true, true, false, false, false, false, false, false, false, false, false, false, false, false, false, false, false, false, false, false, false, false, false, false, false, false, false, false, false, false, false] _;refine zk 23 rfl (bc (av' := B ((!decide (x12.1 = x15.1)) || (!decide (x19.2.1 = x22.2.1)))) (aJ (av := .v _) rfl h17 rfl) (az (kz h17))) ?_;show AI _ _ _ _ _ _ #[true, true, true, true, true, true, true, true, true, true, true, true, true, true, true, true, true, true, true, true, true, true, true, true, false, false, false, false, false, false, false, false, false, false, false, false, false, false, false, false, false, false, false, false, false, false, false, false, false, false, false, false] _;exact K23 _ 11 rfl rfl
     refine zk 24 rfl (mv rfl) ?_;show AI _ _ _ _ _ _ #[true, true, true, true, true, true, true, true, true, true, true, true, true, true, true, true, true, true, true, true, true, true, true, true, true, false, false, false, false, false, false, false, false, false, false, false, false, false, false, false, false, false, false, false, false, false, false, false, false, false, false, false] _;refine AI.meet 15 #[true, true, true, true, true, true, true, true, true, true, true, true, true, true, true, true, true, true, true, true, true, true, true, true, true, true, true, true, true, true, true, true, true, true, true, true, true, false, false, false, false, false, false, false, false, false, false, false, false, false, false, false] 54 (B (((!decide (x12.1 = x15.1)) || (!decide (x19.2.1 = x22.2.1))) || (!decide (x26.2.2.1 = x29.2.2.1)))) (fun K36 => ?_) ?_
     ·refine nV (t := 42) rfl (fun h24 => ?_) (fun h24 => ?_)
      ·refine bL (i := 25) rfl rfl (by kernel_rfl) (by kernel_rfl) (by kernel_rfl) rfl rfl rfl (fun _ _ h => h) h24 ?_;show AI _ _ _ _ _ _ #[true, true, true, true, true, true, true, true, true, true, true, true, true, true, true, true, true, true, true, true, true, true, true, true, true, true, false, false, false, false, false, false, false, false, false, false, false, false, false, false, false, false, false, false, false, false, false, false, false, false, false, false] _;refine bL (i := 26) rfl rfl (by kernel_rfl) (by kernel_rfl) (by kernel_rfl) rfl rfl rfl (fun _ _ h => h) h24 ?_;show AI _ _ _ _ _ _ #[true, true, true, true, true, true, true, true, true, true, true, true, true, true, true, true, true, true, true, true, true, true, true, true, true, true, true, false, false, false, false, false, false, false, false, false, false, false, false, false, false, false, false, false, false, false, false, false, false, false, false, false] _;refine bL (i := 27) rfl rfl (by kernel_rfl) (by kernel_rfl) (by kernel_rfl) rfl rfl rfl (fun _ _ h => h) h24 ?_;show AI _ _ _ _ _ _ #[true, true, true, true, true, true, true, true, true, true, true, true, true, true, true, true, true, true, true, true, true, true, true, true, true, true, true, true, false, false, false, false, false, false, false, false, false, false, false, false, false, false, false, false, false, false, false, false, false, false, false, false] _;refine bL (i := 28) rfl rfl (by kernel_rfl) (by kernel_rfl) (by kernel_rfl) rfl rfl rfl (fun _ _ h => h) h24 ?_
       show AI _ _ _ _ _ _ #[true, true, true, true, true, true, true, true, true, true, true, true, true, true, true, true, true, true, true, true, true, true, true, true, true, true, true, true, true, false, false, false, false, false, false, false, false, false, false, false, false, false, false, false, false, false, false, false, false, false, false, false] _;refine bL (i := 29) rfl rfl (by kernel_rfl) (by kernel_rfl) (by kernel_rfl) rfl rfl rfl (fun _ _ h => h) h24 ?_;show AI _ _ _ _ _ _ #[true, true, true, true, true, true, true, true, true, true, true, true, true, true, true, true, true, true, true, true, true, true, true, true, true, true, true, true, true, true, false, false, false, false, false, false, false, false, false, false, false, false, false, false, false, false, false, false, false, false, false, false] _;refine bL (i := 30) rfl rfl (by kernel_rfl) (by kernel_rfl) (by kernel_rfl) rfl rfl rfl (fun _ _ h => h) h24 ?_;show AI _ _ _ _ _ _ #[true, true, true, true, true, true, true, true, true, true, true, true, true, true, true, true, true, true, true, true, true, true, true, true, true, true, true, true, true, true, true, false, false, false, false, false, false, false, false, false, false, false, false, false, false, false, false, false, false, false, false, false] _;refine bL (i := 31) rfl rfl (by kernel_rfl) (by kernel_rfl) (by kernel_rfl) rfl rfl rfl (fun _ _ h => h) h24 ?_
       show AI _ _ _ _ _ _ #[true, true, true, true, true, true, true, true, true, true, true, true, true, true, true, true, true, true, true, true, true, true, true, true, true, true, true, true, true, true, true, true, false, false, false, false, false, false, false, false, false, false, false, false, false, false, false, false, false, false, false, false] _;refine bL (i := 32) rfl rfl (by kernel_rfl) (by kernel_rfl) (by kernel_rfl) rfl rfl rfl (fun _ _ h => h) h24 ?_;show AI _ _ _ _ _ _ #[true, true, true, true, true, true, true, true, true, true, true, true, true, true, true, true, true, true, true, true, true, true, true, true, true, true, true, true, true, true, true, true, true, false, false, false, false, false, false, false, false, false, false, false, false, false, false, false, false, false, false, false] _;refine bL (i := 33) rfl rfl (by kernel_rfl) (by kernel_rfl) (by kernel_rfl) rfl rfl rfl (fun _ _ h => h) h24 ?_;show AI _ _ _ _ _ _ #[true, true, true, true, true, true, true, true, true, true, true, true, true, true, true, true, true, true, true, true, true, true, true, true, true, true, true, true, true, true, true, true, true, true, false, false, false, false, false, false, false, false, false, false, false, false, false, false, false, false, false, false] _;refine bL (i := 34) rfl rfl (by kernel_rfl) (by kernel_rfl) (by kernel_rfl) rfl rfl rfl (fun _ _ h => h) h24 ?_
       show AI _ _ _ _ _ _ #[true, true, true, true, true, true, true, true, true, true, true, true, true, true, true, true, true, true, true, true, true, true, true, true, true, true, true, true, true, true, true, true, true, true, true, false, false, false, false, false, false, false, false, false, false, false, false, false, false, false, false, false] _;refine bL (i := 35) rfl rfl (by kernel_rfl) (by kernel_rfl) (by kernel_rfl) rfl rfl rfl (fun _ _ h => h) h24 ?_;show AI _ _ _ _ _ _ #[true, true, true, true, true, true, true, true, true, true, true, true, true, true, true, true, true, true, true, true, true, true, true, true, true, true, true, true, true, true, true, true, true, true, true, true, false, false, false, false, false, false, false, false, false, false, false, false, false, false, false, false] _;refine zk 36 rfl (bc (av' := B (((!decide (x12.1 = x15.1)) || (!decide (x19.2.1 = x22.2.1))) || (!decide (x26.2.2.1 = x29.2.2.1)))) (aL (av := .v _) rfl h24 rfl) (az (ky h24))) ?_;show AI _ _ _ _ _ _ #[true, true, true, true, true, true, true, true, true, true, true, true, true, true, true, true, true, true, true, true, true, true, true, true, true, true, true, true, true, true, true, true, true, true, true, true, true, false, false, false, false, false, false, false, false, false, false, false, false, false, false, false] _;exact K36 _ 11 rfl rfl
      ·refine bK (i := 25) rfl rfl (by kernel_rfl) (by kernel_rfl) (by kernel_rfl) rfl rfl rfl (fun _ _ h => h) h24 (ai (av := slE _ _ _) rfl) ?_;show AI _ _ _ _ _ _ #[true, true, true, true, true, true, true, true, true, true, true, true, true, true, true, true, true, true, true, true, true, true, true, true, true, true, false, false, false, false, false, false, false, false, false, false, false, false, false, false, false, false, false, false, false, false, false, false, false, false, false, false] _;refine bK (i := 26) rfl rfl (by kernel_rfl) (by kernel_rfl) (by kernel_rfl) rfl rfl rfl (fun _ _ h => h) h24 (mv rfl) ?_;show AI _ _ _ _ _ _ #[true, true, true, true, true, true, true, true, true, true, true, true, true, true, true, true, true, true, true, true, true, true, true, true, true, true, true, false, false, false, false, false, false, false, false, false, false, false, false, false, false, false, false, false, false, false, false, false, false, false, false, false] _;refine bK (i := 27) rfl rfl (by kernel_rfl) (by kernel_rfl) (by kernel_rfl) rfl rfl rfl (fun _ _ h => h) h24 (bj (E := (Enc.prod Enc.int (Enc.prod Enc.str (Enc.prod Enc.str (Enc.sl (Enc.prod Enc.str Enc.str)))))) aw (by kernel_rfl) rfl rfl (g25 (nf h24)) e27) ?_
       show AI _ _ _ _ _ _ #[true, true, true, true, true, true, true, true, true, true, true, true, true, true, true, true, true, true, true, true, true, true, true, true, true, true, true, true, false, false, false, false, false, false, false, false, false, false, false, false, false, false, false, false, false, false, false, false, false, false, false, false] _;refine bK (i := 28) rfl rfl (by kernel_rfl) (by kernel_rfl) (by kernel_rfl) rfl rfl rfl (fun _ _ h => h) h24 (aE (n := 2) (by kernel_rfl) rfl (ag rfl)) ?_;show AI _ _ _ _ _ _ #[true, true, true, true, true, true, true, true, true, true, true, true, true, true, true, true, true, true, true, true, true, true, true, true, true, true, true, true, true, false, false, false, false, false, false, false, false, false, false, false, false, false, false, false, false, false, false, false, false, false, false, false] _;refine bK (i := 29) rfl rfl (by kernel_rfl) (by kernel_rfl) (by kernel_rfl) rfl rfl rfl (fun _ _ h => h) h24 (aA ac rfl rfl) ?_;show AI _ _ _ _ _ _ #[true, true, true, true, true, true, true, true, true, true, true, true, true, true, true, true, true, true, true, true, true, true, true, true, true, true, true, true, true, true, false, false, false, false, false, false, false, false, false, false, false, false, false, false, false, false, false, false, false, false, false, false] _;refine bK (i := 30) rfl rfl (by kernel_rfl) (by kernel_rfl) (by kernel_rfl) rfl rfl rfl (fun _ _ h => h) h24 (ai (av := slE _ _ _) rfl) ?_
       show AI _ _ _ _ _ _ #[true, true, true, true, true, true, true, true, true, true, true, true, true, true, true, true, true, true, true, true, true, true, true, true, true, true, true, true, true, true, true, false, false, false, false, false, false, false, false, false, false, false, false, false, false, false, false, false, false, false, false, false] _;refine bK (i := 31) rfl rfl (by kernel_rfl) (by kernel_rfl) (by kernel_rfl) rfl rfl rfl (fun _ _ h => h) h24 (mv rfl) ?_;show AI _ _ _ _ _ _ #[true, true, true, true, true, true, true, true, true, true, true, true, true, true, true, true, true, true, true, true, true, true, true, true, true, true, true, true, true, true, true, true, false, false, false, false, false, false, false, false, false, false, false, false, false, false, false, false, false, false, false, false] _;refine bK (i := 32) rfl rfl (by kernel_rfl) (by kernel_rfl) (by kernel_rfl) rfl rfl rfl (fun _ _ h => h) h24 (bj (E := (Enc.prod Enc.int (Enc.prod Enc.str (Enc.prod Enc.str (Enc.sl (Enc.prod Enc.str Enc.str)))))) aw (by kernel_rfl) rfl rfl (g28 (nf h24)) e30) ?_;show AI _ _ _ _ _ _ #[true, true, true, true, true, true, true, true, true, true, true, true, true, true, true, true, true, true, true, true, true, true, true, true, true, true, true, true, true, true, true, true, true, false, false, false, false, false, false, false, false, false, false, false, false, false, false, false, false, false, false, false] _
       refine bK (i := 33) rfl rfl (by kernel_rfl) (by kernel_rfl) (by kernel_rfl) rfl rfl rfl (fun _ _ h => h) h24 (aE (n := 2) (by kernel_rfl) rfl (ag rfl)) ?_;show AI _ _ _ _ _ _ #[true, true, true, true, true, true, true, true, true, true, true, true, true, true, true, true, true, true, true, true, true, true, true, true, true, true, true, true, true, true, true, true, true, true, false, false, false, false, false, false, false, false, false, false, false, false, false, false, false, false, false, false] _;refine bK (i := 34) rfl rfl (by kernel_rfl) (by kernel_rfl) (by kernel_rfl) rfl rfl rfl (fun _ _ h => h) h24 (aA ac rfl rfl) ?_;show AI _ _ _ _ _ _ #[true, true, true, true, true, true, true, true, true, true, true, true, true, true, true, true, true, true, true, true, true, true, true, true, true, true, true, true, true, true, true, true, true, true, true, false, false, false, false, false, false, false, false, false, false, false, false, false, false, false, false, false] _;refine bK (i := 35) rfl rfl (by kernel_rfl) (by kernel_rfl) (by kernel_rfl) rfl rfl rfl (fun _ _ h => h) h24 (nx rfl rfl) ?_;show AI _ _ _ _ _ _ #[true, true, true, true, true, true, true, true, true, true, true, true, true, true, true, true, true, true, true, true, true, true, true, true, true, true, true, true, true, true, true, true, true, true, true, true, false, false, false, false, false, false, false, false, false, false, false, false, false, false, false, false] _
       refine zk 36 rfl (bc (av' := B (((!decide (x12.1 = x15.1)) || (!decide (x19.2.1 = x22.2.1))) || (!decide (x26.2.2.1 = x29.2.2.1)))) (aJ (av := .v _) rfl h24 rfl) (az (kz h24))) ?_;show AI _ _ _ _ _ _ #[true, true, true, true, true, true, true, true, true, true, true, true, true, true, true, true, true, true, true, true, true, true, true, true, true, true, true, true, true, true, true, true, true, true, true, true, true, false, false, false, false, false, false, false, false, false, false, false, false, false, false, false] _;exact K36 _ 11 rfl rfl
     refine zk 37 rfl (mv rfl) ?_;show AI _ _ _ _ _ _ #[true, true, true, true, true, true, true, true, true, true, true, true, true, true, true, true, true, true, true, true, true, true, true, true, true, true, true, true, true, true, true, true, true, true, true, true, true, true, false, false, false, false, false, false, false, false, false, false, false, false, false, false] _;refine AI.meet 0 #[true, true, true, true, true, true, true, true, true, true, true, true, true, true, true, true, true, true, true, true, true, true, true, true, true, true, true, true, true, true, true, true, true, true, true, true, true, true, true, true, true, true, true, true, true, true, true, true, true, true, true, true] 69 (B ((((!decide (x12.1 = x15.1)) || (!decide (x19.2.1 = x22.2.1))) || (!decide (x26.2.2.1 = x29.2.2.1))) || (!decide ((x33.2.2.2.length : Int) = (x36.2.2.2.length : Int))))) (fun K51 => ?_) ?_
     ·refine nV (t := 55) rfl (fun h31 => ?_) (fun h31 => ?_)
      ·refine bL (i := 38) rfl rfl (by kernel_rfl) (by kernel_rfl) (by kernel_rfl) rfl rfl rfl (fun _ _ h => h) h31 ?_;show AI _ _ _ _ _ _ #[true, true, true, true, true, true, true, true, true, true, true, true, true, true, true, true, true, true, true, true, true, true, true, true, true, true, true, true, true, true, true, true, true, true, true, true, true, true, true, false, false, false, false, false, false, false, false, false, false, false, false, false] _;refine bL (i := 39) rfl rfl (by kernel_rfl) (by kernel_rfl) (by kernel_rfl) rfl rfl rfl (fun _ _ h => h) h31 ?_;show AI _ _ _ _ _ _ #[true, true, true, true, true, true, true, true, true, true, true, true, true, true, true, true, true, true, true, true, true, true, true, true, true, true, true, true, true, true, true, true, true, true, true, true, true, true, true, true, false, false, false, false, false, false, false, false, false, false, false, false] _;refine bL (i := 40) rfl rfl (by kernel_rfl) (by kernel_rfl) (by kernel_rfl) rfl rfl rfl (fun _ _ h => h) h31 ?_;show AI _ _ _ _ _ _ #[true, true, true, true, true, true, true, true, true, true, true, true, true, true, true, true, true, true, true, true, true, true, true, true, true, true, true, true, true, true, true, true, true, true, true, true, true, true, true, true, true, false, false, false, false, false, false, false, false, false, false, false] _;refine bL (i := 41) rfl rfl (by kernel_rfl) (by kernel_rfl) (by kernel_rfl) rfl rfl rfl (fun _ _ h => h) h31 ?_
       show AI _ _ _ _ _ _ #[true, true, true, true, true, true, true, true, true, true, true, true, true, true, true, true, true, true, true, true, true, true, true, true, true, true, true, true, true, true, true, true, true, true, true, true, true, true, true, true, true, true, false, false, false, false, false, false, false, false, false, false] _;refine bL (i := 42) rfl rfl (by kernel_rfl) (by kernel_rfl) (by kernel_rfl) rfl rfl rfl (fun _ _ h => h) h31 ?_;show AI _ _ _ _ _ _ #[true, true, true, true, true, true, true, true, true, true, true, true, true, true, true, true, true, true, true, true, true, true, true, true, true, true, true, true, true, true, true, true, true, true, true, true, true, true, true, true, true, true, true, false, false, false, false, false, false, false, false, false] _;refine bL (i := 43) rfl rfl (by kernel_rfl) (by kernel_rfl) (by kernel_rfl) rfl rfl rfl (fun _ _ h => h) h31 ?_;show AI _ _ _ _ _ _ #[true, true, true, true, true, true, true, true, true, true, true, true, true, true, true, true, true, true, true, true, true, true, true, true, true, true, true, true, true, true, true, true, true, true, true, true, true, true, true, true, true, true, true, true, false, false, false, false, false, false, false, false] _;refine bL (i := 44) rfl rfl (by kernel_rfl) (by kernel_rfl) (by kernel_rfl) rfl rfl rfl (fun _ _ h => h) h31 ?_
       show AI _ _ _ _ _ _ #[true, true, true, true, true, true, true, true, true, true, true, true, true, true, true, true, true, true, true, true, true, true, true, true, true, true, true, true, true, true, true, true, true, true, true, true, true, true, true, true, true, true, true, true, true, false, false, false, false, false, false, false] _;refine bL (i := 45) rfl rfl (by kernel_rfl) (by kernel_rfl) (by kernel_rfl) rfl rfl rfl (fun _ _ h => h) h31 ?_;show AI _ _ _ _ _ _ #[true, true, true, true, true, true, true, true, true, true, true, true, true, true, true, true, true, true, true, true, true, true, true, true, true, true, true, true, true, true, true, true, true, true, true, true, true, true, true, true, true, true, true, true, true, true, false, false, false, false, false, false] _;refine bL (i := 46) rfl rfl (by kernel_rfl) (by kernel_rfl) (by kernel_rfl) rfl rfl rfl (fun _ _ h => h) h31 ?_;show AI _ _ _ _ _ _ #[true, true, true, true, true, true, true, true, true, true, true, true, true, true, true, true, true, true, true, true, true, true, true, true, true, true, true, true, true, true, true, true, true, true, true, true, true, true, true, true, true, true, true, true, true, true, true, false, false, false, false, false] _;refine bL (i := 47) rfl rfl (by kernel_rfl) (by kernel_rfl) (by kernel_rfl) rfl rfl rfl (fun _ _ h => h) h31 ?_
       show AI _ _ _ _ _ _ #[true, true, true, true, true, true, true, true, true, true, true, true, true, true, true, true, true, true, true, true, true, true, true, true, true, true, true, true, true, true, true, true, true, true, true, true, true, true, true, true, true, true, true, true, true, true, true, true, false, false, false, false] _;refine bL (i := 48) rfl rfl (by kernel_rfl) (by kernel_rfl) (by kernel_rfl) rfl rfl rfl (fun _ _ h => h) h31 ?_;show AI _ _ _ _ _ _ #[true, true, true, true, true, true, true, true, true, true, true, true, true, true, true, true, true, true, true, true, true, true, true, true, true, true, true, true, true, true, true, true, true, true, true, true, true, true, true, true, true, true, true, true, true, true, true, true, true, false, false, false] _;refine bL (i := 49) rfl rfl (by kernel_rfl) (by kernel_rfl) (by kernel_rfl) rfl rfl rfl (fun _ _ h => h) h31 ?_;show AI _ _ _ _ _ _ #[true, true, true, true, true, true, true, true, true, true, true, true, true, true, true, true, true, true, true, true, true, true, true, true, true, true, true, true, true, true, true, true, true, true, true, true, true, true, true, true, true, true, true, true, true, true, true, true, true, true, false, false] _;refine bL (i := 50) rfl rfl (by kernel_rfl) (by kernel_rfl) (by kernel_rfl) rfl rfl rfl (fun _ _ h => h) h31 ?_
       show AI _ _ _ _ _ _ #[true, true, true, true, true, true, true, true, true, true, true, true, true, true, true, true, true, true, true, true, true, true, true, true, true, true, true, true, true, true, true, true, true, true, true, true, true, true, true, true, true, true, true, true, true, true, true, true, true, true, true, false] _;refine zk 51 rfl (bc (av' := B ((((!decide (x12.1 = x15.1)) || (!decide (x19.2.1 = x22.2.1))) || (!decide (x26.2.2.1 = x29.2.2.1))) || (!decide ((x33.2.2.2.length : Int) = (x36.2.2.2.length : Int))))) (aL (av := .v _) rfl h31 rfl) (az (ky h31))) ?_;show AI _ _ _ _ _ _ #[true, true, true, true, true, true, true, true, true, true, true, true, true, true, true, true, true, true, true, true, true, true, true, true, true, true, true, true, true, true, true, true, true, true, true, true, true, true, true, true, true, true, true, true, true, true, true, true, true, true, true, true] _;exact K51 _ 13 rfl rfl
      ·refine bK (i := 38) rfl rfl (by kernel_rfl) (by kernel_rfl) (by kernel_rfl) rfl rfl rfl (fun _ _ h => h) h31 (ai (av := slE _ _ _) rfl) ?_;show AI _ _ _ _ _ _ #[true, true, true, true, true, true, true, true, true, true, true, true, true, true, true, true, true, true, true, true, true, true, true, true, true, true, true, true, true, true, true, true, true, true, true, true, true, true, true, false, false, false, false, false, false, false, false, false, false, false, false, false] _;refine bK (i := 39) rfl rfl (by kernel_rfl) (by kernel_rfl) (by kernel_rfl) rfl rfl rfl (fun _ _ h => h) h31 (mv rfl) ?_;show AI _ _ _ _ _ _ #[true, true, true, true, true, true, true, true, true, true, true, true, true, true, true, true, true, true, true, true, true, true, true, true, true, true, true, true, true, true, true, true, true, true, true, true, true, true, true, true, false, false, false, false, false, false, false, false, false, false, false, false] _;refine bK (i := 40) rfl rfl (by kernel_rfl) (by kernel_rfl) (by kernel_rfl) rfl rfl rfl (fun _ _ h => h) h31 (bj (E := (Enc.prod Enc.int (Enc.prod Enc.str (Enc.prod Enc.str (Enc.sl (Enc.prod Enc.str Enc.str)))))) aw (by kernel_rfl) rfl rfl (g32 (nf h31)) e34) ?_
       show AI _ _ _ _ _ _ #[true, true, true, true, true, true, true, true, true, true, true, true, true, true, true, true, true, true, true, true, true, true, true, true, true, true, true, true, true, true, true, true, true, true, true, true, true, true, true, true, true, false, false, false, false, false, false, false, false, false, false, false] _;refine bK (i := 41) rfl rfl (by kernel_rfl) (by kernel_rfl) (by kernel_rfl) rfl rfl rfl (fun _ _ h => h) h31 (aE (n := 3) (by kernel_rfl) rfl (ag rfl)) ?_;show AI _ _ _ _ _ _ #[true, true, true, true, true, true, true, true, true, true, true, true, true, true, true, true, true, true, true, true, true, true, true, true, true, true, true, true, true, true, true, true, true, true, true, true, true, true, true, true, true, true, false, false, false, false, false, false, false, false, false, false] _;refine bK (i := 42) rfl rfl (by kernel_rfl) (by kernel_rfl) (by kernel_rfl) rfl rfl rfl (fun _ _ h => h) h31 (aA aG rfl rfl) ?_;show AI _ _ _ _ _ _ #[true, true, true, true, true, true, true, true, true, true, true, true, true, true, true, true, true, true, true, true, true, true, true, true, true, true, true, true, true, true, true, true, true, true, true, true, true, true, true, true, true, true, true, false, false, false, false, false, false, false, false, false] _;refine bK (i := 43) rfl rfl (by kernel_rfl) (by kernel_rfl) (by kernel_rfl) rfl rfl rfl (fun _ _ h => h) h31 (aV aG rfl) ?_
       show AI _ _ _ _ _ _ #[true, true, true, true, true, true, true, true, true, true, true, true, true, true, true, true, true, true, true, true, true, true, true, true, true, true, true, true, true, true, true, true, true, true, true, true, true, true, true, true, true, true, true, true, false, false, false, false, false, false, false, false] _;refine bK (i := 44) rfl rfl (by kernel_rfl) (by kernel_rfl) (by kernel_rfl) rfl rfl rfl (fun _ _ h => h) h31 (ai (av := slE _ _ _) rfl) ?_;show AI _ _ _ _ _ _ #[true, true, true, true, true, true, true, true, true, true, true, true, true, true, true, true, true, true, true, true, true, true, true, true, true, true, true, true, true, true, true, true, true, true, true, true, true, true, true, true, true, true, true, true, true, false, false, false, false, false, false, false] _;refine bK (i := 45) rfl rfl (by kernel_rfl) (by kernel_rfl) (by kernel_rfl) rfl rfl rfl (fun _ _ h => h) h31 (mv rfl) ?_;show AI _ _ _ _ _ _ #[true, true, true, true, true, true, true, true, true, true, true, true, true, true, true, true, true, true, true, true, true, true, true, true, true, true, true, true, true, true, true, true, true, true, true, true, true, true, true, true, true, true, true, true, true, true, false, false, false, false, false, false] _;refine bK (i := 46) rfl rfl (by kernel_rfl) (by kernel_rfl) (by kernel_rfl) rfl rfl rfl (fun _ _ h => h) h31 (bj (E := (Enc.prod Enc.int (Enc.prod Enc.str (Enc.prod Enc.str (Enc.sl (Enc.prod Enc.str Enc.str)))))) aw (by kernel_rfl) rfl rfl (g35 (nf h31)) e37) ?_
       show AI _ _ _ _ _ _ #[true, true, true, true, true, true, true, true, true, true, true, true, true, true, true, true, true, true, true, true, true, true, true, true, true, true, true, true, true, true, true, true, true, true, true, true, true, true, true, true, true, true, true, true, true, true, true, false, false, false, false, false] _;refine bK (i := 47) rfl rfl (by kernel_rfl) (by kernel_rfl) (by kernel_rfl) rfl rfl rfl (fun _ _ h => h) h31 (aE (n := 3) (by kernel_rfl) rfl (ag rfl)) ?_;show AI _ _ _ _ _ _ #[true, true, true, true, true, true, true, true, true, true, true, true, true, true, true, true, true, true, true, true, true, true, true, true, true, true, true, true, true, true, true, true, true, true, true, true, true, true, true, true, true, true, true, true, true, true, true, true, false, false, false, false] _;refine bK (i := 48) rfl rfl (by kernel_rfl) (by kernel_rfl) (by kernel_rfl) rfl rfl rfl (fun _ _ h => h) h31 (aA aG rfl rfl) ?_;show AI _ _ _ _ _ _ #[true, true, true, true, true, true, true, true, true, true, true, true, true, true, true, true, true, true, true, true, true, true, true, true, true, true, true, true, true, true, true, true, true, true, true, true, true, true, true, true, true, true, true, true, true, true, true, true, true, false, false, false] _;refine bK (i := 49) rfl rfl (by kernel_rfl) (by kernel_rfl) (by kernel_rfl) rfl rfl rfl (fun _ _ h => h) h31 (aV aG rfl) ?_
       show AI _ _ _ _ _ _ #[true, true, true, true, true, true, true, true, true, true, true, true, true, true, true, true, true, true, true, true, true, true, true, true, true, true, true, true, true, true, true, true, true, true, true, true, true, true, true, true, true, true, true, true, true, true, true, true, true, true, false, false] _;refine bK (i := 50) rfl rfl (by kernel_rfl) (by kernel_rfl) (by kernel_rfl) rfl rfl rfl (fun _ _ h => h) h31 (dh rfl rfl) ?_;show AI _ _ _ _ _ _ #[true, true, true, true, true, true, true, true, true, true, true, true, true, true, true, true, true, true, true, true, true, true, true, true, true, true, true, true, true, true, true, true, true, true, true, true, true, true, true, true, true, true, true, true, true, true, true, true, true, true, true, false] _;refine zk 51 rfl (bc (av' := B ((((!decide (x12.1 = x15.1)) || (!decide (x19.2.1 = x22.2.1))) || (!decide (x26.2.2.1 = x29.2.2.1))) || (!decide ((x33.2.2.2.length : Int) = (x36.2.2.2.length : Int))))) (aJ (av := .v _) rfl h31 rfl) (az (kz h31))) ?_;show AI _ _ _ _ _ _ #[true, true, true, true, true, true, true, true, true, true, true, true, true, true, true, true, true, true, true, true, true, true, true, true, true, true, true, true, true, true, true, true, true, true, true, true, true, true, true, true, true, true, true, true, true, true, true, true, true, true, true, true] _;exact K51 _ 13 rfl rfl
     refine cx rfl <| ax rfl (fun c38 => ?_) (fun c38 => ?_)
     ·replace H := ba c38 H;refine af <| aa ?_;show AR _ _ _ _ _ [0] _;refine za rfl <| ah <| aP ?_;obtain rfl := am H;exact And.intro rfl (Exists.intro _ (Exists.intro _ ⟨aF rfl (.refl _), aK [] rfl, rfl, rfl⟩))
     ·replace H := bb c38 H;refine aC <| af <| aa ?_;show AR _ _ _ _ _ [0] _;refine za rfl <| ah <| aQ <| cJ (X := Nat × Int) (fun (n41, y39) => ⟨[(0, slE (Enc.prod Enc.int (Enc.prod Enc.str (Enc.prod Enc.str (Enc.sl (Enc.prod Enc.str Enc.str))))) a1 q2), (1, slE (Enc.prod Enc.int (Enc.prod Enc.str (Enc.prod Enc.str (Enc.sl (Enc.prod Enc.str Enc.str))))) a3 q4), (5, i64 y7), (6, i64 y39)], [], []⟩) (fun (n41, y39) => kc a1 a3 y7 (dy F a1 a3 n9) n41 y39 = some r5) (fun (n41, y39) => n41) (F, 0) H (aW [] (.cons (.refl _) (.cons (.refl _) (.cons (.refl _) (.cons (.refl _) (.nil _))))) rfl) ?_;rintro ⟨n41, y39⟩ H;obtain ⟨n41, rfl, H⟩ := dz H;replace H : ke a1 a3 y7 (dy F a1 a3 n9) (kc a1 a3 y7 (dy F a1 a3 n9) n41) y39 = some r5 := H
      unfold ke at H
      refine af <| af ?_;obtain ⟨g42, H⟩ := aR H;obtain ⟨x43, e44, H⟩ := bB H;refine aa ?_;show AR _ _ _ _ _ [0, 1, 2, 3, 4, 5, 6, 7] _;refine zm rfl <| zS rfl (ai (av := slE _ _ _) rfl) <| zm rfl <| zS rfl (bj (E := (Enc.prod Enc.int (Enc.prod Enc.str (Enc.prod Enc.str (Enc.sl (Enc.prod Enc.str Enc.str)))))) aw (by kernel_rfl) rfl rfl g42 e44) <| zS rfl (aE (n := 3) (by kernel_rfl) rfl (ag rfl)) <| zS rfl (aA aG rfl rfl) <| zS rfl (aV aG rfl) <| zS rfl (bQ rfl rfl) <| ah <| ax rfl (fun c45 => ?_) (fun c45 => ?_)
      ·replace H := ba c45 H;refine aC <| af <| aQ <| af ?_;obtain ⟨g46, H⟩ := aR H;obtain ⟨x47, e48, H⟩ := bB H;obtain ⟨g49, H⟩ := aR H;obtain ⟨x50, e51, H⟩ := bB H;obtain ⟨g52, H⟩ := aR H;obtain ⟨x53, e54, H⟩ := bB H;obtain ⟨g55, H⟩ := aR H;obtain ⟨x56, e57, H⟩ := bB H;refine bI (by kernel_rfl) ?_;show AI _ _ _ _ _ 17 (Array.replicate 17 false) _;refine zk 0 rfl (ai (av := slE _ _ _) rfl) ?_;show AI _ _ _ _ _ _ #[true, false, false, false, false, false, false, false, false, false, false, false, false, false, false, false, false] _;refine zk 1 rfl (mv rfl) ?_;show AI _ _ _ _ _ _ #[true, true, false, false, false, false, false, false, false, false, false, false, false, false, false, false, false] _;refine zk 2 rfl (bj (E := (Enc.prod Enc.int (Enc.prod Enc.str (Enc.prod Enc.str (Enc.sl (Enc.prod Enc.str Enc.str)))))) aw (by kernel_rfl) rfl rfl g46 e48) ?_;show AI _ _ _ _ _ _ #[true, true, true, false, false, false, false, false, false, false, false, false, false, false, false, false, false] _;refine zk 3 rfl (aE (n := 3) (by kernel_rfl) rfl (ag rfl)) ?_;show AI _ _ _ _ _ _ #[true, true, true, true, false, false, false, false, false, false, false, false, false, false, false, false, false] _;refine zk 4 rfl (aA aG rfl rfl) ?_;show AI _ _ _ _ _ _ #[true, true, true, true, true, false, false, false, false, false, false, false, false, false, false, false, false] _;refine zk 5 rfl (mv rfl) ?_
       show AI _ _ _ _ _ _ #[true, true, true, true, true, true, false, false, false, false, false, false, false, false, false, false, false] _;refine zk 6 rfl (bj (E := (Enc.prod Enc.str Enc.str)) aG (by kernel_rfl) rfl rfl g49 e51) ?_;show AI _ _ _ _ _ _ #[true, true, true, true, true, true, true, false, false, false, false, false, false, false, false, false, false] _;refine zk 7 rfl (cj bZ rfl (n := 2) (by kernel_rfl) rfl (ag rfl)) ?_;show AI _ _ _ _ _ _ #[true, true, true, true, true, true, true, true, false, false, false, false, false, false, false, false, false] _;refine zk 8 rfl (ai (av := slE _ _ _) rfl) ?_;show AI _ _ _ _ _ _ #[true, true, true, true, true, true, true, true, true, false, false, false, false, false, false, false, false] _;refine zk 9 rfl (mv rfl) ?_;show AI _ _ _ _ _ _ #[true, true, true, true, true, true, true, true, true, true, false, false, false, false, false, false, false] _;refine zk 10 rfl (bj (E := (Enc.prod Enc.int (Enc.prod Enc.str (Enc.prod Enc.str (Enc.sl (Enc.prod Enc.str Enc.str)))))) aw (by kernel_rfl) rfl rfl g52 e54) ?_;show AI _ _ _ _ _ _ #[true, true, true, true, true, true, true, true, true, true, true, false, false, false, false, false, false] _;refine zk 11 rfl (aE (n := 3) (by kernel_rfl) rfl (ag rfl)) ?_;show AI _ _ _ _ _ _ #[true, true, true, true, true, true, true, true, true, true, true, true, false, false, false, false, false] _;refine zk 12 rfl (aA aG rfl rfl) ?_
       show AI _ _ _ _ _ _ #[true, true, true, true, true, true, true, true, true, true, true, true, true, false, false, false, false] _;refine zk 13 rfl (mv rfl) ?_;show AI _ _ _ _ _ _ #[true, true, true, true, true, true, true, true, true, true, true, true, true, true, false, false, false] _;refine zk 14 rfl (bj (E := (Enc.prod Enc.str Enc.str)) aG (by kernel_rfl) rfl rfl g55 e57) ?_;show AI _ _ _ _ _ _ #[true, true, true, true, true, true, true, true, true, true, true, true, true, true, true, false, false] _;refine zk 15 rfl (cj bZ rfl (n := 2) (by kernel_rfl) rfl (ag rfl)) ?_;show AI _ _ _ _ _ _ #[true, true, true, true, true, true, true, true, true, true, true, true, true, true, true, true, false] _;refine zk 16 rfl (mm (r := (decide (x50.1 = x56.1)) && (decide (x50.2 = x56.2))) (.inr rfl) bZ (by kernel_rfl) (by kernel_rfl) (by kernel_rfl) rfl rfl rfl (by simp only [List.all_cons, List.all_nil, id, vc, Bool.and_true])) ?_;show AI _ _ _ _ _ _ #[true, true, true, true, true, true, true, true, true, true, true, true, true, true, true, true, true] _;refine cx rfl <| ax rfl (fun c58 => ?_) (fun c58 => ?_)
       ·replace H := ba c58 H;refine af <| aa ?_;show AR _ _ _ _ _ [0] _;refine za rfl <| ah <| aP ?_;obtain rfl := am H;exact And.intro rfl (Exists.intro _ (Exists.intro _ ⟨aF rfl (.refl _), aK [] rfl, rfl, rfl⟩))
       ·replace H := bb c58 H;refine aC ?_;obtain ⟨g59, H⟩ := aR H;refine aa ?_;show AR _ _ _ _ _ [0, 1, 2] _;refine zm rfl <| zS rfl (cH rfl rfl g59) <| za rfl <| ah ?_;exact Exists.intro (n41, y39 + 1) ⟨H, Nat.lt_succ_self _, aW [] (.cons (.refl _) (.cons (.refl _) (.cons (.refl _) (.cons (.refl _) (.nil _))))) rfl⟩
      ·replace H := bb c45 H;refine cf ?_;exact Exists.intro () ⟨H, aW [] (.cons (.refl _) (.cons (.refl _) (.cons (.refl _) (.nil _)))) rfl⟩
    rintro _ H;replace H : iq y7 (dy F a1 a3 n9) = some r5 := H
    unfold iq at H
    obtain ⟨g61, H⟩ := aR H;refine aa ?_;show AR _ _ _ _ _ [0, 1, 2] _;refine zm rfl <| zS rfl (cH rfl rfl g61) <| za rfl <| ah ?_;exact Exists.intro (n9, y7 + 1) ⟨H, Nat.lt_succ_self _, aW [] (.cons (.refl _) (.cons (.refl _) (.cons (.refl _) (.nil _)))) rfl⟩
   ·replace H := bb c10 H;refine cf ?_;exact Exists.intro () ⟨H, aW [] (.nil _) rfl⟩
  rintro _ H;replace H : ir = some r5 := H
  unfold ir at H
  refine af <| aa ?_;show AR _ _ _ _ _ [0] _;refine za rfl <| ah <| aP ?_;obtain rfl := am H;exact And.intro rfl (Exists.intro _ (Exists.intro _ ⟨aF rfl (.refl _), aK [] rfl, rfl, rfl⟩))
set_option maxRecDepth 100000 in
set_option maxHeartbeats 1000000 in
theorem qb (F : Nat) (r1 : Bool) (H : iJ F = some r1) : ACalls Tryz.prog 9 [] [] (Ret (B r1) []) := by
 unfold iJ at H
 refine ay Tryz.func9 rfl rfl ?_;show AW _ _ 39 _ _ _;refine af <| aa ?_;show AR _ _ _ _ _ [0] _;refine za rfl <| ah <| af ?_;obtain ⟨x3, x4, e5, H⟩ := cU H;refine aa ?_;show AR _ _ _ _ _ [0, 1, 2, 3, 4, 5, 6, 7] _;refine zX rfl (um (E := Enc.byte) (bytes := 1) (xs := [.const _, .const _, .const _, .const _, .const _, .const _, .const _, .const _, .const _, .const _, .const _, .const _, .const _, .const _, .const _, .const _] ++ [.const _, .const _, .const _, .const _, .const _, .const _, .const _]) (l := ([60, 97, 32, 98, 61, 34, 49, 34, 62, 120, 38, 97, 109, 112, 59, 60] ++ [99, 47, 62, 60, 47, 97, 62] : List UInt8)) aj (by kernel_rfl) rfl rfl (by decide) rfl rfl) ?_;rintro _ _ ⟨t2, rfl, rfl⟩;refine zR rfl (qh 0 aj bA rfl (by simp) rfl) <| ap rfl rfl (aI rfl wP rfl (iI F ([60, 97, 32, 98, 61, 34, 49, 34, 62, 120, 38, 97, 109, 112, 59, 60] ++ [99, 47, 62, 60, 47, 97, 62] : List UInt8) (some t2) x3 x4 e5) ?_);refine zS rfl (ai (av := .tup _) rfl) <| zS rfl (aM (av := slE _ _ _) rfl rfl) <| zS rfl (aM (av := .v _) rfl rfl) <| zS rfl (aO (av := slE _ _ _) rfl) <| za rfl <| ah <| af <| aa ?_;show AR _ _ _ _ _ [0, 1, 2, 3, 4, 5, 6, 7, 8] _
 refine zS rfl (fi (zs := [.string ⟨#[]⟩, .string ⟨#[]⟩]) (ps := [(0, 1), (1, 1)]) (cs := [S ([98] : List UInt8), S ([49] : List UInt8)]) (by kernel_rfl) rfl rfl) <| zR rfl (ej (E := (Enc.prod Enc.str Enc.str)) (bytes := 32) (zs := [.string ⟨#[]⟩, .string ⟨#[]⟩]) (l := ([(([98] : List UInt8), ([49] : List UInt8))] : List ((List UInt8) × List UInt8))) aG (by kernel_rfl) (by kernel_rfl) rfl rfl rfl rfl rfl) <| zS rfl (fi (zs := [.int .i64 0, .string ⟨#[]⟩, .string ⟨#[]⟩, .slice none 0 0]) (ps := [(0, 1), (1, 1), (2, 1), (3, 1)]) (cs := [i64 0, S ([97] : List UInt8), S ([] : List UInt8), slE (Enc.prod Enc.str Enc.str) ([(([98] : List UInt8), ([49] : List UInt8))] : List ((List UInt8) × List UInt8)) none]) (by kernel_rfl) rfl rfl) <| zS rfl (fi (zs := [.int .i64 0, .string ⟨#[]⟩, .string ⟨#[]⟩, .slice none 0 0]) (ps := [(0, 1), (1, 1), (2, 1), (3, 1)]) (cs := [i64 2, S ([] : List UInt8), S ([120, 38] : List UInt8), ab]) (by kernel_rfl) rfl rfl) <| zS rfl (fi (zs := [.int .i64 0, .string ⟨#[]⟩, .string ⟨#[]⟩, .slice none 0 0]) (ps := [(0, 1), (1, 1), (2, 1), (3, 1)]) (cs := [i64 0, S ([99] : List UInt8), S ([] : List UInt8), ab]) (by kernel_rfl) rfl rfl) <| zS rfl (fi (zs := [.int .i64 0, .string ⟨#[]⟩, .string ⟨#[]⟩, .slice none 0 0]) (ps := [(0, 1), (1, 1), (2, 1), (3, 1)]) (cs := [i64 1, S ([99] : List UInt8), S ([] : List UInt8), ab]) (by kernel_rfl) rfl rfl) <| zS rfl (fi (zs := [.int .i64 0, .string ⟨#[]⟩, .string ⟨#[]⟩, .slice none 0 0]) (ps := [(0, 1), (1, 1), (2, 1), (3, 1)]) (cs := [i64 1, S ([97] : List UInt8), S ([] : List UInt8), ab]) (by kernel_rfl) rfl rfl) <| zR rfl (fc (ds := [i64 2, S ([] : List UInt8), S ([120, 38] : List UInt8), slE (Enc.prod Enc.str Enc.str) ([] : List ((List UInt8) × List UInt8)) none]) 14 (.cons (.refl _) (.cons (.refl _) (.cons (.refl _) (.cons (.nil _) (.nil))))) (hc := rfl) <| fc (ds := [i64 0, S ([99] : List UInt8), S ([] : List UInt8), slE (Enc.prod Enc.str Enc.str) ([] : List ((List UInt8) × List UInt8)) none]) 15 (.cons (.refl _) (.cons (.refl _) (.cons (.refl _) (.cons (.nil _) (.nil))))) (hc := rfl) <| fc (ds := [i64 1, S ([99] : List UInt8), S ([] : List UInt8), slE (Enc.prod Enc.str Enc.str) ([] : List ((List UInt8) × List UInt8)) none]) 16 (.cons (.refl _) (.cons (.refl _) (.cons (.refl _) (.cons (.nil _) (.nil))))) (hc := rfl) <| fc (ds := [i64 1, S ([97] : List UInt8), S ([] : List UInt8), slE (Enc.prod Enc.str Enc.str) ([] : List ((List UInt8) × List UInt8)) none]) 17 (.cons (.refl _) (.cons (.refl _) (.cons (.refl _) (.cons (.nil _) (.nil))))) (hc := rfl) <| ej (E := (Enc.prod Enc.int (Enc.prod Enc.str (Enc.prod Enc.str (Enc.sl (Enc.prod Enc.str Enc.str)))))) (bytes := 64) (zs := [.int .i64 0, .string ⟨#[]⟩, .string ⟨#[]⟩, .slice none 0 0]) (l := ([(0, ([97] : List UInt8), ([] : List UInt8), ([(([98] : List UInt8), ([49] : List UInt8))] : List ((List UInt8) × List UInt8))), (2, ([] : List UInt8), ([120, 38] : List UInt8), ([] : List ((List UInt8) × List UInt8))), (0, ([99] : List UInt8), ([] : List UInt8), ([] : List ((List UInt8) × List UInt8))), (1, ([99] : List UInt8), ([] : List UInt8), ([] : List ((List UInt8) × List UInt8))), (1, ([97] : List UInt8), ([] : List UInt8), ([] : List ((List UInt8) × List UInt8)))] : List (Int × (List UInt8) × (List UInt8) × List ((List UInt8) × List UInt8)))) aw (by kernel_rfl) (by kernel_rfl) rfl rfl rfl rfl rfl) <| zS rfl (aO (av := slE _ _ _) rfl) <| ah <| af ?_
 obtain ⟨x6, e7, H⟩ := ep H;refine aa ?_;show AR _ _ _ _ _ [0, 1, 2, 3] _;refine zS rfl (ai (av := slE _ _ _) rfl) <| zS rfl (ai (av := slE _ _ _) rfl) <| ap rfl rfl (aI rfl wK rfl (rH F x3 none ([(0, ([97] : List UInt8), ([] : List UInt8), ([(([98] : List UInt8), ([49] : List UInt8))] : List ((List UInt8) × List UInt8))), (2, ([] : List UInt8), ([120, 38] : List UInt8), ([] : List ((List UInt8) × List UInt8))), (0, ([99] : List UInt8), ([] : List UInt8), ([] : List ((List UInt8) × List UInt8))), (1, ([99] : List UInt8), ([] : List UInt8), ([] : List ((List UInt8) × List UInt8))), (1, ([97] : List UInt8), ([] : List UInt8), ([] : List ((List UInt8) × List UInt8)))] : List (Int × (List UInt8) × (List UInt8) × List ((List UInt8) × List UInt8))) none x6 e7) ?_);refine za rfl <| ah <| af ?_;obtain ⟨x10, e11, H⟩ := eX H;obtain ⟨x13, e14, H⟩ := eX H;obtain ⟨x16, e17, H⟩ := eX H;refine aa ?_;show AR _ _ _ _ _ [0, 1, 2, 3, 4, 5, 6, 7, 8, 9, 10, 11, 12, 13, 14, 15, 16, 17] _;refine zm rfl <| zS rfl (bR rfl rfl) <| zm rfl <| bi (l := [5, 6, 7, 8, 9, 10, 11, 12, 13, 14, 15, 16, 17]) 26 (B ((decide (x4 = 0)) && x6)) (fun K => ?_) ?_
 ·rcases ao (decide (x4 = 0)) with h8 | h8
  ·refine zM h8 rfl <| zS rfl (aL (av := .v _) rfl h8 rfl) ?_;exact K _ 1 _ (az (cQ h8)) rfl rfl
  ·refine zF h8 rfl <| zS rfl (aJ (av := .v _) rfl h8 rfl) ?_;exact K _ 1 _ (az (cR h8)) rfl rfl
 refine zm rfl <| bi (l := [8, 9, 10, 11, 12, 13, 14, 15, 16, 17]) 29 (B (((decide (x4 = 0)) && x6) && x10)) (fun K => ?_) ?_
 ·rcases ao ((decide (x4 = 0)) && x6) with h9 | h9
  ·refine zT h9 rfl (aI rfl wA rfl (nK F ([97, 58, 98] : List UInt8) x10 (e11 h9)) ?_);refine zS rfl (aL (av := .v _) rfl h9 rfl) ?_;exact K _ 1 _ (az (cQ h9)) rfl rfl
  ·refine zF h9 rfl <| zS rfl (aJ (av := .v _) rfl h9 rfl) ?_;exact K _ 1 _ (az (cR h9)) rfl rfl
 refine zm rfl <| bi (l := [12, 13, 14, 15, 16, 17]) 33 (B ((((decide (x4 = 0)) && x6) && x10) && (decide (x13 = ([98] : List UInt8))))) (fun K => ?_) ?_
 ·rcases ao (((decide (x4 = 0)) && x6) && x10) with h12 | h12
  ·refine zT h12 rfl (aI rfl wz rfl (tY F ([97, 58, 98] : List UInt8) x13 (e14 h12)) ?_);refine zU h12 rfl (fT rfl rfl) <| zS rfl (aL (av := .v _) rfl h12 rfl) ?_;exact K _ 2 _ (az (cQ h12)) rfl rfl
  ·refine zF h12 rfl <| zF h12 rfl <| zS rfl (aJ (av := .v _) rfl h12 rfl) ?_;exact K _ 2 _ (az (cR h12)) rfl rfl
 refine zm rfl <| bi (l := [17]) 38 (B (((((decide (x4 = 0)) && x6) && x10) && (decide (x13 = ([98] : List UInt8)))) && x16)) (fun K => ?_) ?_
 ·rcases ao ((((decide (x4 = 0)) && x6) && x10) && (decide (x13 = ([98] : List UInt8)))) with h15 | h15
  ·refine zU h15 rfl (ai (av := slE _ _ _) rfl) <| zU h15 rfl (ai (av := slE _ _ _) rfl) <| zT h15 rfl (aI rfl wH rfl (lJ F x3 none ([(0, ([97] : List UInt8), ([] : List UInt8), ([(([98] : List UInt8), ([49] : List UInt8))] : List ((List UInt8) × List UInt8))), (2, ([] : List UInt8), ([120, 38] : List UInt8), ([] : List ((List UInt8) × List UInt8))), (0, ([99] : List UInt8), ([] : List UInt8), ([] : List ((List UInt8) × List UInt8))), (1, ([99] : List UInt8), ([] : List UInt8), ([] : List ((List UInt8) × List UInt8))), (1, ([97] : List UInt8), ([] : List UInt8), ([] : List ((List UInt8) × List UInt8)))] : List (Int × (List UInt8) × (List UInt8) × List ((List UInt8) × List UInt8))) none x16 (e17 h15)) ?_);refine zS rfl (aL (av := .v _) rfl h15 rfl) ?_;exact K _ 3 _ (az (cQ h15)) rfl rfl
  ·refine zF h15 rfl <| zF h15 rfl <| zF h15 rfl <| zS rfl (aJ (av := .v _) rfl h15 rfl) ?_;exact K _ 3 _ (az (cR h15)) rfl rfl
 refine za rfl <| ah <| aP ?_;obtain rfl := am H;exact And.intro rfl (Exists.intro _ (Exists.intro _ ⟨aF rfl (.refl _), aK [] rfl, rfl, rfl⟩))
set_option maxRecDepth 100000 in
set_option maxHeartbeats 1000000 in
theorem sD (F : Nat) (a1 : List (Int × (List UInt8) × (List UInt8) × List ((List UInt8) × List UInt8))) (q2 : Option Nat) (a3 : Int) (r4 : Bool) (H : jn F a1 a3 = some r4) : ACalls Tryz.prog 14 [slE (Enc.prod Enc.int (Enc.prod Enc.str (Enc.prod Enc.str (Enc.sl (Enc.prod Enc.str Enc.str))))) a1 q2, i64 a3] [] (Ret (B r4) []) := by
 unfold jn at H
 refine ay Tryz.func14 rfl rfl ?_;show AW _ _ 76 _ _ _;refine af <| aa ?_;show AR _ _ _ _ _ [0] _;refine za rfl <| ah <| af <| af <| aa ?_;show AR _ _ _ _ _ [0, 1, 2, 3] _;refine zS rfl (ai (av := slE _ _ _) rfl) <| zS rfl (aV aw rfl) <| zm rfl <| zS rfl (fw rfl rfl) <| ah <| ax rfl (fun c5 => ?_) (fun c5 => ?_)
 ·replace H := ba c5 H;refine af <| aa ?_;show AR _ _ _ _ _ [0] _;refine za rfl <| ah <| aP ?_;obtain rfl := am H;exact And.intro rfl (Exists.intro _ (Exists.intro _ ⟨aF rfl (.refl _), aK [] rfl, rfl, rfl⟩))
 ·replace H := bb c5 H;refine aC <| bw (X := Unit) (fun _ => ⟨[], [], []⟩) (fun _ => ji = some r4) ?_ ?_
  ·refine af <| aa ?_;show AR _ _ _ _ _ [0] _;refine za rfl <| ah <| aQ <| cJ (X := Nat × Int) (fun (n8, y6) => ⟨[(0, slE (Enc.prod Enc.int (Enc.prod Enc.str (Enc.prod Enc.str (Enc.sl (Enc.prod Enc.str Enc.str))))) a1 q2), (5, i64 y6)], [], []⟩) (fun (n8, y6) => cM F a1 n8 y6 = some r4) (fun (n8, y6) => n8) (F, 0) H (aW [] (.cons (.refl _) (.cons (.refl _) (.nil _))) rfl) ?_;rintro ⟨n8, y6⟩ H;obtain ⟨n8, rfl, H⟩ := dz H;replace H : gW F a1 (cM F a1 n8) y6 = some r4 := H
   unfold gW at H
   refine af <| af <| aa ?_;show AR _ _ _ _ _ [0, 1, 2, 3] _;refine zm rfl <| zS rfl (ai (av := slE _ _ _) rfl) <| zS rfl (aV aw rfl) <| zS rfl (bQ rfl rfl) <| ah <| ax rfl (fun c9 => ?_) (fun c9 => ?_)
   ·replace H := ba c9 H;refine aC <| bw (X := Unit) (fun _ => ⟨[(0, slE (Enc.prod Enc.int (Enc.prod Enc.str (Enc.prod Enc.str (Enc.sl (Enc.prod Enc.str Enc.str))))) a1 q2), (5, i64 y6)], [], []⟩) (fun _ => fN y6 (cM F a1 n8) = some r4) ?_ ?_
    ·refine aQ <| af <| af ?_;obtain ⟨g10, H⟩ := aR H;obtain ⟨x11, e12, H⟩ := bB H;obtain ⟨g14, H⟩ := cC H;obtain ⟨x15, e16, H⟩ := bB H;obtain ⟨g18, H⟩ := cC H;obtain ⟨x19, e20, H⟩ := bB H;refine aa ?_;show AR _ _ _ _ _ [0, 1, 2, 3, 4, 5, 6, 7, 8, 9, 10, 11, 12, 13, 14, 15, 16, 17, 18, 19, 20, 21, 22, 23, 24] _;refine zS rfl (ai (av := slE _ _ _) rfl) <| zm rfl <| zS rfl (bj (E := (Enc.prod Enc.int (Enc.prod Enc.str (Enc.prod Enc.str (Enc.sl (Enc.prod Enc.str Enc.str)))))) aw (by kernel_rfl) rfl rfl g10 e12) <| zS rfl (aE (n := 1) (by kernel_rfl) rfl (ag rfl)) <| zS rfl (aA ac rfl rfl) <| zS rfl (aZ ac rfl) <| zS rfl (fw rfl rfl) <| zm rfl <| bi (l := [16, 17, 18, 19, 20, 21, 22, 23, 24]) 32 (B ((decide (200 < (x11.2.1.length : Int))) || (decide (200 < (x15.2.2.1.length : Int))))) (fun K => ?_) ?_
     ·rcases ao (decide (200 < (x11.2.1.length : Int))) with h13 | h13
      ·refine zF h13 rfl <| zF h13 rfl <| zF h13 rfl <| zF h13 rfl <| zF h13 rfl <| zF h13 rfl <| zF h13 rfl <| zS rfl (aL (av := .v _) rfl h13 rfl) ?_;exact K _ 7 _ (az (ky h13)) rfl rfl
      ·refine zU h13 rfl (ai (av := slE _ _ _) rfl) <| zM h13 rfl <| zU h13 rfl (bj (E := (Enc.prod Enc.int (Enc.prod Enc.str (Enc.prod Enc.str (Enc.sl (Enc.prod Enc.str Enc.str)))))) aw (by kernel_rfl) rfl rfl (g14 (nf h13)) e16) <| zU h13 rfl (aE (n := 2) (by kernel_rfl) rfl (ag rfl)) <| zU h13 rfl (aA ac rfl rfl) <| zU h13 rfl (aZ ac rfl) <| zU h13 rfl (fw rfl rfl) <| zS rfl (aJ (av := .v _) rfl h13 rfl) ?_;exact K _ 7 _ (az (kz h13)) rfl rfl
     refine zm rfl <| bi (l := []) 41 (B (((decide (200 < (x11.2.1.length : Int))) || (decide (200 < (x15.2.2.1.length : Int)))) || (decide (10 < (x19.2.2.2.length : Int))))) (fun K => ?_) ?_
     ·rcases ao ((decide (200 < (x11.2.1.length : Int))) || (decide (200 < (x15.2.2.1.length : Int)))) with h17 | h17
      ·refine zF h17 rfl <| zF h17 rfl <| zF h17 rfl <| zF h17 rfl <| zF h17 rfl <| zF h17 rfl <| zF h17 rfl <| zS rfl (aL (av := .v _) rfl h17 rfl) ?_;exact K _ 7 _ (az (ky h17)) rfl rfl
      ·refine zU h17 rfl (ai (av := slE _ _ _) rfl) <| zM h17 rfl <| zU h17 rfl (bj (E := (Enc.prod Enc.int (Enc.prod Enc.str (Enc.prod Enc.str (Enc.sl (Enc.prod Enc.str Enc.str)))))) aw (by kernel_rfl) rfl rfl (g18 (nf h17)) e20) <| zU h17 rfl (aE (n := 3) (by kernel_rfl) rfl (ag rfl)) <| zU h17 rfl (aA aG rfl rfl) <| zU h17 rfl (aV aG rfl) <| zU h17 rfl (fw rfl rfl) <| zS rfl (aJ (av := .v _) rfl h17 rfl) ?_;exact K _ 7 _ (az (kz h17)) rfl rfl
     refine ah <| ax rfl (fun c21 => ?_) (fun c21 => ?_)
     ·replace H := ba c21 H;refine af <| aa ?_;show AR _ _ _ _ _ [0] _;refine za rfl <| ah <| aP ?_;obtain rfl := am H;exact And.intro rfl (Exists.intro _ (Exists.intro _ ⟨aF rfl (.refl _), aK [] rfl, rfl, rfl⟩))
     ·replace H := bb c21 H;refine aC <| af <| aa ?_;show AR _ _ _ _ _ [0] _;refine za rfl <| ah <| aQ <| cJ (X := Nat × Int) (fun (n24, y22) => ⟨[(0, slE (Enc.prod Enc.int (Enc.prod Enc.str (Enc.prod Enc.str (Enc.sl (Enc.prod Enc.str Enc.str))))) a1 q2), (5, i64 y6), (6, i64 y22)], [], []⟩) (fun (n24, y22) => gV a1 y6 (cM F a1 n8) n24 y22 = some r4) (fun (n24, y22) => n24) (F, 0) H (aW [] (.cons (.refl _) (.cons (.refl _) (.cons (.refl _) (.nil _)))) rfl) ?_;rintro ⟨n24, y22⟩ H;obtain ⟨n24, rfl, H⟩ := dz H;replace H : gX a1 y6 (cM F a1 n8) (gV a1 y6 (cM F a1 n8) n24) y22 = some r4 := H
      unfold gX at H
      refine af <| af ?_;obtain ⟨g25, H⟩ := aR H;obtain ⟨x26, e27, H⟩ := bB H;refine aa ?_;show AR _ _ _ _ _ [0, 1, 2, 3, 4, 5, 6, 7] _;refine zm rfl <| zS rfl (ai (av := slE _ _ _) rfl) <| zm rfl <| zS rfl (bj (E := (Enc.prod Enc.int (Enc.prod Enc.str (Enc.prod Enc.str (Enc.sl (Enc.prod Enc.str Enc.str)))))) aw (by kernel_rfl) rfl rfl g25 e27) <| zS rfl (aE (n := 3) (by kernel_rfl) rfl (ag rfl)) <| zS rfl (aA aG rfl rfl) <| zS rfl (aV aG rfl) <| zS rfl (bQ rfl rfl) <| ah <| ax rfl (fun c28 => ?_) (fun c28 => ?_)
      ·replace H := ba c28 H;refine aC <| af <| aQ <| af ?_;obtain ⟨g29, H⟩ := aR H;obtain ⟨x30, e31, H⟩ := bB H;obtain ⟨g32, H⟩ := aR H;obtain ⟨x33, e34, H⟩ := bB H;obtain ⟨g36, H⟩ := cC H;obtain ⟨x37, e38, H⟩ := bB H;obtain ⟨g39, H⟩ := cC H;obtain ⟨x40, e41, H⟩ := bB H;refine aa ?_;show AR _ _ _ _ _ [0, 1, 2, 3, 4, 5, 6, 7, 8, 9, 10, 11, 12, 13, 14, 15, 16, 17, 18, 19, 20, 21, 22, 23] _;refine zS rfl (ai (av := slE _ _ _) rfl) <| zm rfl <| zS rfl (bj (E := (Enc.prod Enc.int (Enc.prod Enc.str (Enc.prod Enc.str (Enc.sl (Enc.prod Enc.str Enc.str)))))) aw (by kernel_rfl) rfl rfl g29 e31) <| zS rfl (aE (n := 3) (by kernel_rfl) rfl (ag rfl)) <| zS rfl (aA aG rfl rfl) <| zm rfl <| zS rfl (bj (E := (Enc.prod Enc.str Enc.str)) aG (by kernel_rfl) rfl rfl g32 e34) <| zS rfl (aE (n := 0) (by kernel_rfl) rfl (ag rfl)) <| zS rfl (aA ac rfl rfl) <| zS rfl (aZ ac rfl) <| zS rfl (fw rfl rfl) <| zm rfl <| bi (l := []) 75 (B ((decide (200 < (x33.1.length : Int))) || (decide (200 < (x40.2.length : Int))))) (fun K => ?_) ?_
       ·rcases ao (decide (200 < (x33.1.length : Int))) with h35 | h35
        ·refine zF h35 rfl <| zF h35 rfl <| zF h35 rfl <| zF h35 rfl <| zF h35 rfl <| zF h35 rfl <| zF h35 rfl <| zF h35 rfl <| zF h35 rfl <| zF h35 rfl <| zF h35 rfl <| zS rfl (aL (av := .v _) rfl h35 rfl) ?_;exact K _ 11 _ (az (ky h35)) rfl rfl
        ·refine zU h35 rfl (ai (av := slE _ _ _) rfl) <| zM h35 rfl <| zU h35 rfl (bj (E := (Enc.prod Enc.int (Enc.prod Enc.str (Enc.prod Enc.str (Enc.sl (Enc.prod Enc.str Enc.str)))))) aw (by kernel_rfl) rfl rfl (g36 (nf h35)) e38) <| zU h35 rfl (aE (n := 3) (by kernel_rfl) rfl (ag rfl)) <| zU h35 rfl (aA aG rfl rfl) <| zM h35 rfl <| zU h35 rfl (bj (E := (Enc.prod Enc.str Enc.str)) aG (by kernel_rfl) rfl rfl (g39 (nf h35)) e41) <| zU h35 rfl (aE (n := 1) (by kernel_rfl) rfl (ag rfl)) <| zU h35 rfl (aA ac rfl rfl) <| zU h35 rfl (aZ ac rfl) <| zU h35 rfl (fw rfl rfl) <| zS rfl (aJ (av := .v _) rfl h35 rfl) ?_;exact K _ 11 _ (az (kz h35)) rfl rfl
       refine ah <| ax rfl (fun c42 => ?_) (fun c42 => ?_)
       ·replace H := ba c42 H;refine af <| aa ?_;show AR _ _ _ _ _ [0] _;refine za rfl <| ah <| aP ?_;obtain rfl := am H;exact And.intro rfl (Exists.intro _ (Exists.intro _ ⟨aF rfl (.refl _), aK [] rfl, rfl, rfl⟩))
       ·replace H := bb c42 H;refine aC ?_;obtain ⟨g43, H⟩ := aR H;refine aa ?_;show AR _ _ _ _ _ [0, 1, 2] _;refine zm rfl <| zS rfl (cH rfl rfl g43) <| za rfl <| ah ?_;exact Exists.intro (n24, y22 + 1) ⟨H, Nat.lt_succ_self _, aW [] (.cons (.refl _) (.cons (.refl _) (.cons (.refl _) (.nil _)))) rfl⟩
      ·replace H := bb c28 H;refine cf ?_;exact Exists.intro () ⟨H, aW [] (.cons (.refl _) (.cons (.refl _) (.nil _))) rfl⟩
    rintro _ H;replace H : fN y6 (cM F a1 n8) = some r4 := H
    unfold fN at H
    obtain ⟨g45, H⟩ := aR H;refine aa ?_;show AR _ _ _ _ _ [0, 1, 2] _;refine zm rfl <| zS rfl (cH rfl rfl g45) <| za rfl <| ah ?_;exact Exists.intro (n8, y6 + 1) ⟨H, Nat.lt_succ_self _, aW [] (.cons (.refl _) (.cons (.refl _) (.nil _))) rfl⟩
   ·replace H := bb c9 H;refine cf ?_;exact Exists.intro () ⟨H, aW [] (.nil _) rfl⟩
  rintro _ H;replace H : ji = some r4 := H
  unfold ji at H
  refine af <| aa ?_;show AR _ _ _ _ _ [0] _;refine za rfl <| ah <| aP ?_;obtain rfl := am H;exact And.intro rfl (Exists.intro _ (Exists.intro _ ⟨aF rfl (.refl _), aK [] rfl, rfl, rfl⟩))
end Go.Proofs.YteokdkimegepoaaGreatDoor
namespace Go.Av
open Go.RowKit
section
variable {P : Program} {A : List Chunk} {e : Env} {x y z : Operand} {d : Option Nat} {pos : String} {after : Array Edge} {g : Option (Nat × Bool)} {f : FuncId} {fn : Func} {ts : Array TypeId} {T2 : TypeId}
structure Ext0 (P : Program) (f : FuncId) (fn : Func) (ext : Array Value → Sem Value) : Prop where
  hf : P.funcs[f]? = some fn
  nm : (fn.name == "runtime.NumGoroutine") = false
  nb : fn.body.isNone = true
  nn : Extern.findNext fn = none
  he : Extern.find fn = some ext
theorem jo {I : Info} {w w' : World} {ρ : Operand → Value} {args : Array Operand} {r : Next} (hρ : ∀ x, Rel I w (opv e x) (ρ x)) (h : (callFunc f (args.map ρ)).run P w = .ok r w') :
    (execOp ρ ⟨d, .call ⟨.value (.func f), args, ts⟩, T2, pos, after, g⟩).run P w = .ok r w' := by
  have h0 := bH (hρ (.func f))
  simp only [execOp, resolve, h0, Deferred.ofValue, Sem.run_bind, Sem.run_pure, Result.andThen_ok, invoke]
  simp only [Array.empty_append, Array.append_empty]
  exact h
theorem nB {I : Info} {w : World} {F : List Chunk} {o off i b : Nat} {cs : List AV} {k : IntKind} {n : Int} (hI : Inv I (A ++ F) w) (hA : A[i]? = some (.obj o cs)) (hc : cs[off]? = some (.v (.int k n))) (ho : I.obj o = some b) :
    w.cell? ⟨b, off, none⟩ = some (.int k n) ∧ w.frozen? ⟨b, off, none⟩ = false := by
  obtain ⟨b', arr, ho', he, hca, hrl⟩ := hI.holds _ (gC hA F)
  rw [ho] at ho'; cases ho'
  have hlt : off < cs.length := (List.getElem?_eq_some_iff.1 hc).1
  have hlt' : off < arr.length := by rw [hrl.1]; exact hlt
  have h0 : w.cell? ⟨b, off, none⟩ = some (arr.getD off undef) := by rw [hca.cell]; simp [List.getD, hlt']
  have hr := hrl.2 off hlt
  rw [(List.getElem?_eq_some_iff.1 hc).2] at hr
  rw [bH hr] at h0
  exact ⟨h0, hca.free hlt'⟩
theorem rO {o off i : Nat} {cs : List AV} {k : IntKind} {n : Int} (h : Ext0 P f fn (Extern.Atomic.loadT (.int k))) (hx : opv e x = .pt o off) (hA : A[i]? = some (.obj o cs)) (hc : cs[off]? = some (.v (.int k n))) :
    OpR P ⟨d, .call ⟨.value (.func f), #[x], ts⟩, T2, pos, after, g⟩ e A (.v (.int k n)) A := fun F I w ρ hI hρ => by
  have hp := hx ▸ hρ x
  generalize e1 : ρ x = v at hp
  cases hp with
  | pt o off b ho =>
    obtain ⟨h1, _⟩ := nB hI hA hc ho;refine ⟨_, _, w, I, jo hρ ?_, .inl rfl, bJ _ _, hI, .v _⟩
    rw [show (#[x].map ρ) = #[ρ x] by simp, e1]
    exact run_call_load h.hf h.nm h.nb h.nn k h.he h1
theorem qi {o off i : Nat} {cs : List AV} {k k' : IntKind} {n m : Int} (h : Ext0 P f fn Extern.Atomic.storeT) (hx : opv e x = .pt o off) (hy : opv e y = .v (.int k' m)) (hA : A[i]? = some (.obj o cs)) (hc : cs[off]? = some (.v (.int k n))) :
    OpR P ⟨d, .call ⟨.value (.func f), #[x, y], ts⟩, T2, pos, after, g⟩ e A (.tup []) (A.set i (.obj o (cs.set off (.v (.int k' m))))) := fun F I w ρ hI hρ => by
  have hp := hx ▸ hρ x
  have hv := bH (hy ▸ hρ y)
  generalize e1 : ρ x = v at hp
  cases hp with
  | pt o off b ho =>
    obtain ⟨h1, h2⟩ := nB hI hA hc ho
    have hI2 := hI.take_at hA
    obtain ⟨E, hI3⟩ := hI2.set_obj ho off (Rel.v (I := I) (w := w) (.int k' m));refine ⟨_, .tuple #[], _, I, jo hρ ?_, .inl rfl, E, dv hA hI3, .tup [] [] rfl (fun j h => absurd h (Nat.not_lt_zero _))⟩
    rw [show (#[x, y].map ρ) = #[ρ x, ρ y] by simp, e1, hv]
    exact run_call_store h.hf h.nm h.nb h.nn h.he h1 h2
theorem sQ {o off i : Nat} {cs : List AV} {k : IntKind} {n m : Int} (h : Ext0 P f fn (Extern.Atomic.casT (.int k))) (hx : opv e x = .pt o off) (hy : opv e y = .v (.int k n)) (hz : opv e z = .v (.int k m)) (hA : A[i]? = some (.obj o cs)) (hc : cs[off]? = some (.v (.int k n))) :
    OpR P ⟨d, .call ⟨.value (.func f), #[x, y, z], ts⟩, T2, pos, after, g⟩ e A (B true) (A.set i (.obj o (cs.set off (.v (.int k m))))) := fun F I w ρ hI hρ => by
  have hp := hx ▸ hρ x
  have hv := bH (hy ▸ hρ y)
  have hu := bH (hz ▸ hρ z)
  generalize e1 : ρ x = v at hp
  cases hp with
  | pt o off b ho =>
    obtain ⟨h1, h2⟩ := nB hI hA hc ho
    have hI2 := hI.take_at hA
    obtain ⟨E, hI3⟩ := hI2.set_obj ho off (Rel.v (I := I) (w := w) (.int k m));refine ⟨_, .bool true, _, I, jo hρ ?_, .inl rfl, E, dv hA hI3, .v _⟩
    rw [show (#[x, y, z].map ρ) = #[ρ x, ρ y, ρ z] by simp, e1, hv, hu]
    exact run_call_cas_hit h.hf h.nm h.nb h.nn k h.he h1 h2
theorem sT {o off i : Nat} {cs : List AV} {k : IntKind} {n m s : Int} (h : Ext0 P f fn (Extern.Atomic.update (Op.intArith .add) k true)) (hx : opv e x = .pt o off) (hy : opv e y = .v (.int k m)) (hA : A[i]? = some (.obj o cs)) (hc : cs[off]? = some (.v (.int k n)))
    (hs : k.wrap (n + m) = s) :
    OpR P ⟨d, .call ⟨.value (.func f), #[x, y], ts⟩, T2, pos, after, g⟩ e A (.v (.int k s)) (A.set i (.obj o (cs.set off (.v (.int k s))))) := fun F I w ρ hI hρ => by
  have hp := hx ▸ hρ x
  have hv := bH (hy ▸ hρ y)
  generalize e1 : ρ x = v at hp
  cases hp with
  | pt o off b ho =>
    obtain ⟨h1, h2⟩ := nB hI hA hc ho
    have hI2 := hI.take_at hA
    obtain ⟨E, hI3⟩ := hI2.set_obj ho off (Rel.v (I := I) (w := w) (.int k s));refine ⟨_, _, _, I, jo hρ ?_, .inl rfl, E, dv hA hI3, .v _⟩
    rw [show (#[x, y].map ρ) = #[ρ x, ρ y] by simp, e1, hv]
    exact run_call_add h.hf h.nm h.nb h.nn k h.he h1 h2 (by subst hs; rfl)
theorem lN (m : Mark) (h : Ext0 P f fn (fun _ => do mark m; pure Extern.Race.none_)) : OpR P ⟨d, .call ⟨.value (.func f), #[], ts⟩, T2, pos, after, g⟩ e A (.tup []) A := fun F I w ρ hI hρ =>
  ⟨_, .tuple #[], w, I, jo hρ (by rw [show (#[].map ρ) = #[] by simp]; exact run_call_mark0 h.hf h.nm h.nb h.nn m h.he w), .inl rfl, bJ _ _, hI, .tup [] [] rfl (fun j h => absurd h (Nat.not_lt_zero _))⟩
theorem qH {o off : Nat} (m : Addr → Mark) (h : Ext0 P f fn (Extern.Race.marked m)) (hx : opv e x = .pt o off) : OpR P ⟨d, .call ⟨.value (.func f), #[x], ts⟩, T2, pos, after, g⟩ e A (.tup []) A := fun F I w ρ hI hρ => by
  have hp := hx ▸ hρ x
  generalize e1 : ρ x = v at hp
  cases hp with
  | pt o off b ho =>
    refine ⟨_, .tuple #[], w, I, jo hρ ?_, .inl rfl, bJ _ _, hI, .tup [] [] rfl (fun j h => absurd h (Nat.not_lt_zero _))⟩
    rw [show (#[x].map ρ) = #[ρ x] by simp, e1]
    exact run_call_marked h.hf h.nm h.nb h.nn m h.he _ w
theorem mV {S T t : TypeId} {o off i : Nat} {cs : List AV} {k : IntKind} {n : Int} (hs : P.underlying S = some (.pointer t)) (hd : P.underlying T = some .unsafePointer) (hsz : (P.info? t).map (fun i => decide (i.size = 0)) = some false)
    (hx : opv e x = .pt o off) (hA : A[i]? = some (.obj o cs)) (hc : cs[off]? = some (.v (.int k n))) : OpR P ⟨d, .convert S T x, T2, pos, after, g⟩ e A (.pt o off) A := fun F I w ρ hI hρ => by
  have hp := hx ▸ hρ x
  generalize e1 : ρ x = v at hp
  cases hp with
  | pt o off b ho =>
    obtain ⟨h1, _⟩ := nB hI hA hc ho;refine ⟨.value (.pointer (some ⟨b, off, none⟩)), _, w, I, ?_, .inl rfl, bJ _ _, hI, .pt o off b ho⟩
    simp only [execOp, e1, Sem.run_bind, run_convert_to_unsafe hs hd hsz h1, Result.andThen_ok, Sem.run_pure]
end
end Go.Av
namespace Go.Av
open Go.RowKit Go.Pv
section
variable {P : Program} {A : List Chunk} {e : Env} {x y z : Operand} {d : Option Nat} {pos : String} {after : Array Edge} {g : Option (Nat × Bool)} {T T' T2 : TypeId} {av av' : AV} {o : Oper}
theorem pO (h : OpS P o e av) (hw : ∀ I w v, Rel I w av v → Rel I w av' v) : OpS P o e av' := fun I w ρ hρ => let ⟨v, hv, k⟩ := h I w ρ hρ; ⟨v, hw I w v hv, k⟩
theorem OpX.still {α : Type} {E : Enc α} {l : List α} {El : TypeId} (h : OpX P o e A (fun av A' => ∃ t, av = slE E l (some t) ∧ A' = .tok t El :: A)) : OpR P o e A (slE E l none) A := fun F I w ρ hI hρ => by
  obtain ⟨n, v, w', I', av, A', a, b, c, hI', hr, t, rfl, rfl⟩ := h F I w ρ hI hρ;exact ⟨n, v, w', I', a, b, c, hI'.sub (List.sublist_cons_self ..), (Wv.tok _ _ _).rel hr⟩
def ob : Option (List UInt8) → AV
  | none => ab
  | some l => slE Enc.byte l none
def Enc.ob : Enc (Option (List UInt8)) := ⟨1, fun z => [Go.Av.ob z], by decide, fun _ => rfl, fun z c h => by simp at h; subst h; cases z <;> rfl⟩
theorem ob_sl (z : Option (List UInt8)) (I : Info) (w : World) (v : Value) (h : Rel I w (ob z) v) : Rel I w (slE Enc.byte (z.getD []) none) v := by
  cases z with
  | some l => exact h
  | none =>
    have := bH h
    subst this;exact .slz _ _ _
theorem px {op : BinOp} {a b : Option Addr} {l c m n : Nat} (w : World) : (eqGuard op T x y (.slice a l c) (.slice b m n)).run P w = .ok () w := by
  unfold eqGuard
  cases op <;> rfl
theorem mY {El : TypeId} {a : Option Addr} {l c : Nat} (hT : P.underlying T = some (.slice El)) (w : World) : (Op.equal T (.slice a l c) (.slice none 0 0)).run P w = .ok a.isNone w := by
  unfold Op.equal
  rw [show Op.maxDepth = 9999 + 1 from rfl, Op.equalIn]
  simp only [Sem.run_bind, run_underlying hT, Result.andThen_ok]
  cases a <;> rfl
theorem mF {op : BinOp} {El : TypeId} {z : Option (List UInt8)} (hop : op = .eql ∨ op = .neq) (hT : P.underlying T = some (.slice El)) (hx : opv e x = ob z) (hy : opv e y = ab) (hz : decide (z ≠ some []) = true) :
    OpS P ⟨d, .binOp op T x y T', T2, pos, after, g⟩ e (B (if op = .eql then z.isNone else !z.isNone)) := fun I w ρ hρ => by
  have h1 := hx ▸ hρ x
  have h2 := bH (hy ▸ hρ y)
  have key : ∃ a l c, ρ x = .slice a l c ∧ a.isNone = z.isNone := by
    cases z with
    | none => exact ⟨none, 0, 0, bH h1, rfl⟩
    | some l =>
      obtain ⟨a, cap, xs, e1, _, _, hor⟩ := li h1;refine ⟨a, _, cap, e1, ?_⟩
      rcases hor with h0 | ⟨b, off, e2, _⟩
      · have : l = [] := List.eq_nil_of_length_eq_zero h0
        subst this
        simp at hz
      · rw [e2]; rfl
  obtain ⟨a, l, c, e1, ha⟩ := key;refine ⟨.bool (if op = .eql then z.isNone else !z.isNone), .v _, fun w' _ _ => ?_⟩
  rcases hop with rfl | rfl
  · simp only [execOp, e1, h2, Sem.run_bind, px, Result.andThen_ok, binOp, mY hT, Sem.run_pure, ha, if_true]
  · simp only [execOp, e1, h2, Sem.run_bind, px, Result.andThen_ok, binOp, mY hT, Sem.run_pure, ha]
    rfl
theorem jT {op : BinOp} {El : TypeId} (hop : op = .eql ∨ op = .neq) (hT : P.underlying T = some (.slice El)) (hx : opv e x = ab) (hy : opv e y = ab) :
    OpS P ⟨d, .binOp op T x y T', T2, pos, after, g⟩ e (B (if op = .eql then true else false)) := by
  have := mF (P := P) (d := d) (pos := pos) (after := after) (g := g) (T' := T') (T2 := T2) (z := none) hop hT (hx.trans rfl) hy (by decide)
  rcases hop with rfl | rfl <;> exact this
theorem sZ {o len cap : Nat} {q : IntKind} {n : Int} {El : TypeId} (hT : P.underlying T = some (.slice El)) (hsz : bt P El = some 1) (hx : opv e x = .vw o 0 len cap) (hy : opv e y = .v (.int q n)) (hg : decide (0 ≤ n ∧ n < len) = true) (hc : len ≤ cap) :
    OpS P ⟨d, .slice T x (some y) none none, T2, pos, after, g⟩ e (.vw o n.toNat (len - n.toNat) (cap - n.toNat)) := by
  obtain ⟨h1, h2⟩ := of_decide_eq_true hg
  have := mL (P := P) (d := d) (pos := pos) (after := after) (g := g) (T2 := T2) (k := 1) (lo := n.toNat) hT hsz hx hy (Int.toNat_of_nonneg h1).symm (by omega) (by omega) (by omega)
  rw [Nat.zero_add, Nat.mul_one] at this
  exact this
theorem uw {l m r : List UInt8} {o n lo len cap k : Nat} {El T3 : TypeId} (hT : P.underlying T = some (.slice El)) (hsz : bt P El = some 1) (hx : opv e x = .vw o lo len cap) (hy : opv e y = slE Enc.byte m none)
    (hA : A[k]? = some (.obj o (Enc.byte.fl l ++ List.replicate n .any))) (hg : decide (m.length ≤ len) = true) (hg2 : decide (lo + m.length ≤ l.length) = true) (hr : l.take lo ++ m ++ l.drop (lo + m.length) = r) :
    OpR P ⟨d, .call ⟨.builtin .copy, #[x, y], #[T, T2]⟩, T3, pos, after, g⟩ e A (i64 m.length) (A.set k (.obj o (Enc.byte.fl r ++ List.replicate n .any))) := by
  have h1 := of_decide_eq_true hg
  have h2 := of_decide_eq_true hg2
  have hl : (Enc.byte.fl l).length = l.length := by rw [Enc.fl_length]; exact Nat.mul_one _
  have hm : (Enc.byte.fl m).length = m.length := by rw [Enc.fl_length]; exact Nat.mul_one _
  have := fB (P := P) (d := d) (pos := pos) (after := after) (g := g) (T2 := T2) (T3 := T3) (A := A) hT (E := Enc.byte) hsz hx hy hA h1 (by rw [List.length_append, hl]; show lo + m.length * 1 ≤ _; omega)
  have e1 : gL (Enc.byte.fl l ++ List.replicate n .any) lo (Enc.byte.fl m) = Enc.byte.fl r ++ List.replicate n .any := by
    have f1 : ∀ q : List UInt8, Enc.byte.fl q = q.map u8 := fun q => by
      induction q with
      | nil => rfl
      | cons a q ih => rw [dp, ih]; rfl
    subst hr
    unfold gL
    simp only [f1, List.map_append, List.map_take, List.map_drop, List.length_map]
    rw [List.take_append_of_le_length (by simp; omega), List.drop_append_of_le_length (by simp; omega)]
    simp
  rw [e1] at this
  exact this
end
theorem AO.invoke {P : Program} {N : Nat} {Q : eW} {ro : Option Nat} {ops : Array Oper} {rest : List Nat} {d : Nat} {x : Operand} {nm : String} {f : FuncId} {t : TypeId} {args : Array Operand} {argTypes : Array TypeId} {T : TypeId} {pos : String} {after : Array Edge} {g : Option (Nat × Bool)} {e : Env} {ds : List ADef} {A A1 : List Chunk} (B : List Chunk)
    {R : AE → List Chunk → Prop} {rv : AV} {avs : List AV} (hd : Nat.blt d N = true) (hx : opv e x = .ifc t rv) (hm : ∀ v w, (method (P.types.size + Made.depth) t v nm).run P w = .ok (f, v) w) (hf : ∀ args w, (callFunc f args).run P w = .ok (.enter f args) w) (ha : args.toList.map (opv e) = avs)
    (h : ACalls P f (rv :: avs) A1 R) (p : A.Perm (A1 ++ B)) (k : ∀ av A', R (.ret av) A' → AR P ro N ops Q rest ⟨(d, av) :: e, ds, A' ++ B⟩)
    (kp : ∀ c A', R (.pan c) A' → Q (.panic c) ⟨e, ds, A' ++ B⟩) :
    AO P ro N ops Q rest ⟨some d, .call ⟨.invoke x nm, args, argTypes⟩, T, pos, after, g⟩ ⟨e, ds, A⟩ := fun F I w a hI hS => by
  have hS' := hS
  have hrl : RelL I w avs (args.toList.map a.eval) := by
    rw [← ha]; exact eI _ _ _ fun x _ => hS'.op x
  have hxr := hx ▸ hS'.op x
  generalize e1 : a.eval x = u at hxr
  cases hxr with
  | ifc _ _ y hy =>
  refine ⟨fun _ _ => cW _, ?_⟩
  have hex : (Oper.semAt (da ro).round a.eval ⟨some d, .call ⟨.invoke x nm, args, argTypes⟩, T, pos, after, g⟩).run P w = .ok (.enter f (#[y] ++ args.map a.eval)) w := by
    rw [Oper.semAt_eq _ _ _ (fun c h => by cases h)]
    simp only [execOp, resolve, Sem.run_bind, Sem.run_pure, Result.andThen_ok, Go.invoke]
    have e0 : (#[a.eval x] ++ args.map a.eval)[0]? = some (.iface t y) := by rw [e1, Array.getElem?_append]; rfl
    have e2 : (#[a.eval x] ++ args.map a.eval).extract 1 (#[a.eval x] ++ args.map a.eval).size = args.map a.eval := by
      apply Array.ext'
      simp
      exact List.take_of_length_le (by simp)
    have e3 : Sem.run P program w = .ok P w := rfl
    simp only [e0, e2, callMethod, Sem.run_bind, e3, hm, Result.andThen_ok]
    exact hf _ _
  rw [hex]
  refine ⟨nz, AO.call.callsIn_wide'.2 ?_⟩
  have hI2 : Inv I (A1 ++ (B ++ F)) w := by rw [← List.append_assoc]; exact hI.perm (p.append_right F)
  have hc := h (B ++ F) I w _ hI2 (dU hy hrl)
  have he : (y :: args.toList.map a.eval).toArray = #[y] ++ args.map a.eval := by apply Array.ext'; simp
  rw [he] at hc
  refine hc.mono fun en w' ⟨I', ae, A', E, hI', hre, hR⟩ => ?_
  have hI3 : Inv I' ((A' ++ B) ++ F) w' := by rw [List.append_assoc]; exact hI'
  cases en with
  | returned v =>
    cases ae with
    | ret av =>
      have hk := k av A' hR F I' w' (a.put (some d) v) hI3 ((hS.mono E).put (ag hd) hre _)
      exact cu rest (fun _ _ _ => dw E fun _ _ h => h) _ _ hk
    | pan c => exact hre.elim
  | panicked c =>
    cases ae with
    | ret av => exact hre.elim
    | pan c' =>
      cases hre
      exact ⟨I', ⟨e, ds, A' ++ B⟩, E, hI3, ⟨hS.size, (hS.mono E).env, (hS.mono E).ds⟩, kp _ A' hR⟩
  | outgrown => cases ae <;> exact hre.elim
theorem AO.deferFn {P : Program} {N : Nat} {Q : eW} {ops : Array Oper} {rest : List Nat} {x : Operand} {f : Fn} {args : Array Operand} {argTypes : Array TypeId} {T : TypeId} {pos : String} {after : Array Edge} {g : Option (Nat × Bool)} {e : Env} {ds : List ADef} {A : List Chunk}
    (hx : opv e x = .v (.func f #[] #[])) (k : AR P none N ops Q rest ⟨e, .call f [] (args.toList.map (opv e)) :: ds, A⟩) :
    AO P none N ops Q rest ⟨none, .defer ⟨.value x, args, argTypes⟩, T, pos, after, g⟩ ⟨e, ds, A⟩ := fun F I w a hI hS => by
  have hS' := hS
  have hv := bH (hx ▸ hS'.op x)
  refine ⟨fun _ _ => cW _, ?_⟩
  have hex : (Oper.semAt (da none).round a.eval ⟨none, .defer ⟨.value x, args, argTypes⟩, T, pos, after, g⟩).run P w = .ok (.defer { target := .fn f #[], args := (args.toList.map a.eval).toArray }) w := by
    rw [show (da none).round = none from rfl, Oper.semAt_none]
    simp only [execOp, Sem.run_bind, lB hv, Result.andThen_ok, Sem.run_pure]
    congr 2
    congr 1
    apply Array.ext'; simp
  rw [hex]
  exact k F I w _ hI ⟨hS.size, hS.env, .cons (.call f [] _ [] _ eH (eI _ _ _ fun x _ => hS'.op x)) hS.ds⟩
end Go.Av
namespace Go.Pv
def uR (F : Nat) (a1 : Bool) : Option Int :=
bif a1 then
  some 1
else
  some 0
def vb (F : Nat) (a2 : Int) (a3 : Int) : Option Bool :=
some (!decide (a2 = 0))
def tr (F : Nat) (a4 : Bool) : Option Int :=
bnd (uR F a4) fun x6 =>
some x6
def pE (F : Nat) : Option Unit :=
some ()
def ip : Option Unit :=
some ()
def io : Option Unit :=
ip
def mz (F : Nat) (a2 : Int) : Option Unit :=
io
def va (F : Nat) : Option Unit :=
bnd (pE F) fun _ =>
some ()
def qC (F : Nat) (a2 : Int) : Option Unit :=
bnd (mz F a2) fun _ =>
some ()
def entOld : List (List UInt8) := [([38] : List UInt8), ([38, 97, 109, 112, 59] : List UInt8), ([60] : List UInt8), ([38, 108, 116, 59] : List UInt8), ([62] : List UInt8), ([38, 103, 116, 59] : List UInt8), ([34] : List UInt8), ([38, 113, 117, 111, 116, 59] : List UInt8)]
def iO : List (Option (List UInt8)) := (List.range 256).map fun k => if k = 38 then some ([38, 97, 109, 112, 59] : List UInt8) else if k = 60 then some ([38, 108, 116, 59] : List UInt8) else if k = 62 then some ([38, 103, 116, 59] : List UInt8) else if k = 34 then some ([38, 113, 117, 111, 116, 59] : List UInt8) else none
def entRep : List (List UInt8) := [[34], [62], [60], [38]]
def jR (y44 : List (List UInt8)) : Option ((List (List UInt8))) :=
some y44
def jQ (y40 : List (List UInt8)) : Option ((List (List UInt8))) :=
grd (dV ([38, 97, 109, 112, 59] : List UInt8).length) <|
jR y40
def jP (y32 : List (List UInt8)) : Option ((List (List UInt8))) :=
grd (dV ([38, 108, 116, 59] : List UInt8).length) <|
grd (dV (y32.length + ([([38] : List UInt8)] : List (List UInt8)).length)) <|
lt (y32 ++ ([([38] : List UInt8)] : List (List UInt8))) fun x38 =>
jQ x38
def jO (y24 : List (List UInt8)) : Option ((List (List UInt8))) :=
grd (dV ([38, 103, 116, 59] : List UInt8).length) <|
grd (dV (y24.length + ([([60] : List UInt8)] : List (List UInt8)).length)) <|
lt (y24 ++ ([([60] : List UInt8)] : List (List UInt8))) fun x30 =>
jP x30
def jN (y16 : List (List UInt8)) : Option ((List (List UInt8))) :=
grd (dV ([38, 113, 117, 111, 116, 59] : List UInt8).length) <|
grd (dV (y16.length + ([([62] : List UInt8)] : List (List UInt8)).length)) <|
lt (y16 ++ ([([62] : List UInt8)] : List (List UInt8))) fun x22 =>
jO x22
def jM : Option ((List (List UInt8))) :=
grd (hU 8 2) <|
grd (dV (([] : List (List UInt8)).length + ([([34] : List UInt8)] : List (List UInt8)).length)) <|
lt (([] : List (List UInt8)) ++ ([([34] : List UInt8)] : List (List UInt8))) fun x14 =>
jN x14
def jL : Option ((List (List UInt8))) :=
jM
def jK : Option ((List (List UInt8))) :=
jL
def jJ : Option ((List (List UInt8))) :=
jK
def jf : Option ((List (List UInt8))) :=
jJ
def je : Option ((List (List UInt8))) :=
jf
def tu (F : Nat) : Option ((List (List UInt8))) :=
je
def lL : Option Unit :=
grd (dV entOld.length) <|
some ()
def rp_New (F : Nat) : Option Unit :=
grd (hU 8 2) <|
lL
def gd (y55 : Int) (y93 : List UInt8) : Option ((List UInt8)) :=
grd (decide (y93.length = Int.toNat y55)) <|
some y93
def fo (y62 : Int) (rec64 : (Int × Int × (List UInt8)) → Option ((List UInt8))) (y89 : Int) (y90 : List UInt8) : Option ((List UInt8)) :=
grd (okI (y62 + 1)) <|
rec64 (y89, y62 + 1, y90)
def gf (a2 : List UInt8) (y55 : Int) (rec64 : (Int × Int × (List UInt8)) → Option ((List UInt8))) (y61 : Int) (y62 : Int) (y63 : List UInt8) : Option ((List UInt8)) :=
bif decide (y62 < (a2.length : Int)) then
  grd (ce y62 a2.length) <|
  lt (at_ a2 y62) fun x68 =>
  grd (ce (x68.toNat : Int) 256) <|
  lt (at_ iO (x68.toNat : Int)) fun x71 =>
  grd (decide (x71 ≠ some [])) <|
  bif !x71.isNone then
    grd (decide (0 ≤ y61 ∧ y61 < Int.toNat y55)) <|
    grd (ce (x68.toNat : Int) 256) <|
    lt (at_ iO (x68.toNat : Int)) fun x77 =>
    grd (decide ((x77.getD []).length ≤ Int.toNat y55 - Int.toNat y61)) <|
    grd (decide (Int.toNat y61 + (x77.getD []).length ≤ y63.length)) <|
    lt (List.take (Int.toNat y61) y63 ++ (x77.getD []) ++ List.drop (Int.toNat y61 + (x77.getD []).length) y63) fun x81 =>
    grd (okI (y61 + ((x77.getD []).length : Int))) <|
    fo y62 rec64 (y61 + ((x77.getD []).length : Int)) x81
  else
    grd (ce y61 (Int.toNat y55)) <|
    grd (ce y61 y63.length) <|
    lt (y63.set (Int.toNat y61) x68) fun x86 =>
    grd (okI (y61 + 1)) <|
    fo y62 rec64 (y61 + 1) x86
else
  gd y55 y63
def ez (a2 : List UInt8) (y55 : Int) (n : Nat) : (Int × Int × (List UInt8)) → Option ((List UInt8)) :=
  loop (fun rec x => gf a2 y55 rec x.1 x.2.1 x.2.2) n
def di (F : Nat) (a2 : List UInt8) (y55 : Int) (y56 : Bool) : Option ((List UInt8)) :=
bif !y56 then
  some a2
else
  grd (ce y55 1000000000) <|
  ez a2 y55 F (0, 0, List.replicate (Int.toNat y55) 0)
def fm (y8 : Int) (rec9 : (Int × Bool × Int) → Option ((List UInt8))) (y28 : Int) (y29 : Bool) : Option ((List UInt8)) :=
grd (okI (y8 + 1)) <|
rec9 (y28, y29, y8 + 1)
def eA (F : Nat) (a2 : List UInt8) (rec9 : (Int × Bool × Int) → Option ((List UInt8))) (y6 : Int) (y7 : Bool) (y8 : Int) : Option ((List UInt8)) :=
bif decide (y8 < (entRep.length : Int)) then
  grd (ce y8 entRep.length) <|
  lt (at_ entRep y8) fun x13 =>
  grd (decide (x13.length = 1)) <|
  lt (Go.Lib.countByte a2 (at_ x13 0) : Int) fun x16 =>
  bif !decide (x16 = 0) then
    grd (ce 0 x13.length) <|
    lt (at_ x13 0) fun x20 =>
    grd (ce (x20.toNat : Int) 256) <|
    lt (at_ iO (x20.toNat : Int)) fun x23 =>
    grd (okI (((x23.getD []).length : Int) - 1)) <|
    grd (okI (x16 * (((x23.getD []).length : Int) - 1))) <|
    grd (okI (y6 + (x16 * (((x23.getD []).length : Int) - 1)))) <|
    fm y8 rec9 (y6 + (x16 * (((x23.getD []).length : Int) - 1))) true
  else
    fm y8 rec9 y6 y7
else
  di F a2 y6 y7
def cw (F : Nat) (a2 : List UInt8) (n : Nat) : (Int × Bool × Int) → Option ((List UInt8)) :=
  loop (fun rec x => eA F a2 rec x.1 x.2.1 x.2.2) n
def fk (y34 : Int) (rec35 : (Int × Bool × Int) → Option ((List UInt8))) (y51 : Int) (y52 : Bool) : Option ((List UInt8)) :=
grd (okI (y34 + 1)) <|
rec35 (y51, y52, y34 + 1)
def ge (F : Nat) (a2 : List UInt8) (rec35 : (Int × Bool × Int) → Option ((List UInt8))) (y32 : Int) (y33 : Bool) (y34 : Int) : Option ((List UInt8)) :=
bif decide (y34 < (a2.length : Int)) then
  grd (ce y34 a2.length) <|
  lt (at_ a2 y34) fun x39 =>
  grd (ce (x39.toNat : Int) 256) <|
  lt (at_ iO (x39.toNat : Int)) fun x42 =>
  grd (decide (x42 ≠ some [])) <|
  bif !x42.isNone then
    grd (ce (x39.toNat : Int) 256) <|
    lt (at_ iO (x39.toNat : Int)) fun x47 =>
    grd (okI (((x47.getD []).length : Int) - 1)) <|
    grd (okI (y32 + (((x47.getD []).length : Int) - 1))) <|
    fk y34 rec35 (y32 + (((x47.getD []).length : Int) - 1)) true
  else
    fk y34 rec35 y32 y33
else
  di F a2 y32 y33
def ew (F : Nat) (a2 : List UInt8) (n : Nat) : (Int × Bool × Int) → Option ((List UInt8)) :=
  loop (fun rec x => ge F a2 rec x.1 x.2.1 x.2.2) n
def fH (F : Nat) (a2 : List UInt8) : Option ((List UInt8)) :=
grd (okI ((entRep.length : Int) * 8)) <|
bif decide ((entRep.length : Int) * 8 ≤ (a2.length : Int)) then
  cw F a2 F ((a2.length : Int), false, 0)
else
  ew F a2 F ((a2.length : Int), false, 0)
end Go.Pv
namespace Go.Proofs.YteokdkimegepoaaGreatDoor
open Go.RowKit Go.Av Go.Pv
theorem wM : ∀ (args : Array Value) (w : World), (callFunc 127 args).run Tryz.prog w = .ok (.enter 127 args) w := fun _ _ => by kernel_rfl
theorem wL : ∀ (args : Array Value) (w : World), (callFunc 128 args).run Tryz.prog w = .ok (.enter 128 args) w := fun _ _ => by kernel_rfl
theorem wJ : ∀ (args : Array Value) (w : World), (callFunc 130 args).run Tryz.prog w = .ok (.enter 130 args) w := fun _ _ => by kernel_rfl
theorem wy : ∀ (args : Array Value) (w : World), (callFunc 213 args).run Tryz.prog w = .ok (.enter 213 args) w := fun _ _ => by kernel_rfl
set_option maxRecDepth 100000 in
set_option maxHeartbeats 1000000 in
theorem w_sy_b32 (F : Nat) (a1 : Bool) (r2 : Int) (H : uR F a1 = some r2) : ACalls Tryz.prog 130 [B a1] [] (Ret (.v (.int .u32 r2)) []) := by
 unfold uR at H
 refine ay Tryz.func130 rfl rfl ?_;show AW _ _ 4 _ _ _;refine af <| aa ?_;show AR _ _ _ _ _ [0] _;refine za rfl <| ah <| af <| af <| aa ?_;show AR _ _ _ _ _ [0] _;refine zm rfl <| ah <| ax rfl (fun c3 => ?_) (fun c3 => ?_)
 ·replace H := ba c3 H;refine af <| aa ?_;show AR _ _ _ _ _ [0] _;refine za rfl <| ah <| aP ?_;obtain rfl := am H;exact And.intro rfl (Exists.intro _ (Exists.intro _ ⟨aF rfl (.refl _), aK [] rfl, rfl, rfl⟩))
 ·replace H := bb c3 H;refine aC <| af <| aa ?_;show AR _ _ _ _ _ [0] _;refine za rfl <| ah <| aP ?_;obtain rfl := am H;exact And.intro rfl (Exists.intro _ (Exists.intro _ ⟨aF rfl (.refl _), aK [] rfl, rfl, rfl⟩))
set_option maxRecDepth 100000 in
set_option maxHeartbeats 1000000 in
theorem qy (F : Nat) (o1 : Nat) (a2 : Int) (a3 : Int) (v4 : AV) (v5 : AV) (r6 : Bool) (H : vb F a2 a3 = some r6) : ACalls Tryz.prog 98 [.pt o1 0] [.obj o1 [.v (.int .u32 a2), .v (.int .i32 a3), .v (.int .u32 0), v4, v5]] (fun e A' => e = .ret (B r6) ∧ A' = [.obj o1 [.v (.int .u32 a2), .v (.int .i32 a3), .v (.int .u32 0), v4, v5]]) := by
 unfold vb at H
 refine ay Tryz.func98 rfl rfl ?_;show AW _ _ 8 _ _ _;refine af <| aa ?_;show AR _ _ _ _ _ [0] _;refine za rfl <| ah <| af <| aa ?_;show AR _ _ _ _ _ [0, 1, 2, 3, 4, 5] _;refine zS rfl (ai (av := .pt _ _) rfl) <| zS rfl (ar rfl) <| zS rfl (ak (n := 0) (by kernel_rfl) rfl) <| zR rfl (rO (i := 0) (k := .u32) ⟨Tryz.func114, by kernel_rfl, by kernel_rfl, by kernel_rfl, by kernel_rfl⟩ rfl rfl rfl) <| zS rfl (dh rfl rfl) <| za rfl <| ah <| aP ?_;obtain rfl := am H;exact And.intro rfl (Exists.intro _ (Exists.intro _ ⟨aF rfl (.refl _), aK [0] rfl, rfl, rfl⟩))
set_option maxRecDepth 100000 in
set_option maxHeartbeats 1000000 in
theorem uK (u : FrameMode) (F : Nat) (o1 : Nat) (v2 : AV) (v3 : AV) (a4 : Bool) (r5 : Int) (H : tr F a4 = some r5) : ADCalls Tryz.prog 117 [.pt o1 0, B a4] [.obj o1 [.v (.int .u32 0), .v (.int .i32 1), .v (.int .u32 0), v2, v3]] u (fun ae u' A' => ae = .ret (.tup []) ∧ u' = u ∧ A' = [.obj o1 [.v (.int .u32 r5), .v (.int .i32 1), .v (.int .u32 0), v2, v3]]) := by
 unfold tr at H
 refine ADCalls.of_body Tryz.func117 rfl rfl ?_;show AW _ _ 10 _ _ _;obtain ⟨x6, e7, H⟩ := ep H;refine bI (by kernel_rfl) ?_;show AI _ _ _ _ _ 6 (Array.replicate 6 false) _;refine zk 0 rfl (ai (av := .pt _ _) rfl) ?_;show AI _ _ _ _ _ _ #[true, false, false, false, false, false] _;refine zk 1 rfl (ar rfl) ?_;show AI _ _ _ _ _ _ #[true, true, false, false, false, false] _;refine zk 2 rfl (ak (n := 0) (by kernel_rfl) rfl) ?_;show AI _ _ _ _ _ _ #[true, true, true, false, false, false] _;refine zk 3 rfl (mv rfl) ?_;show AI _ _ _ _ _ _ #[true, true, true, true, false, false] _;refine bP (i := 4) (by kernel_rfl) rfl rfl <| AIO.callp rfl wJ rfl (w_sy_b32 F a4 x6 e7) ?_;show AI _ _ _ _ _ _ #[true, true, true, true, true, false] _;refine bP (i := 5) (by kernel_rfl) rfl rfl <| bp rfl (qi (i := 0) ⟨Tryz.func129, by kernel_rfl, by kernel_rfl, by kernel_rfl, by kernel_rfl⟩ rfl rfl rfl rfl) ?_;show AI _ _ _ _ _ _ #[true, true, true, true, true, true] _;refine cx rfl ?_;obtain rfl := am H;exact And.intro rfl (Exists.intro _ (Exists.intro _ ⟨bD rfl, aK [0] rfl, rfl, rfl, rfl⟩))
set_option maxRecDepth 100000 in
set_option maxHeartbeats 1000000 in
theorem ua (F : Nat) (o1 : Nat) (v2 : AV) (v3 : AV) (H : pE F = some ()) : ACalls Tryz.prog 127 [.pt o1 1] [.obj o1 [.v (.int .u32 0), .v (.int .i32 0), .v (.int .u32 0), v2, v3]] (fun e A' => e = .ret (.tup []) ∧ A' = [.obj o1 [.v (.int .u32 0), .v (.int .i32 1), .v (.int .u32 0), v2, v3]]) := by
 unfold pE at H
 refine ay Tryz.func127 rfl rfl ?_;show AW _ _ 13 _ _ _;refine af <| aa ?_;show AR _ _ _ _ _ [0] _;refine zR rfl (lN .disable ⟨Tryz.func138, by kernel_rfl, by kernel_rfl, by kernel_rfl, by kernel_rfl⟩) <| ah <| af <| af <| aa ?_;show AR _ _ _ _ _ [0, 1, 2, 3] _;refine zS rfl (ai (av := .pt _ _) rfl) <| zS rfl (ar rfl) <| zS rfl (ak (n := 0) (by kernel_rfl) rfl) <| zR rfl (sQ (i := 0) (k := .i32) ⟨Tryz.func139, by kernel_rfl, by kernel_rfl, by kernel_rfl, by kernel_rfl⟩ rfl rfl rfl rfl rfl) <| ah <| ax rfl (fun _ => ?_) (fun hx => bq rfl hx);refine af <| ax rfl (fun _ => ?_) (fun hx => bq rfl hx);refine af <| aa ?_;show AR _ _ _ _ _ [0] _;refine zR rfl (lN .enable ⟨Tryz.func140, by kernel_rfl, by kernel_rfl, by kernel_rfl, by kernel_rfl⟩) <| ah <| aa ?_;show AR _ _ _ _ _ [0, 1, 2] _;refine zS rfl (ai (av := .pt _ _) rfl) <| zR rfl (mV (i := 0) Tryz.underlying169 ee (by kernel_rfl) rfl rfl rfl) <| zR rfl (qH .acquire ⟨Tryz.func141, by kernel_rfl, by kernel_rfl, by kernel_rfl, by kernel_rfl⟩ rfl) <| ah <| aP ?_;exact And.intro rfl (Exists.intro _ (Exists.intro _ ⟨bD rfl, aK [0] rfl, rfl, rfl⟩))
set_option maxRecDepth 100000 in
set_option maxHeartbeats 1000000 in
theorem rF (F : Nat) (o1 : Nat) (a2 : Int) (v3 : AV) (v4 : AV) (H : mz F a2 = some ()) : ACalls Tryz.prog 128 [.pt o1 1] [.obj o1 [.v (.int .u32 a2), .v (.int .i32 1), .v (.int .u32 0), v3, v4]] (fun e A' => e = .ret (.tup []) ∧ A' = [.obj o1 [.v (.int .u32 a2), .v (.int .i32 0), .v (.int .u32 0), v3, v4]]) := by
 unfold mz at H
 refine ay Tryz.func128 rfl rfl ?_;show AW _ _ 21 _ _ _;refine bw (X := Unit) (fun _ => ⟨[(0, .pt o1 1)], [], [.obj o1 [.v (.int .u32 a2), .v (.int .i32 1), .v (.int .u32 0), v3, v4]]⟩) (fun _ => io = some ()) ?_ ?_
 ·refine ax rfl (fun _ => ?_) (fun hx => bq rfl hx);refine af <| aa ?_;show AR _ _ _ _ _ [0, 1, 2, 3] _;refine zS rfl (ai (av := .pt _ _) rfl) <| zS rfl (ar rfl) <| zS rfl (ak (n := 0) (by kernel_rfl) rfl) <| zR rfl (aq (i := 0) eh rfl rfl rfl rfl) <| ah <| af <| aa ?_;show AR _ _ _ _ _ [0, 1, 2] _;refine zS rfl (ai (av := .pt _ _) rfl) <| zR rfl (mV (i := 0) Tryz.underlying169 ee (by kernel_rfl) rfl rfl rfl) <| zR rfl (qH .releaseMerge ⟨Tryz.func143, by kernel_rfl, by kernel_rfl, by kernel_rfl, by kernel_rfl⟩ rfl) <| ah <| aa ?_;show AR _ _ _ _ _ [0] _;refine zR rfl (lN .disable ⟨Tryz.func138, by kernel_rfl, by kernel_rfl, by kernel_rfl, by kernel_rfl⟩) <| ah ?_;exact Exists.intro () ⟨H, aW [0] (.cons (.refl _) (.nil _)) rfl⟩
 rintro _ H;replace H : io = some () := H
 unfold io at H
 refine af <| aa ?_;show AR _ _ _ _ _ [0, 1, 2, 3, 4] _;refine zS rfl (ai (av := .pt _ _) rfl) <| zS rfl (ar rfl) <| zS rfl (ak (n := 0) (by kernel_rfl) rfl) <| zR rfl (sT (i := 0) (k := .i32) (s := 0) ⟨Tryz.func144, by kernel_rfl, by kernel_rfl, by kernel_rfl, by kernel_rfl⟩ rfl rfl rfl rfl (by decide)) <| za rfl <| ah <| bw (X := Unit) (fun _ => ⟨[], [], [.obj o1 [.v (.int .u32 a2), .v (.int .i32 0), .v (.int .u32 0), v3, v4]]⟩) (fun _ => ip = some ()) ?_ ?_
 ·refine af <| aa ?_;show AR _ _ _ _ _ [0, 1] _;refine zm rfl <| zS rfl (bc (av' := B false) (dh rfl rfl) (az (by decide))) <| ah <| ax rfl (fun hx => bq hx rfl) (fun _ => ?_);refine aC ?_;exact Exists.intro () ⟨H, aW [0] (.nil _) rfl⟩
 rintro _ H;replace H : ip = some () := H
 unfold ip at H
 refine aa ?_;show AR _ _ _ _ _ [0] _;refine zR rfl (lN .enable ⟨Tryz.func140, by kernel_rfl, by kernel_rfl, by kernel_rfl, by kernel_rfl⟩) <| ah ?_;exact And.intro rfl (Exists.intro _ (Exists.intro _ ⟨bD rfl, aK [0] rfl, rfl, rfl⟩))
set_option maxRecDepth 100000 in
set_option maxHeartbeats 1000000 in
theorem vF (F : Nat) (o1 : Nat) (v2 : AV) (v3 : AV) (H : va F = some ()) : ACalls Tryz.prog 115 [.pt o1 1] [.obj o1 [.v (.int .u32 0), .v (.int .i32 0), .v (.int .u32 0), v2, v3]] (fun e A' => e = .ret (.tup []) ∧ A' = [.obj o1 [.v (.int .u32 0), .v (.int .i32 1), .v (.int .u32 0), v2, v3]]) := by
 unfold va at H
 refine ay Tryz.func115 rfl rfl ?_;show AW _ _ 6 _ _ _;obtain ⟨_, e4, H⟩ := ep H;refine aa ?_;show AR _ _ _ _ _ [0, 1, 2, 3] _;refine zS rfl (ai (av := .pt _ _) rfl) <| zS rfl (ar rfl) <| zS rfl (ak (n := 0) (by kernel_rfl) rfl) <| ap rfl rfl (be [0] rfl wM rfl (ua F o1 v2 v3 e4) rfl (fun c A' h => by cases h.1) ?_)
 rintro av A' ⟨h, rfl⟩; cases h
 refine ah ?_;exact And.intro rfl (Exists.intro _ (Exists.intro _ ⟨bD rfl, aK [0] rfl, rfl, rfl⟩))
set_option maxRecDepth 100000 in
set_option maxHeartbeats 1000000 in
theorem tg (u : FrameMode) (F : Nat) (o1 : Nat) (a2 : Int) (v3 : AV) (v4 : AV) (H : qC F a2 = some ()) : ADCalls Tryz.prog 116 [.pt o1 1] [.obj o1 [.v (.int .u32 a2), .v (.int .i32 1), .v (.int .u32 0), v3, v4]] u (fun ae u' A' => ae = .ret (.tup []) ∧ u' = u ∧ A' = [.obj o1 [.v (.int .u32 a2), .v (.int .i32 0), .v (.int .u32 0), v3, v4]]) := by
 unfold qC at H
 refine ADCalls.of_body Tryz.func116 rfl rfl ?_;show AW _ _ 6 _ _ _;obtain ⟨_, e5, H⟩ := ep H;refine aa ?_;show AR _ _ _ _ _ [0, 1, 2, 3] _;refine zS rfl (ai (av := .pt _ _) rfl) <| zS rfl (ar rfl) <| zS rfl (ak (n := 0) (by kernel_rfl) rfl) <| ap rfl rfl (be [0] rfl wL rfl (rF F o1 a2 v3 v4 e5) rfl (fun c A' h => by cases h.1) ?_)
 rintro av A' ⟨h, rfl⟩; cases h
 refine ah ?_;exact And.intro rfl (Exists.intro _ (Exists.intro _ ⟨bD rfl, aK [0] rfl, rfl, rfl, rfl⟩))
def eQ (r : List (List UInt8)) (q : Option Nat) : List AV := Enc.ob.fl iO ++ [slE Enc.str r q]
theorem vu (q : Option Nat) : AV.cp ((eQ entRep q).drop 256) = .cp [slE Enc.str entRep q] := by kernel_rfl
theorem entLe (q : Option Nat) : 256 ≤ (eQ entRep q).length := by
 have : (eQ entRep q).length = 257 := by kernel_rfl
 omega
theorem up (s c : List UInt8) (hc : c.length = 1) : ACalls Tryz.prog 213 [S s, S c] [] (Ret (i64 (Go.Lib.countByte s (at_ c 0) : Int)) []) := by
 obtain ⟨b, rfl⟩ : ∃ b, c = [b] := by
  match c, hc with
  | [b], _ => exact ⟨b, rfl⟩
 refine ed fun I A w vs hI hv => ?_
 obtain ⟨v1, r1, rfl, h1, hv⟩ := hv.out_cons;obtain ⟨v2, r2, rfl, h2, hv⟩ := hv.out_cons
 rw [hv.out_nil, hP h1, hP h2]
 refine (Tryz.strings_Count_one ⟨s.toArray⟩ b w).mono fun e w' ⟨he, hw⟩ => ⟨by simpa [at_] using he, hw ▸ Below.refl _ _⟩
abbrev _root_.Go.Av.bM := @Tryz.underlying138
set_option maxRecDepth 100000 in
set_option maxHeartbeats 1000000 in
theorem ub (F : Nat) (o1 : Nat) (q2 : Option Nat) (r : List (List UInt8)) (H : tu F = some r) : ACalls Tryz.prog 100 [.pt o1 0] [.obj o1 [.v (.int .u32 0), .v (.int .i32 1), .v (.int .u32 0), .v .nilIface, slE Enc.str entOld q2]] (fun e A' => ∃ t : Nat, e = .ret (.ifc 141 (.cp (eQ r (some t)))) ∧ A' = [.obj o1 [.v (.int .u32 0), .v (.int .i32 1), .v (.int .u32 0), .v .nilIface, slE Enc.str entOld q2]]) := by
 unfold tu at H
 refine ay Tryz.func100 rfl rfl ?_;show AW _ _ 132 _ _ _;refine af <| aa ?_;show AR _ _ _ _ _ [0] _;refine za rfl <| ah <| af <| aa ?_;show AR _ _ _ _ _ [0, 1, 2, 3, 4] _;refine zS rfl (ai (av := .pt _ _) rfl) <| zS rfl (ar rfl) <| zS rfl (ak (n := 4) (by kernel_rfl) rfl) <| zR rfl (aq (i := 0) al rfl rfl rfl rfl) <| zS rfl (aO (av := slE _ _ _) rfl) <| ah <| af <| af <| aa ?_;show AR _ _ _ _ _ [0, 1, 2, 3, 4, 5, 6, 7, 8, 9] _;refine zS rfl (ai (av := slE _ _ _) rfl) <| zS rfl (bc (av' := i64 8) (aV al rfl) rfl) <| zS rfl (bc (av' := B false) (bR rfl rfl) (az (by decide))) <| zm rfl <| zF rfl rfl <| zF rfl rfl <| zF rfl rfl <| zF rfl rfl <| zF rfl rfl <| zS rfl (aJ (av := .v _) rfl rfl rfl) <| ah <| ax rfl (fun hx => bq hx rfl) (fun _ => ?_);refine aC <| af <| aa ?_;show AR _ _ _ _ _ [0] _;refine za rfl <| ah <| bw (X := Unit) (fun _ => ⟨[(3, slE Enc.str entOld q2), (4, B false)], [], [.obj o1 [.v (.int .u32 0), .v (.int .i32 1), .v (.int .u32 0), .v .nilIface, slE Enc.str entOld q2]]⟩) (fun _ => jL = some r) ?_ ?_
 ·refine af <| aa ?_;show AR _ _ _ _ _ [0] _;refine za rfl <| ah <| aQ <| nU 6 <| af <| af <| aa ?_;show AR _ _ _ _ _ [0, 1, 2, 3] _;refine zm rfl <| zS rfl (ai (av := slE _ _ _) rfl) <| zS rfl (bc (av' := i64 8) (aV al rfl) rfl) <| zS rfl (bc (av' := B true) (bQ rfl rfl) (az (by decide))) <| ah <| ax rfl (fun _ => ?_) (fun hx => bq rfl hx);refine aC <| bw (X := Unit) (fun _ => ⟨[(3, slE Enc.str entOld q2), (4, B false), (5, i64 0)], [], [.obj o1 [.v (.int .u32 0), .v (.int .i32 1), .v (.int .u32 0), .v .nilIface, slE Enc.str entOld q2]]⟩) (fun _ => je = some r) ?_ ?_
  ·refine aQ <| af <| af <| aa ?_;show AR _ _ _ _ _ [0, 1, 2, 3, 4, 5] _;refine zS rfl (ai (av := slE _ _ _) rfl) <| zm rfl <| zS rfl (bm (E := Enc.str) (m := 0) al (by kernel_rfl) rfl rfl rfl rfl) <| zS rfl (aA ac rfl rfl) <| zS rfl (bc (av' := i64 1) (aZ ac rfl) rfl) <| zS rfl (bc (av' := B false) (dh rfl rfl) (az (by decide))) <| ah <| ax rfl (fun hx => bq hx rfl) (fun _ => ?_);refine aC <| af <| aa ?_;show AR _ _ _ _ _ [0, 1, 2, 3, 4, 5, 6] _;refine zS rfl (ai (av := slE _ _ _) rfl) <| zm rfl <| zS rfl (bc (av' := i64 1) (cH rfl rfl (by decide)) rfl) <| zS rfl (bm (E := Enc.str) (m := 1) al (by kernel_rfl) rfl rfl rfl rfl) <| zS rfl (aA ac rfl rfl) <| zS rfl (bc (av' := i64 5) (aZ ac rfl) rfl) <| zS rfl (bc (av' := B true) (dh rfl rfl) (az (by decide))) <| ah <| ax rfl (fun _ => ?_) (fun hx => bq rfl hx);refine aa ?_;show AR _ _ _ _ _ [0] _;refine za rfl <| ah ?_;exact Exists.intro () ⟨H, aW [0] (.cons (.refl _) (.cons (.refl _) (.cons (.refl _) (.nil _)))) rfl⟩
  rintro _ H;replace H : je = some r := H
  unfold je at H
  refine aa ?_;show AR _ _ _ _ _ [0, 1, 2] _;refine zm rfl <| zS rfl (bc (av' := i64 2) (cH rfl rfl (by decide)) rfl) <| za rfl <| ah <| af <| af <| aa ?_;show AR _ _ _ _ _ [0, 1, 2, 3] _;refine zm rfl <| zS rfl (ai (av := slE _ _ _) rfl) <| zS rfl (bc (av' := i64 8) (aV al rfl) rfl) <| zS rfl (bc (av' := B true) (bQ rfl rfl) (az (by decide))) <| ah <| ax rfl (fun _ => ?_) (fun hx => bq rfl hx);refine aC <| bw (X := Unit) (fun _ => ⟨[(3, slE Enc.str entOld q2), (4, B false), (5, i64 2)], [], [.obj o1 [.v (.int .u32 0), .v (.int .i32 1), .v (.int .u32 0), .v .nilIface, slE Enc.str entOld q2]]⟩) (fun _ => jf = some r) ?_ ?_
  ·refine aQ <| af <| af <| aa ?_;show AR _ _ _ _ _ [0, 1, 2, 3, 4, 5] _;refine zS rfl (ai (av := slE _ _ _) rfl) <| zm rfl <| zS rfl (bm (E := Enc.str) (m := 2) al (by kernel_rfl) rfl rfl rfl rfl) <| zS rfl (aA ac rfl rfl) <| zS rfl (bc (av' := i64 1) (aZ ac rfl) rfl) <| zS rfl (bc (av' := B false) (dh rfl rfl) (az (by decide))) <| ah <| ax rfl (fun hx => bq hx rfl) (fun _ => ?_);refine aC <| af <| aa ?_;show AR _ _ _ _ _ [0, 1, 2, 3, 4, 5, 6] _;refine zS rfl (ai (av := slE _ _ _) rfl) <| zm rfl <| zS rfl (bc (av' := i64 3) (cH rfl rfl (by decide)) rfl) <| zS rfl (bm (E := Enc.str) (m := 3) al (by kernel_rfl) rfl rfl rfl rfl) <| zS rfl (aA ac rfl rfl) <| zS rfl (bc (av' := i64 4) (aZ ac rfl) rfl) <| zS rfl (bc (av' := B true) (dh rfl rfl) (az (by decide))) <| ah <| ax rfl (fun _ => ?_) (fun hx => bq rfl hx);refine aa ?_;show AR _ _ _ _ _ [0] _;refine za rfl <| ah ?_;exact Exists.intro () ⟨H, aW [0] (.cons (.refl _) (.cons (.refl _) (.cons (.refl _) (.nil _)))) rfl⟩
  rintro _ H;replace H : jf = some r := H
  unfold jf at H
  refine aa ?_;show AR _ _ _ _ _ [0, 1, 2] _;refine zm rfl <| zS rfl (bc (av' := i64 4) (cH rfl rfl (by decide)) rfl) <| za rfl <| ah <| af <| af <| aa ?_;show AR _ _ _ _ _ [0, 1, 2, 3] _;refine zm rfl <| zS rfl (ai (av := slE _ _ _) rfl) <| zS rfl (bc (av' := i64 8) (aV al rfl) rfl) <| zS rfl (bc (av' := B true) (bQ rfl rfl) (az (by decide))) <| ah <| ax rfl (fun _ => ?_) (fun hx => bq rfl hx);refine aC <| bw (X := Unit) (fun _ => ⟨[(3, slE Enc.str entOld q2), (4, B false), (5, i64 4)], [], [.obj o1 [.v (.int .u32 0), .v (.int .i32 1), .v (.int .u32 0), .v .nilIface, slE Enc.str entOld q2]]⟩) (fun _ => jJ = some r) ?_ ?_
  ·refine aQ <| af <| af <| aa ?_;show AR _ _ _ _ _ [0, 1, 2, 3, 4, 5] _;refine zS rfl (ai (av := slE _ _ _) rfl) <| zm rfl <| zS rfl (bm (E := Enc.str) (m := 4) al (by kernel_rfl) rfl rfl rfl rfl) <| zS rfl (aA ac rfl rfl) <| zS rfl (bc (av' := i64 1) (aZ ac rfl) rfl) <| zS rfl (bc (av' := B false) (dh rfl rfl) (az (by decide))) <| ah <| ax rfl (fun hx => bq hx rfl) (fun _ => ?_);refine aC <| af <| aa ?_;show AR _ _ _ _ _ [0, 1, 2, 3, 4, 5, 6] _;refine zS rfl (ai (av := slE _ _ _) rfl) <| zm rfl <| zS rfl (bc (av' := i64 5) (cH rfl rfl (by decide)) rfl) <| zS rfl (bm (E := Enc.str) (m := 5) al (by kernel_rfl) rfl rfl rfl rfl) <| zS rfl (aA ac rfl rfl) <| zS rfl (bc (av' := i64 4) (aZ ac rfl) rfl) <| zS rfl (bc (av' := B true) (dh rfl rfl) (az (by decide))) <| ah <| ax rfl (fun _ => ?_) (fun hx => bq rfl hx);refine aa ?_;show AR _ _ _ _ _ [0] _;refine za rfl <| ah ?_;exact Exists.intro () ⟨H, aW [0] (.cons (.refl _) (.cons (.refl _) (.cons (.refl _) (.nil _)))) rfl⟩
  rintro _ H;replace H : jJ = some r := H
  unfold jJ at H
  refine aa ?_;show AR _ _ _ _ _ [0, 1, 2] _;refine zm rfl <| zS rfl (bc (av' := i64 6) (cH rfl rfl (by decide)) rfl) <| za rfl <| ah <| af <| af <| aa ?_;show AR _ _ _ _ _ [0, 1, 2, 3] _;refine zm rfl <| zS rfl (ai (av := slE _ _ _) rfl) <| zS rfl (bc (av' := i64 8) (aV al rfl) rfl) <| zS rfl (bc (av' := B true) (bQ rfl rfl) (az (by decide))) <| ah <| ax rfl (fun _ => ?_) (fun hx => bq rfl hx);refine aC <| bw (X := Unit) (fun _ => ⟨[(3, slE Enc.str entOld q2), (4, B false), (5, i64 6)], [], [.obj o1 [.v (.int .u32 0), .v (.int .i32 1), .v (.int .u32 0), .v .nilIface, slE Enc.str entOld q2]]⟩) (fun _ => jK = some r) ?_ ?_
  ·refine aQ <| af <| af <| aa ?_;show AR _ _ _ _ _ [0, 1, 2, 3, 4, 5] _;refine zS rfl (ai (av := slE _ _ _) rfl) <| zm rfl <| zS rfl (bm (E := Enc.str) (m := 6) al (by kernel_rfl) rfl rfl rfl rfl) <| zS rfl (aA ac rfl rfl) <| zS rfl (bc (av' := i64 1) (aZ ac rfl) rfl) <| zS rfl (bc (av' := B false) (dh rfl rfl) (az (by decide))) <| ah <| ax rfl (fun hx => bq hx rfl) (fun _ => ?_);refine aC <| af <| aa ?_;show AR _ _ _ _ _ [0, 1, 2, 3, 4, 5, 6] _;refine zS rfl (ai (av := slE _ _ _) rfl) <| zm rfl <| zS rfl (bc (av' := i64 7) (cH rfl rfl (by decide)) rfl) <| zS rfl (bm (E := Enc.str) (m := 7) al (by kernel_rfl) rfl rfl rfl rfl) <| zS rfl (aA ac rfl rfl) <| zS rfl (bc (av' := i64 6) (aZ ac rfl) rfl) <| zS rfl (bc (av' := B true) (dh rfl rfl) (az (by decide))) <| ah <| ax rfl (fun _ => ?_) (fun hx => bq rfl hx);refine aa ?_;show AR _ _ _ _ _ [0] _;refine za rfl <| ah ?_;exact Exists.intro () ⟨H, aW [0] (.cons (.refl _) (.cons (.refl _) (.cons (.refl _) (.nil _)))) rfl⟩
  rintro _ H;replace H : jK = some r := H
  unfold jK at H
  refine aa ?_;show AR _ _ _ _ _ [0, 1, 2] _;refine zm rfl <| zS rfl (bc (av' := i64 8) (cH rfl rfl (by decide)) rfl) <| za rfl <| ah <| af <| af <| aa ?_;show AR _ _ _ _ _ [0, 1, 2, 3] _;refine zm rfl <| zS rfl (ai (av := slE _ _ _) rfl) <| zS rfl (bc (av' := i64 8) (aV al rfl) rfl) <| zS rfl (bc (av' := B false) (bQ rfl rfl) (az (by decide))) <| ah <| ax rfl (fun hx => bq hx rfl) (fun _ => ?_);refine cf ?_;exact Exists.intro () ⟨H, aW [0] (.cons (.refl _) (.cons (.refl _) (.nil _))) rfl⟩
 rintro _ H;replace H : jL = some r := H
 unfold jL at H
 refine bw (X := Unit) (fun _ => ⟨[(3, slE Enc.str entOld q2)], [], [.obj o1 [.v (.int .u32 0), .v (.int .i32 1), .v (.int .u32 0), .v .nilIface, slE Enc.str entOld q2]]⟩) (fun _ => jM = some r) ?_ ?_
 ·refine af <| aa ?_;show AR _ _ _ _ _ [0] _;refine zm rfl <| ah <| ax rfl (fun hx => bq hx rfl) (fun _ => ?_);refine aC ?_;exact Exists.intro () ⟨H, aW [0] (.cons (.refl _) (.nil _)) rfl⟩
 rintro _ H;replace H : jM = some r := H
 unfold jM at H
 refine af ?_;obtain ⟨g9, H⟩ := aR H;refine aa ?_;show AR _ _ _ _ _ [0, 1, 2, 3, 4, 5, 6] _;refine zS rfl (ai (av := slE _ _ _) rfl) <| zS rfl (bc (av' := i64 8) (aV al rfl) rfl) <| zS rfl (bc (av' := i64 4) (g_quo rfl rfl g9) rfl) <| zX rfl (sM (k := 1) (bytes := 16) (cap := 4) al (by kernel_rfl) rfl rfl rfl rfl (by decide) (by decide) (by decide)) ?_;rintro _ _ ⟨t10, rfl, rfl⟩
 refine zS rfl (fi (zs := [.slice none 0 0, .slice none 0 0, .slice none 0 0, .slice none 0 0, .slice none 0 0, .slice none 0 0, .slice none 0 0, .slice none 0 0, .slice none 0 0, .slice none 0 0, .slice none 0 0, .slice none 0 0, .slice none 0 0, .slice none 0 0, .slice none 0 0, .slice none 0 0, .slice none 0 0, .slice none 0 0, .slice none 0 0, .slice none 0 0, .slice none 0 0, .slice none 0 0, .slice none 0 0, .slice none 0 0, .slice none 0 0, .slice none 0 0, .slice none 0 0, .slice none 0 0, .slice none 0 0, .slice none 0 0, .slice none 0 0, .slice none 0 0, .slice none 0 0, .slice none 0 0, .slice none 0 0, .slice none 0 0, .slice none 0 0, .slice none 0 0, .slice none 0 0, .slice none 0 0, .slice none 0 0, .slice none 0 0, .slice none 0 0, .slice none 0 0, .slice none 0 0, .slice none 0 0, .slice none 0 0, .slice none 0 0, .slice none 0 0, .slice none 0 0, .slice none 0 0, .slice none 0 0, .slice none 0 0, .slice none 0 0, .slice none 0 0, .slice none 0 0, .slice none 0 0, .slice none 0 0, .slice none 0 0, .slice none 0 0, .slice none 0 0, .slice none 0 0, .slice none 0 0, .slice none 0 0, .slice none 0 0, .slice none 0 0, .slice none 0 0, .slice none 0 0, .slice none 0 0, .slice none 0 0, .slice none 0 0, .slice none 0 0, .slice none 0 0, .slice none 0 0, .slice none 0 0, .slice none 0 0, .slice none 0 0, .slice none 0 0, .slice none 0 0, .slice none 0 0, .slice none 0 0, .slice none 0 0, .slice none 0 0, .slice none 0 0, .slice none 0 0, .slice none 0 0, .slice none 0 0, .slice none 0 0, .slice none 0 0, .slice none 0 0, .slice none 0 0, .slice none 0 0, .slice none 0 0, .slice none 0 0, .slice none 0 0, .slice none 0 0, .slice none 0 0, .slice none 0 0, .slice none 0 0, .slice none 0 0, .slice none 0 0, .slice none 0 0, .slice none 0 0, .slice none 0 0, .slice none 0 0, .slice none 0 0, .slice none 0 0, .slice none 0 0, .slice none 0 0, .slice none 0 0, .slice none 0 0, .slice none 0 0, .slice none 0 0, .slice none 0 0, .slice none 0 0, .slice none 0 0, .slice none 0 0, .slice none 0 0, .slice none 0 0, .slice none 0 0, .slice none 0 0, .slice none 0 0, .slice none 0 0, .slice none 0 0, .slice none 0 0, .slice none 0 0, .slice none 0 0, .slice none 0 0, .slice none 0 0, .slice none 0 0, .slice none 0 0, .slice none 0 0, .slice none 0 0, .slice none 0 0, .slice none 0 0, .slice none 0 0, .slice none 0 0, .slice none 0 0, .slice none 0 0, .slice none 0 0, .slice none 0 0, .slice none 0 0, .slice none 0 0, .slice none 0 0, .slice none 0 0, .slice none 0 0, .slice none 0 0, .slice none 0 0, .slice none 0 0, .slice none 0 0, .slice none 0 0, .slice none 0 0, .slice none 0 0, .slice none 0 0, .slice none 0 0, .slice none 0 0, .slice none 0 0, .slice none 0 0, .slice none 0 0, .slice none 0 0, .slice none 0 0, .slice none 0 0, .slice none 0 0, .slice none 0 0, .slice none 0 0, .slice none 0 0, .slice none 0 0, .slice none 0 0, .slice none 0 0, .slice none 0 0, .slice none 0 0, .slice none 0 0, .slice none 0 0, .slice none 0 0, .slice none 0 0, .slice none 0 0, .slice none 0 0, .slice none 0 0, .slice none 0 0, .slice none 0 0, .slice none 0 0, .slice none 0 0, .slice none 0 0, .slice none 0 0, .slice none 0 0, .slice none 0 0, .slice none 0 0, .slice none 0 0, .slice none 0 0, .slice none 0 0, .slice none 0 0, .slice none 0 0, .slice none 0 0, .slice none 0 0, .slice none 0 0, .slice none 0 0, .slice none 0 0, .slice none 0 0, .slice none 0 0, .slice none 0 0, .slice none 0 0, .slice none 0 0, .slice none 0 0, .slice none 0 0, .slice none 0 0, .slice none 0 0, .slice none 0 0, .slice none 0 0, .slice none 0 0, .slice none 0 0, .slice none 0 0, .slice none 0 0, .slice none 0 0, .slice none 0 0, .slice none 0 0, .slice none 0 0, .slice none 0 0, .slice none 0 0, .slice none 0 0, .slice none 0 0, .slice none 0 0, .slice none 0 0, .slice none 0 0, .slice none 0 0, .slice none 0 0, .slice none 0 0, .slice none 0 0, .slice none 0 0, .slice none 0 0, .slice none 0 0, .slice none 0 0, .slice none 0 0, .slice none 0 0, .slice none 0 0, .slice none 0 0, .slice none 0 0, .slice none 0 0, .slice none 0 0, .slice none 0 0, .slice none 0 0, .slice none 0 0, .slice none 0 0, .slice none 0 0, .slice none 0 0, .slice none 0 0, .slice none 0 0, .slice none 0 0, .slice none 0 0, .slice none 0 0, .slice none 0 0, .slice none 0 0, .slice none 0 0, .slice none 0 0, .slice none 0 0, .slice none 0 0, .slice none 0 0, .slice none 0 0]) (ps := [(0, 256), (256, 1)]) (cs := [ab, ab, ab, ab, ab, ab, ab, ab, ab, ab, ab, ab, ab, ab, ab, ab, ab, ab, ab, ab, ab, ab, ab, ab, ab, ab, ab, ab, ab, ab, ab, ab, ab, ab, ab, ab, ab, ab, ab, ab, ab, ab, ab, ab, ab, ab, ab, ab, ab, ab, ab, ab, ab, ab, ab, ab, ab, ab, ab, ab, ab, ab, ab, ab, ab, ab, ab, ab, ab, ab, ab, ab, ab, ab, ab, ab, ab, ab, ab, ab, ab, ab, ab, ab, ab, ab, ab, ab, ab, ab, ab, ab, ab, ab, ab, ab, ab, ab, ab, ab, ab, ab, ab, ab, ab, ab, ab, ab, ab, ab, ab, ab, ab, ab, ab, ab, ab, ab, ab, ab, ab, ab, ab, ab, ab, ab, ab, ab, ab, ab, ab, ab, ab, ab, ab, ab, ab, ab, ab, ab, ab, ab, ab, ab, ab, ab, ab, ab, ab, ab, ab, ab, ab, ab, ab, ab, ab, ab, ab, ab, ab, ab, ab, ab, ab, ab, ab, ab, ab, ab, ab, ab, ab, ab, ab, ab, ab, ab, ab, ab, ab, ab, ab, ab, ab, ab, ab, ab, ab, ab, ab, ab, ab, ab, ab, ab, ab, ab, ab, ab, ab, ab, ab, ab, ab, ab, ab, ab, ab, ab, ab, ab, ab, ab, ab, ab, ab, ab, ab, ab, ab, ab, ab, ab, ab, ab, ab, ab, ab, ab, ab, ab, ab, ab, ab, ab, ab, ab, ab, ab, ab, ab, ab, ab, ab, ab, ab, ab, ab, ab, ab, ab, ab, ab, ab, ab, slE Enc.str ([] : List (List UInt8)) (some t10)]) (by kernel_rfl) rfl rfl) <| zX rfl (dL (zs := [.slice none 0 0, .slice none 0 0, .slice none 0 0, .slice none 0 0, .slice none 0 0, .slice none 0 0, .slice none 0 0, .slice none 0 0, .slice none 0 0, .slice none 0 0, .slice none 0 0, .slice none 0 0, .slice none 0 0, .slice none 0 0, .slice none 0 0, .slice none 0 0, .slice none 0 0, .slice none 0 0, .slice none 0 0, .slice none 0 0, .slice none 0 0, .slice none 0 0, .slice none 0 0, .slice none 0 0, .slice none 0 0, .slice none 0 0, .slice none 0 0, .slice none 0 0, .slice none 0 0, .slice none 0 0, .slice none 0 0, .slice none 0 0, .slice none 0 0, .slice none 0 0, .slice none 0 0, .slice none 0 0, .slice none 0 0, .slice none 0 0, .slice none 0 0, .slice none 0 0, .slice none 0 0, .slice none 0 0, .slice none 0 0, .slice none 0 0, .slice none 0 0, .slice none 0 0, .slice none 0 0, .slice none 0 0, .slice none 0 0, .slice none 0 0, .slice none 0 0, .slice none 0 0, .slice none 0 0, .slice none 0 0, .slice none 0 0, .slice none 0 0, .slice none 0 0, .slice none 0 0, .slice none 0 0, .slice none 0 0, .slice none 0 0, .slice none 0 0, .slice none 0 0, .slice none 0 0, .slice none 0 0, .slice none 0 0, .slice none 0 0, .slice none 0 0, .slice none 0 0, .slice none 0 0, .slice none 0 0, .slice none 0 0, .slice none 0 0, .slice none 0 0, .slice none 0 0, .slice none 0 0, .slice none 0 0, .slice none 0 0, .slice none 0 0, .slice none 0 0, .slice none 0 0, .slice none 0 0, .slice none 0 0, .slice none 0 0, .slice none 0 0, .slice none 0 0, .slice none 0 0, .slice none 0 0, .slice none 0 0, .slice none 0 0, .slice none 0 0, .slice none 0 0, .slice none 0 0, .slice none 0 0, .slice none 0 0, .slice none 0 0, .slice none 0 0, .slice none 0 0, .slice none 0 0, .slice none 0 0, .slice none 0 0, .slice none 0 0, .slice none 0 0, .slice none 0 0, .slice none 0 0, .slice none 0 0, .slice none 0 0, .slice none 0 0, .slice none 0 0, .slice none 0 0, .slice none 0 0, .slice none 0 0, .slice none 0 0, .slice none 0 0, .slice none 0 0, .slice none 0 0, .slice none 0 0, .slice none 0 0, .slice none 0 0, .slice none 0 0, .slice none 0 0, .slice none 0 0, .slice none 0 0, .slice none 0 0, .slice none 0 0, .slice none 0 0, .slice none 0 0, .slice none 0 0, .slice none 0 0, .slice none 0 0, .slice none 0 0, .slice none 0 0, .slice none 0 0, .slice none 0 0, .slice none 0 0, .slice none 0 0, .slice none 0 0, .slice none 0 0, .slice none 0 0, .slice none 0 0, .slice none 0 0, .slice none 0 0, .slice none 0 0, .slice none 0 0, .slice none 0 0, .slice none 0 0, .slice none 0 0, .slice none 0 0, .slice none 0 0, .slice none 0 0, .slice none 0 0, .slice none 0 0, .slice none 0 0, .slice none 0 0, .slice none 0 0, .slice none 0 0, .slice none 0 0, .slice none 0 0, .slice none 0 0, .slice none 0 0, .slice none 0 0, .slice none 0 0, .slice none 0 0, .slice none 0 0, .slice none 0 0, .slice none 0 0, .slice none 0 0, .slice none 0 0, .slice none 0 0, .slice none 0 0, .slice none 0 0, .slice none 0 0, .slice none 0 0, .slice none 0 0, .slice none 0 0, .slice none 0 0, .slice none 0 0, .slice none 0 0, .slice none 0 0, .slice none 0 0, .slice none 0 0, .slice none 0 0, .slice none 0 0, .slice none 0 0, .slice none 0 0, .slice none 0 0, .slice none 0 0, .slice none 0 0, .slice none 0 0, .slice none 0 0, .slice none 0 0, .slice none 0 0, .slice none 0 0, .slice none 0 0, .slice none 0 0, .slice none 0 0, .slice none 0 0, .slice none 0 0, .slice none 0 0, .slice none 0 0, .slice none 0 0, .slice none 0 0, .slice none 0 0, .slice none 0 0, .slice none 0 0, .slice none 0 0, .slice none 0 0, .slice none 0 0, .slice none 0 0, .slice none 0 0, .slice none 0 0, .slice none 0 0, .slice none 0 0, .slice none 0 0, .slice none 0 0, .slice none 0 0, .slice none 0 0, .slice none 0 0, .slice none 0 0, .slice none 0 0, .slice none 0 0, .slice none 0 0, .slice none 0 0, .slice none 0 0, .slice none 0 0, .slice none 0 0, .slice none 0 0, .slice none 0 0, .slice none 0 0, .slice none 0 0, .slice none 0 0, .slice none 0 0, .slice none 0 0, .slice none 0 0, .slice none 0 0, .slice none 0 0, .slice none 0 0, .slice none 0 0, .slice none 0 0, .slice none 0 0, .slice none 0 0, .slice none 0 0, .slice none 0 0, .slice none 0 0, .slice none 0 0, .slice none 0 0, .slice none 0 0, .slice none 0 0, .slice none 0 0, .slice none 0 0, .slice none 0 0, .slice none 0 0, .slice none 0 0, .slice none 0 0, .slice none 0 0, .slice none 0 0, .slice none 0 0]) (by kernel_rfl)) ?_
 rintro _ _ ⟨o11, rfl, rfl⟩
 refine s0 rfl rfl (cK (i := 0) (vs := [ab, ab, ab, ab, ab, ab, ab, ab, ab, ab, ab, ab, ab, ab, ab, ab, ab, ab, ab, ab, ab, ab, ab, ab, ab, ab, ab, ab, ab, ab, ab, ab, ab, ab, ab, ab, ab, ab, ab, ab, ab, ab, ab, ab, ab, ab, ab, ab, ab, ab, ab, ab, ab, ab, ab, ab, ab, ab, ab, ab, ab, ab, ab, ab, ab, ab, ab, ab, ab, ab, ab, ab, ab, ab, ab, ab, ab, ab, ab, ab, ab, ab, ab, ab, ab, ab, ab, ab, ab, ab, ab, ab, ab, ab, ab, ab, ab, ab, ab, ab, ab, ab, ab, ab, ab, ab, ab, ab, ab, ab, ab, ab, ab, ab, ab, ab, ab, ab, ab, ab, ab, ab, ab, ab, ab, ab, ab, ab, ab, ab, ab, ab, ab, ab, ab, ab, ab, ab, ab, ab, ab, ab, ab, ab, ab, ab, ab, ab, ab, ab, ab, ab, ab, ab, ab, ab, ab, ab, ab, ab, ab, ab, ab, ab, ab, ab, ab, ab, ab, ab, ab, ab, ab, ab, ab, ab, ab, ab, ab, ab, ab, ab, ab, ab, ab, ab, ab, ab, ab, ab, ab, ab, ab, ab, ab, ab, ab, ab, ab, ab, ab, ab, ab, ab, ab, ab, ab, ab, ab, ab, ab, ab, ab, ab, ab, ab, ab, ab, ab, ab, ab, ab, ab, ab, ab, ab, ab, ab, ab, ab, ab, ab, ab, ab, ab, ab, ab, ab, ab, ab, ab, ab, ab, ab, ab, ab, ab, ab, ab, ab, ab, ab, ab, ab, ab, ab, slE Enc.str ([] : List (List UInt8)) (some t10)]) (by kernel_rfl) rfl rfl (by simp [co, slE]) rfl (ag rfl)) <| ah <| bw (X := (List (List UInt8)) × Nat) (fun (y44, t45) => ⟨[(11, .pt o11 0)], [], [.obj o11 [ab, ab, ab, ab, ab, ab, ab, ab, ab, ab, ab, ab, ab, ab, ab, ab, ab, ab, ab, ab, ab, ab, ab, ab, ab, ab, ab, ab, ab, ab, ab, ab, ab, ab, slE Enc.byte ([38, 113, 117, 111, 116, 59] : List UInt8) none, ab, ab, ab, slE Enc.byte ([38, 97, 109, 112, 59] : List UInt8) none, ab, ab, ab, ab, ab, ab, ab, ab, ab, ab, ab, ab, ab, ab, ab, ab, ab, ab, ab, ab, ab, slE Enc.byte ([38, 108, 116, 59] : List UInt8) none, ab, slE Enc.byte ([38, 103, 116, 59] : List UInt8) none, ab, ab, ab, ab, ab, ab, ab, ab, ab, ab, ab, ab, ab, ab, ab, ab, ab, ab, ab, ab, ab, ab, ab, ab, ab, ab, ab, ab, ab, ab, ab, ab, ab, ab, ab, ab, ab, ab, ab, ab, ab, ab, ab, ab, ab, ab, ab, ab, ab, ab, ab, ab, ab, ab, ab, ab, ab, ab, ab, ab, ab, ab, ab, ab, ab, ab, ab, ab, ab, ab, ab, ab, ab, ab, ab, ab, ab, ab, ab, ab, ab, ab, ab, ab, ab, ab, ab, ab, ab, ab, ab, ab, ab, ab, ab, ab, ab, ab, ab, ab, ab, ab, ab, ab, ab, ab, ab, ab, ab, ab, ab, ab, ab, ab, ab, ab, ab, ab, ab, ab, ab, ab, ab, ab, ab, ab, ab, ab, ab, ab, ab, ab, ab, ab, ab, ab, ab, ab, ab, ab, ab, ab, ab, ab, ab, ab, ab, ab, ab, ab, ab, ab, ab, ab, ab, ab, ab, ab, ab, ab, ab, ab, ab, ab, ab, ab, ab, ab, ab, ab, ab, ab, ab, ab, ab, ab, ab, ab, ab, ab, ab, ab, ab, ab, ab, ab, ab, ab, ab, ab, ab, ab, ab, slE Enc.str y44 (some t45)], .obj o1 [.v (.int .u32 0), .v (.int .i32 1), .v (.int .u32 0), .v .nilIface, slE Enc.str entOld q2], .tok t45 9]⟩) (fun (y44, t45) => jR y44 = some r) ?_ ?_
 ·refine af <| aa ?_;show AR _ _ _ _ _ [0, 1, 2, 3] _;refine zS rfl (ai (av := slE _ _ _) rfl) <| zS rfl (bc (av' := i64 8) (aV al rfl) rfl) <| zS rfl (bc (av' := i64 6) (ld rfl rfl (by decide)) rfl) <| za rfl <| ah <| aQ <| nU 6 <| af <| af <| aa ?_;show AR _ _ _ _ _ [0, 1] _;refine zm rfl <| zS rfl (bc (av' := B true) (eC rfl rfl) (az (by decide))) <| ah <| ax rfl (fun _ => ?_) (fun hx => bq rfl hx);refine aC <| af <| aQ <| af <| aa ?_;show AR _ _ _ _ _ [0, 1, 2, 3, 4, 5] _;refine zS rfl (ai (av := slE _ _ _) rfl) <| zm rfl <| zS rfl (bm (E := Enc.str) (m := 6) al (by kernel_rfl) rfl rfl rfl rfl) <| zS rfl (aA ac rfl rfl) <| zS rfl (gg (m := 0) (c := 34) ac rfl rfl rfl rfl) <| za rfl <| ah <| af <| aa ?_;show AR _ _ _ _ _ [0, 1, 2, 3, 4, 5] _
  refine zS rfl (ai (av := slE _ _ _) rfl) <| zm rfl <| zS rfl (bc (av' := i64 7) (cH rfl rfl (by decide)) rfl) <| zS rfl (bm (E := Enc.str) (m := 7) al (by kernel_rfl) rfl rfl rfl rfl) <| zS rfl (aA ac rfl rfl) <| za rfl <| ah <| bw (X := (List (List UInt8)) × Nat) (fun (y16, t17) => ⟨[(3, slE Enc.str entOld q2), (11, .pt o11 0), (12, i64 6), (13, u8 34), (14, S ([38, 113, 117, 111, 116, 59] : List UInt8))], [], [.obj o11 [ab, ab, ab, ab, ab, ab, ab, ab, ab, ab, ab, ab, ab, ab, ab, ab, ab, ab, ab, ab, ab, ab, ab, ab, ab, ab, ab, ab, ab, ab, ab, ab, ab, ab, ab, ab, ab, ab, ab, ab, ab, ab, ab, ab, ab, ab, ab, ab, ab, ab, ab, ab, ab, ab, ab, ab, ab, ab, ab, ab, ab, ab, ab, ab, ab, ab, ab, ab, ab, ab, ab, ab, ab, ab, ab, ab, ab, ab, ab, ab, ab, ab, ab, ab, ab, ab, ab, ab, ab, ab, ab, ab, ab, ab, ab, ab, ab, ab, ab, ab, ab, ab, ab, ab, ab, ab, ab, ab, ab, ab, ab, ab, ab, ab, ab, ab, ab, ab, ab, ab, ab, ab, ab, ab, ab, ab, ab, ab, ab, ab, ab, ab, ab, ab, ab, ab, ab, ab, ab, ab, ab, ab, ab, ab, ab, ab, ab, ab, ab, ab, ab, ab, ab, ab, ab, ab, ab, ab, ab, ab, ab, ab, ab, ab, ab, ab, ab, ab, ab, ab, ab, ab, ab, ab, ab, ab, ab, ab, ab, ab, ab, ab, ab, ab, ab, ab, ab, ab, ab, ab, ab, ab, ab, ab, ab, ab, ab, ab, ab, ab, ab, ab, ab, ab, ab, ab, ab, ab, ab, ab, ab, ab, ab, ab, ab, ab, ab, ab, ab, ab, ab, ab, ab, ab, ab, ab, ab, ab, ab, ab, ab, ab, ab, ab, ab, ab, ab, ab, ab, ab, ab, ab, ab, ab, ab, ab, ab, ab, ab, ab, ab, ab, ab, ab, ab, ab, slE Enc.str y16 (some t17)], .obj o1 [.v (.int .u32 0), .v (.int .i32 1), .v (.int .u32 0), .v .nilIface, slE Enc.str entOld q2], .tok t17 9]⟩) (fun (y16, t17) => jN y16 = some r) ?_ ?_
  ·refine af <| aa ?_;show AR _ _ _ _ _ [0, 1, 2, 3, 4] _;refine zm rfl <| zS rfl (ak (n := 0) (by kernel_rfl) rfl) <| zS rfl (cD (Ar := 0) (k := 1) (m := 34) bM (by kernel_rfl) rfl rfl rfl (by decide)) <| zR rfl (aq (i := 0) aj rfl rfl rfl rfl) <| zS rfl (jT (.inl rfl) aj rfl rfl) <| ah <| ax rfl (fun _ => ?_) (fun hx => bq rfl hx);obtain ⟨g13, H⟩ := aR H;obtain ⟨x14, e15, H⟩ := bB H;refine aa ?_;show AR _ _ _ _ _ [0, 1, 2, 3, 4, 5, 6, 7, 8] _;refine zS rfl (ak (n := 256) (by kernel_rfl) rfl) <| zR rfl (aq (i := 0) al rfl rfl rfl rfl) <| zm rfl <| zR rfl (cS (E := Enc.byte) (bytes := 1) (xs := [.tmp 120]) (l := ([34] : List UInt8)) aj (by kernel_rfl) rfl rfl (by decide) rfl rfl) <| zS rfl (dI aj bA ac rfl) <| zR rfl (cS (E := Enc.str) (bytes := 16) (xs := [.tmp 122]) (l := ([([34] : List UInt8)] : List (List UInt8))) al (by kernel_rfl) rfl rfl (by decide) rfl rfl) <| zX rfl (fK (E := Enc.str) (bytes := 16) 1 al al rfl (by kernel_rfl) rfl rfl rfl rfl g13 e15) ?_;rintro _ _ ⟨t12, rfl, rfl⟩;refine zS rfl (ak (n := 256) (by kernel_rfl) rfl) <| s0 rfl rfl (aB (i := 0) (c := slE _ _ _) (by kernel_rfl) rfl rfl rfl rfl (ag rfl)) <| ah ?_
   exact Exists.intro (x14, t12) ⟨H, aW [0, 1, 0] (.cons (.refl _) (.cons (.refl _) (.cons (.refl _) (.cons (.refl _) (.cons (.refl _) (.nil _)))))) rfl⟩
  rintro ⟨y16, t17⟩ H;replace H : jN y16 = some r := H
  unfold jN at H
  obtain ⟨g19, H⟩ := aR H;refine aa ?_;show AR _ _ _ _ _ [0, 1, 2, 3, 4, 5] _;refine zm rfl <| zm rfl <| zR rfl (OpX.still (dD (bytes := 1) ac aj bA rfl g19)) <| zS rfl (ak (n := 0) (by kernel_rfl) rfl) <| zS rfl (cD (Ar := 0) (k := 1) (m := 34) bM (by kernel_rfl) rfl rfl rfl (by decide)) <| s0 rfl rfl (aB (i := 0) (c := slE _ _ _) (by kernel_rfl) rfl rfl rfl rfl (ag rfl)) <| ah <| aa ?_;show AR _ _ _ _ _ [0, 1, 2] _;refine zm rfl <| zS rfl (bc (av' := i64 4) (ld rfl rfl (by decide)) rfl) <| za rfl <| ah <| af <| af <| aa ?_;show AR _ _ _ _ _ [0, 1] _;refine zm rfl <| zS rfl (bc (av' := B true) (eC rfl rfl) (az (by decide))) <| ah <| ax rfl (fun _ => ?_) (fun hx => bq rfl hx);refine aC <| af <| aQ <| af <| aa ?_;show AR _ _ _ _ _ [0, 1, 2, 3, 4, 5] _;refine zS rfl (ai (av := slE _ _ _) rfl) <| zm rfl <| zS rfl (bm (E := Enc.str) (m := 4) al (by kernel_rfl) rfl rfl rfl rfl) <| zS rfl (aA ac rfl rfl) <| zS rfl (gg (m := 0) (c := 62) ac rfl rfl rfl rfl) <| za rfl <| ah <| af <| aa ?_;show AR _ _ _ _ _ [0, 1, 2, 3, 4, 5] _
  refine zS rfl (ai (av := slE _ _ _) rfl) <| zm rfl <| zS rfl (bc (av' := i64 5) (cH rfl rfl (by decide)) rfl) <| zS rfl (bm (E := Enc.str) (m := 5) al (by kernel_rfl) rfl rfl rfl rfl) <| zS rfl (aA ac rfl rfl) <| za rfl <| ah <| bw (X := (List (List UInt8)) × Nat) (fun (y24, t25) => ⟨[(3, slE Enc.str entOld q2), (11, .pt o11 0), (12, i64 4), (13, u8 62), (14, S ([38, 103, 116, 59] : List UInt8))], [], [.obj o11 [ab, ab, ab, ab, ab, ab, ab, ab, ab, ab, ab, ab, ab, ab, ab, ab, ab, ab, ab, ab, ab, ab, ab, ab, ab, ab, ab, ab, ab, ab, ab, ab, ab, ab, slE Enc.byte ([38, 113, 117, 111, 116, 59] : List UInt8) none, ab, ab, ab, ab, ab, ab, ab, ab, ab, ab, ab, ab, ab, ab, ab, ab, ab, ab, ab, ab, ab, ab, ab, ab, ab, ab, ab, ab, ab, ab, ab, ab, ab, ab, ab, ab, ab, ab, ab, ab, ab, ab, ab, ab, ab, ab, ab, ab, ab, ab, ab, ab, ab, ab, ab, ab, ab, ab, ab, ab, ab, ab, ab, ab, ab, ab, ab, ab, ab, ab, ab, ab, ab, ab, ab, ab, ab, ab, ab, ab, ab, ab, ab, ab, ab, ab, ab, ab, ab, ab, ab, ab, ab, ab, ab, ab, ab, ab, ab, ab, ab, ab, ab, ab, ab, ab, ab, ab, ab, ab, ab, ab, ab, ab, ab, ab, ab, ab, ab, ab, ab, ab, ab, ab, ab, ab, ab, ab, ab, ab, ab, ab, ab, ab, ab, ab, ab, ab, ab, ab, ab, ab, ab, ab, ab, ab, ab, ab, ab, ab, ab, ab, ab, ab, ab, ab, ab, ab, ab, ab, ab, ab, ab, ab, ab, ab, ab, ab, ab, ab, ab, ab, ab, ab, ab, ab, ab, ab, ab, ab, ab, ab, ab, ab, ab, ab, ab, ab, ab, ab, ab, ab, ab, ab, ab, ab, ab, ab, ab, ab, ab, ab, ab, ab, ab, ab, ab, ab, ab, ab, ab, ab, ab, ab, ab, ab, ab, ab, ab, ab, ab, slE Enc.str y24 (some t25)], .obj o1 [.v (.int .u32 0), .v (.int .i32 1), .v (.int .u32 0), .v .nilIface, slE Enc.str entOld q2], .tok t25 9]⟩) (fun (y24, t25) => jO y24 = some r) ?_ ?_
  ·refine af <| aa ?_;show AR _ _ _ _ _ [0, 1, 2, 3, 4] _;refine zm rfl <| zS rfl (ak (n := 0) (by kernel_rfl) rfl) <| zS rfl (cD (Ar := 0) (k := 1) (m := 62) bM (by kernel_rfl) rfl rfl rfl (by decide)) <| zR rfl (aq (i := 0) aj rfl rfl rfl rfl) <| zS rfl (jT (.inl rfl) aj rfl rfl) <| ah <| ax rfl (fun _ => ?_) (fun hx => bq rfl hx);obtain ⟨g21, H⟩ := aR H;obtain ⟨x22, e23, H⟩ := bB H;refine aa ?_;show AR _ _ _ _ _ [0, 1, 2, 3, 4, 5, 6, 7, 8] _;refine zS rfl (ak (n := 256) (by kernel_rfl) rfl) <| zR rfl (aq (i := 0) al rfl rfl rfl rfl) <| zm rfl <| zR rfl (cS (E := Enc.byte) (bytes := 1) (xs := [.tmp 120]) (l := ([62] : List UInt8)) aj (by kernel_rfl) rfl rfl (by decide) rfl rfl) <| zS rfl (dI aj bA ac rfl) <| zR rfl (cS (E := Enc.str) (bytes := 16) (xs := [.tmp 122]) (l := ([([62] : List UInt8)] : List (List UInt8))) al (by kernel_rfl) rfl rfl (by decide) rfl rfl) <| zX rfl (fK (E := Enc.str) (bytes := 16) 2 al al rfl (by kernel_rfl) rfl rfl rfl rfl g21 e23) ?_;rintro _ _ ⟨t20, rfl, rfl⟩;refine zS rfl (ak (n := 256) (by kernel_rfl) rfl) <| s0 rfl rfl (aB (i := 0) (c := slE _ _ _) (by kernel_rfl) rfl rfl rfl rfl (ag rfl)) <| ah ?_
   exact Exists.intro (x22, t20) ⟨H, aW [0, 0, 0] (.cons (.refl _) (.cons (.refl _) (.cons (.refl _) (.cons (.refl _) (.cons (.refl _) (.nil _)))))) rfl⟩
  rintro ⟨y24, t25⟩ H;replace H : jO y24 = some r := H
  unfold jO at H
  obtain ⟨g27, H⟩ := aR H;refine aa ?_;show AR _ _ _ _ _ [0, 1, 2, 3, 4, 5] _;refine zm rfl <| zm rfl <| zR rfl (OpX.still (dD (bytes := 1) ac aj bA rfl g27)) <| zS rfl (ak (n := 0) (by kernel_rfl) rfl) <| zS rfl (cD (Ar := 0) (k := 1) (m := 62) bM (by kernel_rfl) rfl rfl rfl (by decide)) <| s0 rfl rfl (aB (i := 0) (c := slE _ _ _) (by kernel_rfl) rfl rfl rfl rfl (ag rfl)) <| ah <| aa ?_;show AR _ _ _ _ _ [0, 1, 2] _;refine zm rfl <| zS rfl (bc (av' := i64 2) (ld rfl rfl (by decide)) rfl) <| za rfl <| ah <| af <| af <| aa ?_;show AR _ _ _ _ _ [0, 1] _;refine zm rfl <| zS rfl (bc (av' := B true) (eC rfl rfl) (az (by decide))) <| ah <| ax rfl (fun _ => ?_) (fun hx => bq rfl hx);refine aC <| af <| aQ <| af <| aa ?_;show AR _ _ _ _ _ [0, 1, 2, 3, 4, 5] _;refine zS rfl (ai (av := slE _ _ _) rfl) <| zm rfl <| zS rfl (bm (E := Enc.str) (m := 2) al (by kernel_rfl) rfl rfl rfl rfl) <| zS rfl (aA ac rfl rfl) <| zS rfl (gg (m := 0) (c := 60) ac rfl rfl rfl rfl) <| za rfl <| ah <| af <| aa ?_;show AR _ _ _ _ _ [0, 1, 2, 3, 4, 5] _
  refine zS rfl (ai (av := slE _ _ _) rfl) <| zm rfl <| zS rfl (bc (av' := i64 3) (cH rfl rfl (by decide)) rfl) <| zS rfl (bm (E := Enc.str) (m := 3) al (by kernel_rfl) rfl rfl rfl rfl) <| zS rfl (aA ac rfl rfl) <| za rfl <| ah <| bw (X := (List (List UInt8)) × Nat) (fun (y32, t33) => ⟨[(3, slE Enc.str entOld q2), (11, .pt o11 0), (12, i64 2), (13, u8 60), (14, S ([38, 108, 116, 59] : List UInt8))], [], [.obj o11 [ab, ab, ab, ab, ab, ab, ab, ab, ab, ab, ab, ab, ab, ab, ab, ab, ab, ab, ab, ab, ab, ab, ab, ab, ab, ab, ab, ab, ab, ab, ab, ab, ab, ab, slE Enc.byte ([38, 113, 117, 111, 116, 59] : List UInt8) none, ab, ab, ab, ab, ab, ab, ab, ab, ab, ab, ab, ab, ab, ab, ab, ab, ab, ab, ab, ab, ab, ab, ab, ab, ab, ab, ab, slE Enc.byte ([38, 103, 116, 59] : List UInt8) none, ab, ab, ab, ab, ab, ab, ab, ab, ab, ab, ab, ab, ab, ab, ab, ab, ab, ab, ab, ab, ab, ab, ab, ab, ab, ab, ab, ab, ab, ab, ab, ab, ab, ab, ab, ab, ab, ab, ab, ab, ab, ab, ab, ab, ab, ab, ab, ab, ab, ab, ab, ab, ab, ab, ab, ab, ab, ab, ab, ab, ab, ab, ab, ab, ab, ab, ab, ab, ab, ab, ab, ab, ab, ab, ab, ab, ab, ab, ab, ab, ab, ab, ab, ab, ab, ab, ab, ab, ab, ab, ab, ab, ab, ab, ab, ab, ab, ab, ab, ab, ab, ab, ab, ab, ab, ab, ab, ab, ab, ab, ab, ab, ab, ab, ab, ab, ab, ab, ab, ab, ab, ab, ab, ab, ab, ab, ab, ab, ab, ab, ab, ab, ab, ab, ab, ab, ab, ab, ab, ab, ab, ab, ab, ab, ab, ab, ab, ab, ab, ab, ab, ab, ab, ab, ab, ab, ab, ab, ab, ab, ab, ab, ab, ab, ab, ab, ab, ab, ab, ab, ab, ab, ab, ab, ab, ab, ab, ab, ab, ab, ab, ab, ab, ab, ab, ab, ab, ab, ab, ab, ab, ab, ab, slE Enc.str y32 (some t33)], .obj o1 [.v (.int .u32 0), .v (.int .i32 1), .v (.int .u32 0), .v .nilIface, slE Enc.str entOld q2], .tok t33 9]⟩) (fun (y32, t33) => jP y32 = some r) ?_ ?_
  ·refine af <| aa ?_;show AR _ _ _ _ _ [0, 1, 2, 3, 4] _;refine zm rfl <| zS rfl (ak (n := 0) (by kernel_rfl) rfl) <| zS rfl (cD (Ar := 0) (k := 1) (m := 60) bM (by kernel_rfl) rfl rfl rfl (by decide)) <| zR rfl (aq (i := 0) aj rfl rfl rfl rfl) <| zS rfl (jT (.inl rfl) aj rfl rfl) <| ah <| ax rfl (fun _ => ?_) (fun hx => bq rfl hx);obtain ⟨g29, H⟩ := aR H;obtain ⟨x30, e31, H⟩ := bB H;refine aa ?_;show AR _ _ _ _ _ [0, 1, 2, 3, 4, 5, 6, 7, 8] _;refine zS rfl (ak (n := 256) (by kernel_rfl) rfl) <| zR rfl (aq (i := 0) al rfl rfl rfl rfl) <| zm rfl <| zR rfl (cS (E := Enc.byte) (bytes := 1) (xs := [.tmp 120]) (l := ([60] : List UInt8)) aj (by kernel_rfl) rfl rfl (by decide) rfl rfl) <| zS rfl (dI aj bA ac rfl) <| zR rfl (cS (E := Enc.str) (bytes := 16) (xs := [.tmp 122]) (l := ([([60] : List UInt8)] : List (List UInt8))) al (by kernel_rfl) rfl rfl (by decide) rfl rfl) <| zX rfl (fK (E := Enc.str) (bytes := 16) 2 al al rfl (by kernel_rfl) rfl rfl rfl rfl g29 e31) ?_;rintro _ _ ⟨t28, rfl, rfl⟩;refine zS rfl (ak (n := 256) (by kernel_rfl) rfl) <| s0 rfl rfl (aB (i := 0) (c := slE _ _ _) (by kernel_rfl) rfl rfl rfl rfl (ag rfl)) <| ah ?_
   exact Exists.intro (x30, t28) ⟨H, aW [0, 0, 0] (.cons (.refl _) (.cons (.refl _) (.cons (.refl _) (.cons (.refl _) (.cons (.refl _) (.nil _)))))) rfl⟩
  rintro ⟨y32, t33⟩ H;replace H : jP y32 = some r := H
  unfold jP at H
  obtain ⟨g35, H⟩ := aR H;refine aa ?_;show AR _ _ _ _ _ [0, 1, 2, 3, 4, 5] _;refine zm rfl <| zm rfl <| zR rfl (OpX.still (dD (bytes := 1) ac aj bA rfl g35)) <| zS rfl (ak (n := 0) (by kernel_rfl) rfl) <| zS rfl (cD (Ar := 0) (k := 1) (m := 60) bM (by kernel_rfl) rfl rfl rfl (by decide)) <| s0 rfl rfl (aB (i := 0) (c := slE _ _ _) (by kernel_rfl) rfl rfl rfl rfl (ag rfl)) <| ah <| aa ?_;show AR _ _ _ _ _ [0, 1, 2] _;refine zm rfl <| zS rfl (bc (av' := i64 0) (ld rfl rfl (by decide)) rfl) <| za rfl <| ah <| af <| af <| aa ?_;show AR _ _ _ _ _ [0, 1] _;refine zm rfl <| zS rfl (bc (av' := B true) (eC rfl rfl) (az (by decide))) <| ah <| ax rfl (fun _ => ?_) (fun hx => bq rfl hx);refine aC <| af <| aQ <| af <| aa ?_;show AR _ _ _ _ _ [0, 1, 2, 3, 4, 5] _;refine zS rfl (ai (av := slE _ _ _) rfl) <| zm rfl <| zS rfl (bm (E := Enc.str) (m := 0) al (by kernel_rfl) rfl rfl rfl rfl) <| zS rfl (aA ac rfl rfl) <| zS rfl (gg (m := 0) (c := 38) ac rfl rfl rfl rfl) <| za rfl <| ah <| af <| aa ?_;show AR _ _ _ _ _ [0, 1, 2, 3, 4, 5] _
  refine zS rfl (ai (av := slE _ _ _) rfl) <| zm rfl <| zS rfl (bc (av' := i64 1) (cH rfl rfl (by decide)) rfl) <| zS rfl (bm (E := Enc.str) (m := 1) al (by kernel_rfl) rfl rfl rfl rfl) <| zS rfl (aA ac rfl rfl) <| za rfl <| ah <| bw (X := (List (List UInt8)) × Nat) (fun (y40, t41) => ⟨[(3, slE Enc.str entOld q2), (11, .pt o11 0), (12, i64 0), (13, u8 38), (14, S ([38, 97, 109, 112, 59] : List UInt8))], [], [.obj o11 [ab, ab, ab, ab, ab, ab, ab, ab, ab, ab, ab, ab, ab, ab, ab, ab, ab, ab, ab, ab, ab, ab, ab, ab, ab, ab, ab, ab, ab, ab, ab, ab, ab, ab, slE Enc.byte ([38, 113, 117, 111, 116, 59] : List UInt8) none, ab, ab, ab, ab, ab, ab, ab, ab, ab, ab, ab, ab, ab, ab, ab, ab, ab, ab, ab, ab, ab, ab, ab, ab, ab, slE Enc.byte ([38, 108, 116, 59] : List UInt8) none, ab, slE Enc.byte ([38, 103, 116, 59] : List UInt8) none, ab, ab, ab, ab, ab, ab, ab, ab, ab, ab, ab, ab, ab, ab, ab, ab, ab, ab, ab, ab, ab, ab, ab, ab, ab, ab, ab, ab, ab, ab, ab, ab, ab, ab, ab, ab, ab, ab, ab, ab, ab, ab, ab, ab, ab, ab, ab, ab, ab, ab, ab, ab, ab, ab, ab, ab, ab, ab, ab, ab, ab, ab, ab, ab, ab, ab, ab, ab, ab, ab, ab, ab, ab, ab, ab, ab, ab, ab, ab, ab, ab, ab, ab, ab, ab, ab, ab, ab, ab, ab, ab, ab, ab, ab, ab, ab, ab, ab, ab, ab, ab, ab, ab, ab, ab, ab, ab, ab, ab, ab, ab, ab, ab, ab, ab, ab, ab, ab, ab, ab, ab, ab, ab, ab, ab, ab, ab, ab, ab, ab, ab, ab, ab, ab, ab, ab, ab, ab, ab, ab, ab, ab, ab, ab, ab, ab, ab, ab, ab, ab, ab, ab, ab, ab, ab, ab, ab, ab, ab, ab, ab, ab, ab, ab, ab, ab, ab, ab, ab, ab, ab, ab, ab, ab, ab, ab, ab, ab, ab, ab, ab, ab, ab, ab, ab, ab, ab, ab, ab, ab, ab, ab, ab, slE Enc.str y40 (some t41)], .obj o1 [.v (.int .u32 0), .v (.int .i32 1), .v (.int .u32 0), .v .nilIface, slE Enc.str entOld q2], .tok t41 9]⟩) (fun (y40, t41) => jQ y40 = some r) ?_ ?_
  ·refine af <| aa ?_;show AR _ _ _ _ _ [0, 1, 2, 3, 4] _;refine zm rfl <| zS rfl (ak (n := 0) (by kernel_rfl) rfl) <| zS rfl (cD (Ar := 0) (k := 1) (m := 38) bM (by kernel_rfl) rfl rfl rfl (by decide)) <| zR rfl (aq (i := 0) aj rfl rfl rfl rfl) <| zS rfl (jT (.inl rfl) aj rfl rfl) <| ah <| ax rfl (fun _ => ?_) (fun hx => bq rfl hx);obtain ⟨g37, H⟩ := aR H;obtain ⟨x38, e39, H⟩ := bB H;refine aa ?_;show AR _ _ _ _ _ [0, 1, 2, 3, 4, 5, 6, 7, 8] _;refine zS rfl (ak (n := 256) (by kernel_rfl) rfl) <| zR rfl (aq (i := 0) al rfl rfl rfl rfl) <| zm rfl <| zR rfl (cS (E := Enc.byte) (bytes := 1) (xs := [.tmp 120]) (l := ([38] : List UInt8)) aj (by kernel_rfl) rfl rfl (by decide) rfl rfl) <| zS rfl (dI aj bA ac rfl) <| zR rfl (cS (E := Enc.str) (bytes := 16) (xs := [.tmp 122]) (l := ([([38] : List UInt8)] : List (List UInt8))) al (by kernel_rfl) rfl rfl (by decide) rfl rfl) <| zX rfl (fK (E := Enc.str) (bytes := 16) 2 al al rfl (by kernel_rfl) rfl rfl rfl rfl g37 e39) ?_;rintro _ _ ⟨t36, rfl, rfl⟩;refine zS rfl (ak (n := 256) (by kernel_rfl) rfl) <| s0 rfl rfl (aB (i := 0) (c := slE _ _ _) (by kernel_rfl) rfl rfl rfl rfl (ag rfl)) <| ah ?_
   exact Exists.intro (x38, t36) ⟨H, aW [0, 0, 0] (.cons (.refl _) (.cons (.refl _) (.cons (.refl _) (.cons (.refl _) (.cons (.refl _) (.nil _)))))) rfl⟩
  rintro ⟨y40, t41⟩ H;replace H : jQ y40 = some r := H
  unfold jQ at H
  obtain ⟨g43, H⟩ := aR H;refine aa ?_;show AR _ _ _ _ _ [0, 1, 2, 3, 4, 5] _;refine zm rfl <| zm rfl <| zR rfl (OpX.still (dD (bytes := 1) ac aj bA rfl g43)) <| zS rfl (ak (n := 0) (by kernel_rfl) rfl) <| zS rfl (cD (Ar := 0) (k := 1) (m := 38) bM (by kernel_rfl) rfl rfl rfl (by decide)) <| s0 rfl rfl (aB (i := 0) (c := slE _ _ _) (by kernel_rfl) rfl rfl rfl rfl (ag rfl)) <| ah <| aa ?_;show AR _ _ _ _ _ [0, 1, 2] _;refine zm rfl <| zS rfl (bc (av' := i64 (-2)) (ld rfl rfl (by decide)) rfl) <| za rfl <| ah <| af <| af <| aa ?_;show AR _ _ _ _ _ [0, 1] _;refine zm rfl <| zS rfl (bc (av' := B false) (eC rfl rfl) (az (by decide))) <| ah <| ax rfl (fun hx => bq hx rfl) (fun _ => ?_);refine cf ?_;exact Exists.intro (y40, t41) ⟨H, aW [0, 0, 0] (.cons (.refl _) (.nil _)) rfl⟩
 rintro ⟨y44, t45⟩ H;replace H : jR y44 = some r := H
 unfold jR at H
 refine af <| aa ?_;show AR _ _ _ _ _ [0, 1] _;refine AR.freezeCp 11 0 rfl rfl <| zS rfl (bx (a := .cp _) Tryz.underlying141 rfl rfl) <| zS rfl (aO (av := .ifc _ _) rfl) <| ah <| aP ?_;obtain rfl := am H;exact And.intro rfl ⟨_, _, aF rfl (.refl _), aK [0] rfl, t45, by kernel_rfl, rfl⟩
set_option maxRecDepth 100000 in
set_option maxHeartbeats 1000000 in
theorem w_rp_New (F : Nat) (q1 : Option Nat) (H : rp_New F = some ()) : ACalls Tryz.prog 52 [slE Enc.str entOld q1] [] (fun e A' => ∃ o t : Nat, e = .ret (.pt o 0) ∧ A' = [.obj o [.v (.int .u32 0), .v (.int .i32 0), .v (.int .u32 0), .v .nilIface, slE Enc.str entOld (some t)]]) := by
 unfold rp_New at H
 refine ay Tryz.func52 rfl rfl ?_;show AW _ _ 12 _ _ _;refine af <| aa ?_;show AR _ _ _ _ _ [0] _;refine za rfl <| ah <| bw (X := Unit) (fun _ => ⟨[(0, slE Enc.str entOld q1)], [], []⟩) (fun _ => lL = some ()) ?_ ?_
 ·refine af ?_;obtain ⟨g2, H⟩ := aR H;refine aa ?_;show AR _ _ _ _ _ [0, 1, 2, 3] _;refine zS rfl (ai (av := slE _ _ _) rfl) <| zS rfl (bc (av' := i64 8) (aV al rfl) rfl) <| zS rfl (bc (av' := i64 0) (g_rem rfl rfl g2) rfl) <| zS rfl (bc (av' := B false) (bR rfl rfl) (az (by decide))) <| ah <| ax rfl (fun hx => bq hx rfl) (fun _ => ?_);refine aC ?_;exact Exists.intro () ⟨H, aW [] (.cons (.refl _) (.nil _)) rfl⟩
 rintro _ H;replace H : lL = some () := H
 unfold lL at H
 refine af ?_;obtain ⟨g5, H⟩ := aR H;refine aa ?_;show AR _ _ _ _ _ [0, 1, 2, 3, 4] _;refine zS rfl (ai (av := slE _ _ _) rfl) <| zX rfl (rR (E := Enc.str) (bytes := 16) al al rfl (by kernel_rfl) rfl rfl rfl g5) ?_;rintro _ _ ⟨t4, rfl, rfl⟩;refine zS rfl (fi (zs := [(.int .u32 0), (.int .i32 0), (.int .u32 0), .nilIface, .slice none 0 0]) (ps := [(0, 3), (3, 1), (4, 1)]) (cs := [.v (.int .u32 0), .v (.int .i32 0), .v (.int .u32 0), .v .nilIface, slE Enc.str entOld (some t4)]) (by kernel_rfl) rfl rfl) <| zX rfl (vk rfl (.inr ⟨_, rfl⟩)) ?_;rintro _ _ ⟨o6, rfl, rfl⟩;refine zS rfl (aO (av := .pt _ _) rfl) <| ah <| aP ?_;exact And.intro rfl ⟨_, _, aF rfl (.refl _), aK [0] rfl, _, _, rfl, rfl⟩
set_option maxRecDepth 100000 in
set_option maxHeartbeats 1000000 in
theorem rG (F : Nat) (q1 : Option Nat) (a2 : List UInt8) (r3 : List UInt8) (H : fH F a2 = some r3) : ACalls Tryz.prog 211 [.cp (eQ entRep q1), S a2] [] (Ret (S r3) []) := by
 unfold fH at H
 refine ay Tryz.func211 rfl rfl ?_;show AW _ _ 122 _ _ _;refine af <| aa ?_;show AR _ _ _ _ _ [0] _;refine za rfl <| ah <| af <| aa ?_;show AR _ _ _ _ _ [0, 1, 2] _;refine zm rfl <| zS rfl (aZ ac rfl) <| za rfl <| ah <| af <| aa ?_;show AR _ _ _ _ _ [0] _;refine za rfl <| ah <| bw (X := Int × Bool) (fun (y55, y56) => ⟨[(0, .cp (eQ entRep q1)), (1, S a2), (5, i64 y55), (6, B y56)], [], []⟩) (fun (y55, y56) => di F a2 y55 y56 = some r3) ?_ ?_
 ·refine af ?_;obtain ⟨g4, H⟩ := aR H;refine aa ?_;show AR _ _ _ _ _ [0, 1, 2, 3, 4, 5, 6, 7, 8] _;refine zS rfl (ai (av := .cp _) rfl) <| zS rfl (aX rfl) <| zS rfl (bc (av' := .cp [slE Enc.str entRep q1]) (aE (n := 256) (by kernel_rfl) rfl (entLe _)) (vu _)) <| zS rfl (aA al rfl rfl) <| zS rfl (aV al rfl) <| zS rfl (g_mul rfl rfl g4) <| zm rfl <| zS rfl (aZ ac rfl) <| zS rfl (fR rfl rfl) <| ah <| ax rfl (fun c5 => ?_) (fun c5 => ?_)
  ·replace H := ba c5 H;refine af <| aa ?_;show AR _ _ _ _ _ [0, 1, 2, 3, 4, 5] _;refine zS rfl (ai (av := .cp _) rfl) <| zS rfl (aX rfl) <| zS rfl (bc (av' := .cp [slE Enc.str entRep q1]) (aE (n := 256) (by kernel_rfl) rfl (entLe _)) (vu _)) <| zS rfl (aA al rfl rfl) <| zS rfl (aV al rfl) <| zm rfl <| ah <| aQ <| cJ (X := Nat × Int × Bool × Int) (fun (n10, y6, y7, y8) => ⟨[(0, .cp (eQ entRep q1)), (1, S a2), (5, i64 y6), (6, B y7), (30, slE Enc.str entRep q1), (31, i64 (entRep.length : Int)), (32, i64 y8)], [], []⟩) (fun (n10, y6, y7, y8) => cw F a2 n10 (y6, y7, y8) = some r3) (fun (n10, y6, y7, y8) => n10) (F, (a2.length : Int), false, 0) H (aW [] (.cons (.refl _) (.cons (.refl _) (.cons (.refl _) (.cons (.refl _) (.cons (.refl _) (.cons (.refl _) (.cons (.refl _) (.nil _)))))))) rfl) ?_;rintro ⟨n10, y6, y7, y8⟩ H;obtain ⟨n10, rfl, H⟩ := dz H;replace H : eA F a2 (cw F a2 n10) y6 y7 y8 = some r3 := H
   unfold eA at H
   refine af <| aa ?_;show AR _ _ _ _ _ [0] _;refine zS rfl (bQ rfl rfl) <| ah <| af <| ax rfl (fun c11 => ?_) (fun c11 => ?_)
   ·replace H := ba c11 H;refine aC <| bw (X := Int × Bool) (fun (y28, y29) => ⟨[(0, .cp (eQ entRep q1)), (1, S a2), (5, i64 y28), (6, B y29), (30, slE Enc.str entRep q1), (31, i64 (entRep.length : Int)), (32, i64 y8)], [], []⟩) (fun (y28, y29) => fm y8 (cw F a2 n10) y28 y29 = some r3) ?_ ?_
    ·refine aQ <| af ?_;obtain ⟨g12, H⟩ := aR H;obtain ⟨x13, e14, H⟩ := bB H;refine aa ?_;show AR _ _ _ _ _ [0, 1, 2] _;refine zS rfl (bj (E := Enc.str) al (by kernel_rfl) rfl rfl g12 e14) <| zS rfl (aA ac rfl rfl) <| za rfl <| ah <| af ?_;obtain ⟨g15, H⟩ := aR H;obtain ⟨x16, e17, H⟩ := bB H;refine aa ?_;show AR _ _ _ _ _ [0, 1, 2, 3] _;refine zm rfl <| zm rfl <| ap rfl rfl (aI rfl wy rfl (show ACalls _ _ _ [] (Ret (i64 x16) []) from by subst e17; exact up a2 x13 (of_decide_eq_true g15)) ?_);refine za rfl <| ah <| af <| aa ?_;show AR _ _ _ _ _ [0, 1] _;refine zm rfl <| zS rfl (dh rfl rfl) <| ah <| ax rfl (fun c18 => ?_) (fun c18 => ?_)
     ·replace H := ba c18 H;refine af ?_;obtain ⟨g19, H⟩ := aR H;obtain ⟨x20, e21, H⟩ := bB H;obtain ⟨g22, H⟩ := aR H;obtain ⟨x23, e24, H⟩ := bB H;obtain ⟨g25, H⟩ := aR H;obtain ⟨g26, H⟩ := aR H;obtain ⟨g27, H⟩ := aR H;refine bI (by kernel_rfl) ?_;show AI _ _ _ _ _ 14 (Array.replicate 14 false) _;refine zk 0 rfl (mv rfl) ?_;show AI _ _ _ _ _ _ #[true, false, false, false, false, false, false, false, false, false, false, false, false, false] _;refine zk 1 rfl (mv rfl) ?_;show AI _ _ _ _ _ _ #[true, true, false, false, false, false, false, false, false, false, false, false, false, false] _;refine zk 2 rfl (ai (av := .cp _) rfl) ?_;show AI _ _ _ _ _ _ #[true, true, true, false, false, false, false, false, false, false, false, false, false, false] _;refine zk 3 rfl (mv rfl) ?_;show AI _ _ _ _ _ _ #[true, true, true, true, false, false, false, false, false, false, false, false, false, false] _;refine zk 4 rfl (br ac rfl rfl g19 e21) ?_;show AI _ _ _ _ _ _ #[true, true, true, true, true, false, false, false, false, false, false, false, false, false] _;refine zk 5 rfl (aX rfl) ?_;show AI _ _ _ _ _ _ #[true, true, true, true, true, true, false, false, false, false, false, false, false, false] _;refine zk 6 rfl (bc (aE (n := 0) (by kernel_rfl) rfl (Nat.zero_le _)) rfl) ?_;show AI _ _ _ _ _ _ #[true, true, true, true, true, true, true, false, false, false, false, false, false, false] _
      refine zk 7 rfl (cZ (E := Enc.ob) (l := iO) (post := [slE Enc.str entRep q1]) rfl bM (by kernel_rfl) rfl rfl (by decide) g22 e24 rfl) ?_;show AI _ _ _ _ _ _ #[true, true, true, true, true, true, true, true, false, false, false, false, false, false] _;refine bP (i := 8) (by kernel_rfl) rfl rfl <| bp rfl (OpS.opR (pO (aA (c := ob x23) aj rfl rfl) (ob_sl _)) _) ?_;show AI _ _ _ _ _ _ #[true, true, true, true, true, true, true, true, true, false, false, false, false, false] _;refine zk 9 rfl (aV aj rfl) ?_;show AI _ _ _ _ _ _ #[true, true, true, true, true, true, true, true, true, true, false, false, false, false] _;refine zk 10 rfl (ld rfl rfl g25) ?_;show AI _ _ _ _ _ _ #[true, true, true, true, true, true, true, true, true, true, true, false, false, false] _;refine zk 11 rfl (g_mul rfl rfl g26) ?_;show AI _ _ _ _ _ _ #[true, true, true, true, true, true, true, true, true, true, true, true, false, false] _;refine zk 12 rfl (cH rfl rfl g27) ?_;show AI _ _ _ _ _ _ #[true, true, true, true, true, true, true, true, true, true, true, true, true, false] _;refine zk 13 rfl (asg rfl) ?_;show AI _ _ _ _ _ _ #[true, true, true, true, true, true, true, true, true, true, true, true, true, true] _;refine cx rfl <| aa ?_;show AR _ _ _ _ _ [0] _;refine za rfl <| ah ?_
      exact Exists.intro (y6 + (x16 * (((x23.getD []).length : Int) - 1)), true) ⟨H, aW [] (.cons (.refl _) (.cons (.refl _) (.cons (.refl _) (.cons (.refl _) (.cons (.refl _) (.cons (.refl _) (.cons (.refl _) (.nil _)))))))) rfl⟩
     ·replace H := bb c18 H;refine aC ?_;exact Exists.intro (y6, y7) ⟨H, aW [] (.cons (.refl _) (.cons (.refl _) (.cons (.refl _) (.cons (.refl _) (.cons (.refl _) (.cons (.refl _) (.cons (.refl _) (.nil _)))))))) rfl⟩
    rintro ⟨y28, y29⟩ H;replace H : fm y8 (cw F a2 n10) y28 y29 = some r3 := H
    unfold fm at H
    obtain ⟨g31, H⟩ := aR H;refine aa ?_;show AR _ _ _ _ _ [0, 1] _;refine zS rfl (cH rfl rfl g31) <| zm rfl <| ah ?_;exact Exists.intro (n10, y28, y29, y8 + 1) ⟨H, Nat.lt_succ_self _, aW [] (.cons (.refl _) (.cons (.refl _) (.cons (.refl _) (.cons (.refl _) (.cons (.refl _) (.cons (.refl _) (.cons (.refl _) (.nil _)))))))) rfl⟩
   ·replace H := bb c11 H;refine cf ?_;exact Exists.intro (y6, y7) ⟨H, aW [] (.cons (.refl _) (.cons (.refl _) (.cons (.refl _) (.cons (.refl _) (.nil _))))) rfl⟩
  ·replace H := bb c5 H;refine af <| aa ?_;show AR _ _ _ _ _ [0] _;refine za rfl <| ah <| aQ <| cJ (X := Nat × Int × Bool × Int) (fun (n36, y32, y33, y34) => ⟨[(0, .cp (eQ entRep q1)), (1, S a2), (5, i64 y32), (6, B y33), (10, i64 y34)], [], []⟩) (fun (n36, y32, y33, y34) => ew F a2 n36 (y32, y33, y34) = some r3) (fun (n36, y32, y33, y34) => n36) (F, (a2.length : Int), false, 0) H (aW [] (.cons (.refl _) (.cons (.refl _) (.cons (.refl _) (.cons (.refl _) (.cons (.refl _) (.nil _)))))) rfl) ?_;rintro ⟨n36, y32, y33, y34⟩ H;obtain ⟨n36, rfl, H⟩ := dz H;replace H : ge F a2 (ew F a2 n36) y32 y33 y34 = some r3 := H
   unfold ge at H
   refine af <| af <| aa ?_;show AR _ _ _ _ _ [0, 1, 2, 3] _;refine zm rfl <| zm rfl <| zS rfl (aZ ac rfl) <| zS rfl (bQ rfl rfl) <| ah <| ax rfl (fun c37 => ?_) (fun c37 => ?_)
   ·replace H := ba c37 H;refine aC <| bw (X := Int × Bool) (fun (y51, y52) => ⟨[(0, .cp (eQ entRep q1)), (1, S a2), (5, i64 y51), (6, B y52), (10, i64 y34)], [], []⟩) (fun (y51, y52) => fk y34 (ew F a2 n36) y51 y52 = some r3) ?_ ?_
    ·refine aQ <| af ?_;obtain ⟨g38, H⟩ := aR H;obtain ⟨x39, e40, H⟩ := bB H;refine aa ?_;show AR _ _ _ _ _ [0, 1, 2, 3] _;refine zm rfl <| zm rfl <| zS rfl (br ac rfl rfl g38 e40) <| za rfl <| ah <| af ?_;obtain ⟨g41, H⟩ := aR H;obtain ⟨x42, e43, H⟩ := bB H;obtain ⟨g44, H⟩ := aR H;refine aa ?_;show AR _ _ _ _ _ [0, 1, 2, 3, 4, 5, 6] _;refine zS rfl (ai (av := .cp _) rfl) <| zm rfl <| zS rfl (aX rfl) <| zS rfl (bc (aE (n := 0) (by kernel_rfl) rfl (Nat.zero_le _)) rfl) <| zS rfl (cZ (E := Enc.ob) (l := iO) (post := [slE Enc.str entRep q1]) rfl bM (by kernel_rfl) rfl rfl (by decide) g41 e43 rfl) <| zS rfl (aA (c := ob x42) aj rfl rfl) <| zS rfl (mF (.inr rfl) aj rfl rfl g44) <| ah <| ax rfl (fun c45 => ?_) (fun c45 => ?_)
     ·replace H := ba c45 H;refine af ?_;obtain ⟨g46, H⟩ := aR H;obtain ⟨x47, e48, H⟩ := bB H;obtain ⟨g49, H⟩ := aR H;obtain ⟨g50, H⟩ := aR H;refine aa ?_;show AR _ _ _ _ _ [0, 1, 2, 3, 4, 5, 6, 7, 8, 9, 10] _;refine zm rfl <| zS rfl (ai (av := .cp _) rfl) <| zm rfl <| zS rfl (aX rfl) <| zS rfl (bc (aE (n := 0) (by kernel_rfl) rfl (Nat.zero_le _)) rfl) <| zS rfl (cZ (E := Enc.ob) (l := iO) (post := [slE Enc.str entRep q1]) rfl bM (by kernel_rfl) rfl rfl (by decide) g46 e48 rfl) <| zS rfl (pO (aA (c := ob x47) aj rfl rfl) (ob_sl _)) <| zS rfl (aV aj rfl) <| zS rfl (ld rfl rfl g49) <| zS rfl (cH rfl rfl g50) <| za rfl <| ah <| aa ?_;show AR _ _ _ _ _ [0] _;refine za rfl <| ah ?_;exact Exists.intro (y32 + (((x47.getD []).length : Int) - 1), true) ⟨H, aW [] (.cons (.refl _) (.cons (.refl _) (.cons (.refl _) (.cons (.refl _) (.cons (.refl _) (.nil _)))))) rfl⟩
     ·replace H := bb c45 H;refine aC ?_;exact Exists.intro (y32, y33) ⟨H, aW [] (.cons (.refl _) (.cons (.refl _) (.cons (.refl _) (.cons (.refl _) (.cons (.refl _) (.nil _)))))) rfl⟩
    rintro ⟨y51, y52⟩ H;replace H : fk y34 (ew F a2 n36) y51 y52 = some r3 := H
    unfold fk at H
    obtain ⟨g54, H⟩ := aR H;refine aa ?_;show AR _ _ _ _ _ [0, 1, 2] _;refine zm rfl <| zS rfl (cH rfl rfl g54) <| za rfl <| ah ?_;exact Exists.intro (n36, y51, y52, y34 + 1) ⟨H, Nat.lt_succ_self _, aW [] (.cons (.refl _) (.cons (.refl _) (.cons (.refl _) (.cons (.refl _) (.cons (.refl _) (.nil _)))))) rfl⟩
   ·replace H := bb c37 H;refine cf ?_;exact Exists.intro (y32, y33) ⟨H, aW [] (.cons (.refl _) (.cons (.refl _) (.cons (.refl _) (.cons (.refl _) (.nil _))))) rfl⟩
 rintro ⟨y55, y56⟩ H;replace H : di F a2 y55 y56 = some r3 := H
 unfold di at H
 refine af <| af <| aa ?_;show AR _ _ _ _ _ [0, 1] _;refine zm rfl <| zS rfl (cd rfl) <| ah <| ax rfl (fun c58 => ?_) (fun c58 => ?_)
 ·replace H := ba c58 H;refine af <| aa ?_;show AR _ _ _ _ _ [0, 1] _;refine zm rfl <| za rfl <| ah <| aP ?_;obtain rfl := am H;exact And.intro rfl (Exists.intro _ (Exists.intro _ ⟨aF rfl (.refl _), aK [] rfl, rfl, rfl⟩))
 ·replace H := bb c58 H;refine aC <| af ?_;obtain ⟨g59, H⟩ := aR H;refine aa ?_;show AR _ _ _ _ _ [0, 1, 2] _;refine zm rfl <| zX rfl (sN (E := Enc.byte) (bytes := 1) (zv := 0) aj (by kernel_rfl) (by kernel_rfl) rfl rfl rfl rfl rfl g59) ?_;rintro _ _ ⟨o60, rfl, rfl⟩;refine zS rfl (aO (av := .vw _ _ _ _) rfl) <| ah <| af <| aa ?_;show AR _ _ _ _ _ [0] _;refine za rfl <| ah <| bw (X := (List UInt8)) (fun y93 => ⟨[(12, .vw o60 0 (Int.toNat y55) (Int.toNat y55))], [], [.obj o60 (Enc.byte.fl y93 ++ List.replicate 0 .any)]⟩) (fun y93 => gd y55 y93 = some r3) ?_ ?_
  ·refine af <| aa ?_;show AR _ _ _ _ _ [0] _;refine za rfl <| ah <| aQ <| cJ (X := Nat × Int × Int × (List UInt8)) (fun (n65, y61, y62, y63) => ⟨[(0, .cp (eQ entRep q1)), (1, S a2), (12, .vw o60 0 (Int.toNat y55) (Int.toNat y55)), (13, i64 y61), (14, i64 y62)], [], [.obj o60 (Enc.byte.fl y63 ++ List.replicate 0 .any)]⟩) (fun (n65, y61, y62, y63) => ez a2 y55 n65 (y61, y62, y63) = some r3) (fun (n65, y61, y62, y63) => n65) (F, 0, 0, List.replicate (Int.toNat y55) 0) H (aW [0] (.cons (.refl _) (.cons (.refl _) (.cons (.refl _) (.cons (.refl _) (.cons (.refl _) (.nil _)))))) rfl) ?_;rintro ⟨n65, y61, y62, y63⟩ H;obtain ⟨n65, rfl, H⟩ := dz H;replace H : gf a2 y55 (ez a2 y55 n65) y61 y62 y63 = some r3 := H
   unfold gf at H
   refine af <| af <| aa ?_;show AR _ _ _ _ _ [0, 1, 2, 3] _;refine zm rfl <| zm rfl <| zS rfl (aZ ac rfl) <| zS rfl (bQ rfl rfl) <| ah <| ax rfl (fun c66 => ?_) (fun c66 => ?_)
   ·replace H := ba c66 H;refine aC <| bw (X := Int × (List UInt8)) (fun (y89, y90) => ⟨[(0, .cp (eQ entRep q1)), (1, S a2), (12, .vw o60 0 (Int.toNat y55) (Int.toNat y55)), (13, i64 y89), (14, i64 y62)], [], [.obj o60 (Enc.byte.fl y90 ++ List.replicate 0 .any)]⟩) (fun (y89, y90) => fo y62 (ez a2 y55 n65) y89 y90 = some r3) ?_ ?_
    ·refine aQ <| af ?_;obtain ⟨g67, H⟩ := aR H;obtain ⟨x68, e69, H⟩ := bB H;refine aa ?_;show AR _ _ _ _ _ [0, 1, 2, 3] _;refine zm rfl <| zm rfl <| zS rfl (br ac rfl rfl g67 e69) <| za rfl <| ah <| af ?_;obtain ⟨g70, H⟩ := aR H;obtain ⟨x71, e72, H⟩ := bB H;obtain ⟨g73, H⟩ := aR H;refine aa ?_;show AR _ _ _ _ _ [0, 1, 2, 3, 4, 5, 6] _;refine zS rfl (ai (av := .cp _) rfl) <| zm rfl <| zS rfl (aX rfl) <| zS rfl (bc (aE (n := 0) (by kernel_rfl) rfl (Nat.zero_le _)) rfl) <| zS rfl (cZ (E := Enc.ob) (l := iO) (post := [slE Enc.str entRep q1]) rfl bM (by kernel_rfl) rfl rfl (by decide) g70 e72 rfl) <| zS rfl (aA (c := ob x71) aj rfl rfl) <| zS rfl (mF (.inr rfl) aj rfl rfl g73) <| ah <| ax rfl (fun c74 => ?_) (fun c74 => ?_)
     ·replace H := ba c74 H;obtain ⟨g75, H⟩ := aR H;obtain ⟨g76, H⟩ := aR H;obtain ⟨x77, e78, H⟩ := bB H;obtain ⟨g79, H⟩ := aR H;obtain ⟨g80, H⟩ := aR H;obtain ⟨x81, e82, H⟩ := bB H;obtain ⟨g83, H⟩ := aR H;refine bI (by kernel_rfl) ?_;show AI _ _ _ _ _ 13 (Array.replicate 13 false) _;refine zk 0 rfl (mv rfl) ?_;show AI _ _ _ _ _ _ #[true, false, false, false, false, false, false, false, false, false, false, false, false] _;refine zk 1 rfl (ai (av := .vw _ _ _ _) rfl) ?_;show AI _ _ _ _ _ _ #[true, true, false, false, false, false, false, false, false, false, false, false, false] _;refine zk 2 rfl (mv rfl) ?_;show AI _ _ _ _ _ _ #[true, true, true, false, false, false, false, false, false, false, false, false, false] _;refine zk 3 rfl (sZ aj (by kernel_rfl) rfl rfl g75 (Nat.le_refl _)) ?_;show AI _ _ _ _ _ _ #[true, true, true, true, false, false, false, false, false, false, false, false, false] _;refine zk 4 rfl (ai (av := .cp _) rfl) ?_;show AI _ _ _ _ _ _ #[true, true, true, true, true, false, false, false, false, false, false, false, false] _;refine zk 5 rfl (mv rfl) ?_;show AI _ _ _ _ _ _ #[true, true, true, true, true, true, false, false, false, false, false, false, false] _;refine zk 6 rfl (aX rfl) ?_;show AI _ _ _ _ _ _ #[true, true, true, true, true, true, true, false, false, false, false, false, false] _;refine zk 7 rfl (bc (aE (n := 0) (by kernel_rfl) rfl (Nat.zero_le _)) rfl) ?_
      show AI _ _ _ _ _ _ #[true, true, true, true, true, true, true, true, false, false, false, false, false] _;refine zk 8 rfl (cZ (E := Enc.ob) (l := iO) (post := [slE Enc.str entRep q1]) rfl bM (by kernel_rfl) rfl rfl (by decide) g76 e78 rfl) ?_;show AI _ _ _ _ _ _ #[true, true, true, true, true, true, true, true, true, false, false, false, false] _;refine bP (i := 9) (by kernel_rfl) rfl rfl <| bp rfl (OpS.opR (pO (aA (c := ob x77) aj rfl rfl) (ob_sl _)) _) ?_;show AI _ _ _ _ _ _ #[true, true, true, true, true, true, true, true, true, true, false, false, false] _;refine bP (i := 10) (by kernel_rfl) rfl rfl <| bp rfl (uw (k := 0) aj (by kernel_rfl) rfl rfl rfl g79 g80 e82) ?_;show AI _ _ _ _ _ _ #[true, true, true, true, true, true, true, true, true, true, true, false, false] _;refine zk 11 rfl (cH rfl rfl g83) ?_;show AI _ _ _ _ _ _ #[true, true, true, true, true, true, true, true, true, true, true, true, false] _;refine zk 12 rfl (asg rfl) ?_;show AI _ _ _ _ _ _ #[true, true, true, true, true, true, true, true, true, true, true, true, true] _;refine cx rfl ?_;exact Exists.intro (y61 + ((x77.getD []).length : Int), x81) ⟨H, aW [0] (.cons (.refl _) (.cons (.refl _) (.cons (.refl _) (.cons (.refl _) (.cons (.refl _) (.nil _)))))) rfl⟩
     ·replace H := bb c74 H;refine af ?_;obtain ⟨g84, H⟩ := aR H;obtain ⟨g85, H⟩ := aR H;obtain ⟨x86, e87, H⟩ := bB H;refine aa ?_;show AR _ _ _ _ _ [0, 1, 2, 3, 4] _;refine zS rfl (ai (av := .vw _ _ _ _) rfl) <| zm rfl <| zm rfl <| zS rfl (oK aj (by kernel_rfl) rfl rfl g84) <| s0 rfl rfl (sY (k := 0) (c := x68) (by kernel_rfl) rfl rfl rfl g85 e87) <| ah ?_;obtain ⟨g88, H⟩ := aR H;refine aa ?_;show AR _ _ _ _ _ [0, 1, 2] _;refine zm rfl <| zS rfl (cH rfl rfl g88) <| za rfl <| ah ?_;exact Exists.intro (y61 + 1, x86) ⟨H, aW [0] (.cons (.refl _) (.cons (.refl _) (.cons (.refl _) (.cons (.refl _) (.cons (.refl _) (.nil _)))))) rfl⟩
    rintro ⟨y89, y90⟩ H;replace H : fo y62 (ez a2 y55 n65) y89 y90 = some r3 := H
    unfold fo at H
    obtain ⟨g92, H⟩ := aR H;refine aa ?_;show AR _ _ _ _ _ [0, 1, 2] _;refine zm rfl <| zS rfl (cH rfl rfl g92) <| za rfl <| ah ?_;exact Exists.intro (n65, y89, y62 + 1, y90) ⟨H, Nat.lt_succ_self _, aW [0] (.cons (.refl _) (.cons (.refl _) (.cons (.refl _) (.cons (.refl _) (.cons (.refl _) (.nil _)))))) rfl⟩
   ·replace H := bb c66 H;refine cf ?_;exact Exists.intro y63 ⟨H, aW [0] (.cons (.refl _) (.nil _)) rfl⟩
  rintro y93 H;replace H : gd y55 y93 = some r3 := H
  unfold gd at H
  refine af ?_;obtain ⟨g95, H⟩ := aR H;refine aa ?_;show AR _ _ _ _ _ [0, 1, 2] _;refine zS rfl (ai (av := .vw _ _ _ _) rfl) <| zR rfl (nH (k := 0) aj bA ac rfl g95 rfl) <| za rfl <| ah <| aP ?_;obtain rfl := am H;exact And.intro rfl (Exists.intro _ (Exists.intro _ ⟨aF rfl (.refl _), aK [] rfl, rfl, rfl⟩))
theorem en100_h : ∀ (args : Array Value) (w : World), (callFunc 100 args).run Tryz.prog w = .ok (.enter 100 args) w := fun _ _ => by kernel_rfl
theorem en115_h : ∀ (args : Array Value) (w : World), (callFunc 115 args).run Tryz.prog w = .ok (.enter 115 args) w := fun _ _ => by kernel_rfl
theorem en116_h : ∀ (args : Array Value) (w : World), (callFunc 116 args).run Tryz.prog w = .ok (.enter 116 args) w := fun _ _ => by kernel_rfl
theorem en117_h : ∀ (args : Array Value) (w : World), (callFunc 117 args).run Tryz.prog w = .ok (.enter 117 args) w := fun _ _ => by kernel_rfl
theorem en98_h : ∀ (args : Array Value) (w : World), (callFunc 98 args).run Tryz.prog w = .ok (.enter 98 args) w := fun _ _ => by kernel_rfl
theorem en83_h : ∀ (args : Array Value) (w : World), (callFunc 83 args).run Tryz.prog w = .ok (.enter 83 args) w := fun _ _ => by kernel_rfl
theorem en99_h : ∀ (args : Array Value) (w : World), (callFunc 99 args).run Tryz.prog w = .ok (.enter 99 args) w := fun _ _ => by kernel_rfl
theorem en82_h : ∀ (args : Array Value) (w : World), (callFunc 82 args).run Tryz.prog w = .ok (.enter 82 args) w := fun _ _ => by kernel_rfl
theorem en211_h : ∀ (args : Array Value) (w : World), (callFunc 211 args).run Tryz.prog w = .ok (.enter 211 args) w := fun _ _ => by kernel_rfl
theorem en52_h : ∀ (args : Array Value) (w : World), (callFunc 52 args).run Tryz.prog w = .ok (.enter 52 args) w := fun _ _ => by kernel_rfl
theorem en53_h : ∀ (args : Array Value) (w : World), (callFunc 53 args).run Tryz.prog w = .ok (.enter 53 args) w := fun _ _ => by kernel_rfl
abbrev rpC (d s : Int) (x y : AV) : List AV := [.v (.int .u32 d), .v (.int .i32 s), .v (.int .u32 0), x, y]
abbrev rpT (t : Nat) : AV := .ifc 141 (.cp (eQ entRep (some t)))
set_option maxRecDepth 100000 in
theorem sH (o : Nat) (q : Option Nat) : ACalls Tryz.prog 83 [.pt o 0] [.obj o (rpC 0 1 (.v .nilIface) (slE Enc.str entOld q))] (fun e A' => ∃ t : Nat, e = .ret (.tup []) ∧ A' = [.obj o (rpC 0 1 (rpT t) ab)]) := by
 refine ay Tryz.func83 rfl rfl ?_;show AW _ _ 10 _ _ _;refine af <| aa ?_;show AR _ _ _ _ _ [0, 1, 2, 3, 4, 5] _;refine zS rfl (ai (av := .pt _ _) rfl) <| zS rfl (ai (av := .pt _ _) rfl) <| ap rfl rfl (dx [] rfl en100_h rfl (ub 0 o q entRep (by decide +kernel)) (bh _) ?_ (fun c A' h => by obtain ⟨t, h, _⟩ := h; cases h));rintro av A' ⟨t, h, rfl⟩
 cases h
 refine zS rfl (ar rfl) <| zS rfl (ak (n := 3) (by kernel_rfl) rfl) <| s0 rfl rfl (aB (i := 0) (c := .ifc _ _) (by kernel_rfl) rfl rfl rfl rfl (ag rfl)) <| ah <| aa ?_;show AR _ _ _ _ _ [0, 1, 2, 3] _;refine zS rfl (ai (av := .pt _ _) rfl) <| zS rfl (ar rfl) <| zS rfl (ak (n := 4) (by kernel_rfl) rfl) <| s0 rfl rfl (aB (i := 0) (c := .v _) (by kernel_rfl) rfl rfl rfl rfl (ag rfl)) <| ah ?_;exact And.intro rfl ⟨_, _, bD rfl, aK [0] rfl, t, rfl, rfl⟩
set_option maxRecDepth 100000 in
theorem w_doSlow (o : Nat) (q : Option Nat) : ACalls Tryz.prog 99 [.pt o 0, .fn (.func 83) [.pt o 0] []] [.obj o (rpC 0 0 (.v .nilIface) (slE Enc.str entOld q))] (fun e A' => ∃ t : Nat, e = .ret (.tup []) ∧ A' = [.obj o (rpC 1 0 (rpT t) ab)]) := by
 refine lb [] Tryz.func99 rfl rfl ?_;show AW _ _ 21 _ _ _;refine af <| aa ?_;show AR _ _ _ _ _ [0, 1, 2, 3] _;refine zS rfl (ai (av := .pt _ _) rfl) <| zS rfl (ar rfl) <| zS rfl (ak (n := 1) (by kernel_rfl) rfl) <| ap rfl rfl (be [0] rfl en115_h rfl (vF 0 o _ _ rfl) rfl (fun c A' h => by cases h.1) ?_)
 rintro av A' ⟨h, rfl⟩; cases h
 refine ah <| af <| aa ?_;show AR _ _ _ _ _ [0, 1, 2, 3] _;refine zS rfl (ai (av := .pt _ _) rfl) <| zS rfl (ar rfl) <| zS rfl (ak (n := 1) (by kernel_rfl) rfl) <| ap rfl rfl (AO.deferFn rfl ?_);refine ah <| af <| aa ?_;show AR _ _ _ _ _ [0, 1, 2, 3, 4] _;refine zS rfl (ai (av := .pt _ _) rfl) <| zS rfl (ar rfl) <| zS rfl (ak (n := 0) (by kernel_rfl) rfl) <| ap rfl rfl (be [0] rfl en98_h rfl (qy 0 o 0 1 _ _ false rfl) rfl (fun c A' h => by cases h.1) ?_)
 rintro av A' ⟨h, rfl⟩; cases h
 refine zS rfl (cd rfl) <| ah <| ax rfl (fun c => ?_) (fun c => by cases c);refine af <| aa ?_;show AR _ _ _ _ _ [0, 1, 2, 3] _;refine zS rfl (ai (av := .pt _ _) rfl) <| zS rfl (ar rfl) <| zS rfl (ak (n := 0) (by kernel_rfl) rfl) <| ap rfl rfl (AO.deferFn rfl ?_);refine ah <| aa ?_;show AR _ _ _ _ _ [0, 1] _;refine zS rfl (ai (av := .fn _ _ _) rfl) <| ap rfl rfl (AO.callF [] rfl (.inl rfl) en83_h rfl (sH o q) (bh _) ?_ (fun c A' h => by obtain ⟨t, h, _⟩ := h; cases h));rintro av A' ⟨t, h, rfl⟩
 cases h
 refine ah ?_;show ALeaves _ _ _ _ _ [.call (.func 117) [] [.pt o 0, B true], .call (.func 116) [] [.pt o 1]] .returning [.obj o (rpC 0 1 (rpT t) ab)];refine gi (v := .tup []) (u1 := .returning) (A2 := [.obj o (rpC 1 1 (rpT t) ab)]) [0] (fun h => by cases h) en117_h rfl (uK .returning 0 o _ _ true 1 rfl) <| gi (v := .tup []) (u1 := .returning) (A2 := [.obj o (rpC 1 0 (rpT t) ab)]) [0] (fun h => by cases h) en116_h rfl (tg .returning 0 o 1 _ _ rfl) ?_;exact ⟨.tup [], _, ResT.none rfl, bz _, t, rfl, rfl⟩
set_option maxRecDepth 100000 in
theorem w_Do (o : Nat) (q : Option Nat) : ACalls Tryz.prog 82 [.pt o 0, .fn (.func 83) [.pt o 0] []] [.obj o (rpC 0 0 (.v .nilIface) (slE Enc.str entOld q))] (fun e A' => ∃ t : Nat, e = .ret (.tup []) ∧ A' = [.obj o (rpC 1 0 (rpT t) ab)]) := by
 refine ay Tryz.func82 rfl rfl ?_;show AW _ _ 12 _ _ _;refine af <| aa ?_;show AR _ _ _ _ _ [0, 1, 2, 3, 4] _;refine zS rfl (ai (av := .pt _ _) rfl) <| zS rfl (ar rfl) <| zS rfl (ak (n := 0) (by kernel_rfl) rfl) <| ap rfl rfl (be [0] rfl en98_h rfl (qy 0 o 0 0 _ _ false rfl) rfl (fun c A' h => by cases h.1) ?_)
 rintro av A' ⟨h, rfl⟩; cases h
 refine zS rfl (cd rfl) <| ah <| ax rfl (fun c => ?_) (fun c => by cases c);refine aa ?_;show AR _ _ _ _ _ [0, 1, 2] _;refine zS rfl (ai (av := .pt _ _) rfl) <| zS rfl (ai (av := .fn _ _ _) rfl) <| ap rfl rfl (dx [] rfl en99_h rfl (w_doSlow o q) (bh _) ?_ (fun c A' h => by obtain ⟨t, h, _⟩ := h; cases h));rintro av A' ⟨t, h, rfl⟩
 cases h
 refine ah ?_;exact And.intro rfl ⟨_, _, bD rfl, aK [0] rfl, t, rfl, rfl⟩
set_option maxRecDepth 100000 in
theorem uf (F o : Nat) (q : Option Nat) (s r : List UInt8) (H : fH F s = some r) : ACalls Tryz.prog 53 [.pt o 0, S s] [.obj o (rpC 0 0 (.v .nilIface) (slE Enc.str entOld q))] (fun e A' => e = .ret (S r) ∧ A' = []) := by
 refine ay Tryz.func53 rfl rfl ?_;show AW _ _ 17 _ _ _;refine af <| aa ?_;show AR _ _ _ _ _ [0] _;refine za rfl <| ah <| af <| aa ?_;show AR _ _ _ _ _ [0, 1, 2, 3, 4, 5] _;refine zS rfl (ai (av := .pt _ _) rfl) <| zS rfl (ar rfl) <| zS rfl (ak (n := 0) (by kernel_rfl) rfl) <| zS rfl (ai (av := .pt _ _) rfl) <| zS rfl (jg rfl rfl) <| ap rfl rfl (dx [] rfl en82_h rfl (w_Do o q) (bh _) ?_ (fun c A' h => by obtain ⟨t, h, _⟩ := h; cases h));rintro av A' ⟨t, h, rfl⟩
 cases h
 refine ah <| af <| aa ?_;show AR _ _ _ _ _ [0, 1, 2, 3, 4, 5, 6] _;refine zS rfl (ai (av := .pt _ _) rfl) <| zS rfl (ar rfl) <| zS rfl (ak (n := 3) (by kernel_rfl) rfl) <| zR rfl (aq (i := 0) Tryz.underlying107 rfl rfl rfl rfl) <| zm rfl <| ap rfl rfl (AO.invoke [.obj o (rpC 1 0 (rpT t) ab)] rfl rfl (fun v w => by kernel_rfl) en211_h rfl (rG F (some t) s r H) (bh _) ?_ (fun c A' h => by cases h.1));rintro av A' ⟨h, rfl⟩
 cases h
 refine za rfl <| ah <| aP ?_;exact And.intro rfl ⟨_, _, aF rfl (.refl _), bf _, rfl, rfl⟩
set_option maxRecDepth 100000 in
theorem tm (F : Nat) (s r : List UInt8) (H : fH F s = some r) : ACalls Tryz.prog 29 [S s] [] (Ret (S r) []) := by
 refine ay Tryz.func29 rfl rfl ?_;show AW _ _ 7 _ _ _;refine af <| aa ?_;show AR _ _ _ _ _ [0] _;refine za rfl <| ah <| af <| aa ?_;show AR _ _ _ _ _ [0, 1, 2, 3, 4] _;refine zR rfl (cS (E := Enc.str) (bytes := 16) (xs := entOld.map fun l => .const (.string ⟨l.toArray⟩)) (l := entOld) al (by kernel_rfl) rfl rfl (by decide) rfl rfl) <| ap rfl rfl (dx [] rfl en52_h rfl (w_rp_New 0 none (by decide +kernel)) (bh _) ?_ (fun c A' h => by obtain ⟨o, t, h, _⟩ := h; cases h));rintro av A' ⟨o, t, h, rfl⟩
 cases h
 refine zm rfl <| ap rfl rfl (dx [] rfl en53_h rfl (uf F o (some t) s r H) (bh _) ?_ (fun c A' h => by cases h.1));rintro av A' ⟨h, rfl⟩
 cases h
 refine za rfl <| ah <| aP ?_;exact And.intro rfl ⟨_, _, aF rfl (.refl _), bf _, rfl, rfl⟩
end Go.Proofs.YteokdkimegepoaaGreatDoor
namespace Go.Pv
def gG (F : Nat) (a1 : List (Int × (List UInt8) × (List UInt8) × List ((List UInt8) × List UInt8))) (y84 : List UInt8) : Option ((List UInt8) × Int) :=
grd (okW y84 []) <|
grd (dV y84.length) <|
gY (eM F y84) fun x90 x91 =>
jE (!(!decide (x91 = 0))) (ko F x90 a1) fun x94 =>
bif (!decide (x91 = 0)) || (!x94) then
  some ([], 1)
else
  some (y84, 0)
def ek (y7 : Int) (rec11 : (Int × (List UInt8)) → Option ((List UInt8) × Int)) (y79 : List UInt8) : Option ((List UInt8) × Int) :=
grd (okI (y7 + 1)) <|
rec11 (y7 + 1, y79)
def iB (y7 : Int) (rec11 : (Int × (List UInt8)) → Option ((List UInt8) × Int)) (y55 : List UInt8) : Option ((List UInt8) × Int) :=
grd (okW y55 ([62] : List UInt8)) <|
lt (y55 ++ ([62] : List UInt8)) fun x59 =>
ek y7 rec11 x59
def iE (F : Nat) (y7 : Int) (x15 : Int × (List UInt8) × (List UInt8) × List ((List UInt8) × List UInt8)) (rec11 : (Int × (List UInt8)) → Option ((List UInt8) × Int)) (rec29 : (Int × (List UInt8)) → Option ((List UInt8) × Int)) (y26 : Int) (y27 : List UInt8) : Option ((List UInt8) × Int) :=
bif decide (y26 < (x15.2.2.2.length : Int)) then
  grd (ce y26 x15.2.2.2.length) <|
  lt (at_ x15.2.2.2 y26) fun x33 =>
  grd (dV (([32] : List UInt8).length + x33.1.length)) <|
  lt (([32] : List UInt8) ++ x33.1) fun x37 =>
  grd (dV (x37.length + ([61, 34] : List UInt8).length)) <|
  lt (x37 ++ ([61, 34] : List UInt8)) fun x40 =>
  bnd (fH F x33.2) fun x42 =>
  grd (dV (x40.length + x42.length)) <|
  lt (x40 ++ x42) fun x45 =>
  grd (dV (x45.length + ([34] : List UInt8).length)) <|
  lt (x45 ++ ([34] : List UInt8)) fun x48 =>
  grd (okW y27 x48) <|
  lt (y27 ++ x48) fun x51 =>
  grd (okI (y26 + 1)) <|
  rec29 (y26 + 1, x51)
else
  iB y7 rec11 y27
def iC (F : Nat) (y7 : Int) (x15 : Int × (List UInt8) × (List UInt8) × List ((List UInt8) × List UInt8)) (rec11 : (Int × (List UInt8)) → Option ((List UInt8) × Int)) (n : Nat) : (Int × (List UInt8)) → Option ((List UInt8) × Int) :=
  loop (fun rec x => iE F y7 x15 rec11 rec x.1 x.2) n
def iD (F : Nat) (a1 : List (Int × (List UInt8) × (List UInt8) × List ((List UInt8) × List UInt8))) (rec11 : (Int × (List UInt8)) → Option ((List UInt8) × Int)) (y7 : Int) (y9 : List UInt8) : Option ((List UInt8) × Int) :=
bif decide (y7 < (a1.length : Int)) then
  grd (ce y7 a1.length) <|
  lt (at_ a1 y7) fun x15 =>
  bif decide (x15.1 = 0) then
    grd (dV (([60] : List UInt8).length + x15.2.1.length)) <|
    lt (([60] : List UInt8) ++ x15.2.1) fun x20 =>
    grd (okW y9 x20) <|
    lt (y9 ++ x20) fun x23 =>
    iC F y7 x15 rec11 F (0, x23)
  else
    bif decide (x15.1 = 1) then
      grd (dV (([60, 47] : List UInt8).length + x15.2.1.length)) <|
      lt (([60, 47] : List UInt8) ++ x15.2.1) fun x64 =>
      grd (dV (x64.length + ([62] : List UInt8).length)) <|
      lt (x64 ++ ([62] : List UInt8)) fun x67 =>
      grd (okW y9 x67) <|
      lt (y9 ++ x67) fun x70 =>
      ek y7 rec11 x70
    else
      bnd (fH F x15.2.2.1) fun x73 =>
      grd (okW y9 x73) <|
      lt (y9 ++ x73) fun x76 =>
      ek y7 rec11 x76
else
  gG F a1 y9
def cG (F : Nat) (a1 : List (Int × (List UInt8) × (List UInt8) × List ((List UInt8) × List UInt8))) (n : Nat) : (Int × (List UInt8)) → Option ((List UInt8) × Int) :=
  loop (fun rec x => iD F a1 rec x.1 x.2) n
def kI (F : Nat) (a1 : List (Int × (List UInt8) × (List UInt8) × List ((List UInt8) × List UInt8))) : Option ((List UInt8) × Int) :=
cG F a1 F (0, [])
end Go.Pv
namespace Go.Proofs.YteokdkimegepoaaGreatDoor
open Go.RowKit Go.Av Go.Pv
theorem wO : ∀ (args : Array Value) (w : World), (callFunc 10 args).run Tryz.prog w = .ok (.enter 10 args) w := fun _ _ => by kernel_rfl
theorem wG : ∀ (args : Array Value) (w : World), (callFunc 13 args).run Tryz.prog w = .ok (.enter 13 args) w := fun _ _ => by kernel_rfl
theorem kH : ∀ (args : Array Value) (w : World), (callFunc 28 args).run Tryz.prog w = .ok (.enter 28 args) w := fun _ _ => by kernel_rfl
theorem rg : ∀ (args : Array Value) (w : World), (callFunc 29 args).run Tryz.prog w = .ok (.enter 29 args) w := fun _ _ => by kernel_rfl
theorem wq : ∀ (args : Array Value) (w : World), (callFunc 30 args).run Tryz.prog w = .ok (.enter 30 args) w := fun _ _ => by kernel_rfl
set_option maxRecDepth 100000 in
set_option maxHeartbeats 1000000 in
theorem po (F : Nat) (a1 : List (Int × (List UInt8) × (List UInt8) × List ((List UInt8) × List UInt8))) (q2 : Option Nat) (r3 : List UInt8) (r4 : Int) (H : kI F a1 = some (r3, r4)) : ACalls Tryz.prog 15 [slE (Enc.prod Enc.int (Enc.prod Enc.str (Enc.prod Enc.str (Enc.sl (Enc.prod Enc.str Enc.str))))) a1 q2] [] (Ret (.tup [slE Enc.byte r3 none, i64 r4]) []) := by
 unfold kI at H
 refine ay Tryz.func15 rfl rfl ?_;show AW _ _ 73 _ _ _;refine af <| aa ?_;show AR _ _ _ _ _ [0, 1] _;refine za rfl <| za rfl <| ah <| af <| aa ?_;show AR _ _ _ _ _ [0] _;refine zX rfl (mE (zs := [(.pointer none), .slice none 0 0]) (by kernel_rfl)) ?_;rintro _ _ ⟨o5, rfl, rfl⟩;refine ah ?_
 refine jj 0 1 1 5 rfl rfl fun t6 => ?_
 show AW _ _ _ _ _ ⟨_, _, [.tok t6 5, .obj o5 [.v (.pointer none), slE Enc.byte [] (some t6)], .ty o5 60]⟩;refine bw (X := AV × (List UInt8) × Nat) (fun (t83, y84, t85) => ⟨[(0, slE (Enc.prod Enc.int (Enc.prod Enc.str (Enc.prod Enc.str (Enc.sl (Enc.prod Enc.str Enc.str))))) a1 q2), (4, .pt o5 0)], [], [.obj o5 [t83, slE Enc.byte y84 (some t85)], .ty o5 60, .tok t85 5]⟩) (fun (t83, y84, t85) => gG F a1 y84 = some (r3, r4) ∧ (t83 = .v (.pointer none) ∨ t83 = .pt o5 0)) ?_ ?_
 ·refine af <| aa ?_;show AR _ _ _ _ _ [0, 1, 2] _;refine zS rfl (ai (av := slE _ _ _) rfl) <| zS rfl (aV aw rfl) <| zm rfl <| ah <| aQ <| cJ (X := Nat × Int × AV × (List UInt8) × Nat) (fun (n12, y7, t8, y9, t10) => ⟨[(0, slE (Enc.prod Enc.int (Enc.prod Enc.str (Enc.prod Enc.str (Enc.sl (Enc.prod Enc.str Enc.str))))) a1 q2), (4, .pt o5 0), (12, slE (Enc.prod Enc.int (Enc.prod Enc.str (Enc.prod Enc.str (Enc.sl (Enc.prod Enc.str Enc.str))))) a1 q2), (13, i64 (a1.length : Int)), (14, i64 y7)], [], [.obj o5 [t8, slE Enc.byte y9 (some t10)], .ty o5 60, .tok t10 5]⟩) (fun (n12, y7, t8, y9, t10) => cG F a1 n12 (y7, y9) = some (r3, r4) ∧ (t8 = .v (.pointer none) ∨ t8 = .pt o5 0)) (fun (n12, y7, t8, y9, t10) => n12) (F, 0, (.v (.pointer none)), [], t6) ⟨H, .inl rfl⟩ (aW [1, 1, 0] (.cons (.refl _) (.cons (.refl _) (.cons (.refl _) (.cons (.refl _) (.cons (.refl _) (.nil _)))))) rfl) ?_;rintro ⟨n12, y7, t8, y9, t10⟩ ⟨H, ht8⟩;obtain ⟨n12, rfl, H⟩ := dz H;replace H : iD F a1 (cG F a1 n12) y7 y9 = some (r3, r4) := H
  unfold iD at H
  refine af <| aa ?_;show AR _ _ _ _ _ [0] _;refine zS rfl (bQ rfl rfl) <| ah <| af <| ax rfl (fun c13 => ?_) (fun c13 => ?_)
  ·replace H := ba c13 H;refine aC <| bw (X := (List UInt8) × Nat) (fun (y79, t80) => ⟨[(0, slE (Enc.prod Enc.int (Enc.prod Enc.str (Enc.prod Enc.str (Enc.sl (Enc.prod Enc.str Enc.str))))) a1 q2), (4, .pt o5 0), (12, slE (Enc.prod Enc.int (Enc.prod Enc.str (Enc.prod Enc.str (Enc.sl (Enc.prod Enc.str Enc.str))))) a1 q2), (13, i64 (a1.length : Int)), (14, i64 y7)], [], [.obj o5 [.pt o5 0, slE Enc.byte y79 (some t80)], .ty o5 60, .tok t80 5]⟩) (fun (y79, t80) => ek y7 (cG F a1 n12) y79 = some (r3, r4)) ?_ ?_
   ·refine aQ <| af ?_;obtain ⟨g14, H⟩ := aR H;obtain ⟨x15, e16, H⟩ := bB H;refine aa ?_;show AR _ _ _ _ _ [0, 1, 2, 3] _;refine zS rfl (bj (E := (Enc.prod Enc.int (Enc.prod Enc.str (Enc.prod Enc.str (Enc.sl (Enc.prod Enc.str Enc.str)))))) aw (by kernel_rfl) rfl rfl g14 e16) <| zS rfl (cj cO rfl (n := 4) (by kernel_rfl) rfl (ag rfl)) <| zX rfl (dL (zs := [.int .i64 0, .string ⟨#[]⟩, .string ⟨#[]⟩, .slice none 0 0]) (by kernel_rfl)) ?_;rintro _ _ ⟨o17, rfl, rfl⟩;refine s0 rfl rfl (cK (i := 0) (vs := [i64 x15.1, S x15.2.1, S x15.2.2.1, slE (Enc.prod Enc.str Enc.str) x15.2.2.2 none]) (by kernel_rfl) rfl rfl (by simp [co, slE]) rfl (ag rfl)) <| AR.freezeCp 6 0 rfl rfl ?_;show AR _ _ _ _ _ _ ⟨_, _, [.obj o5 [t8, slE Enc.byte y9 (some t10)], .ty o5 60, .tok t10 5]⟩;refine ah <| af <| aa ?_;show AR _ _ _ _ _ [0, 1] _;refine zS rfl (aE (n := 0) (by kernel_rfl) rfl (ag rfl)) <| zS rfl (aA bO rfl rfl) <| ah <| aQ <| af <| aa ?_;show AR _ _ _ _ _ [0, 1] _;refine zS rfl (bR rfl rfl) <| za rfl <| ah <| ax rfl (fun c18 => ?_) (fun c18 => ?_)
    ·replace H := ba c18 H;refine af ?_;obtain ⟨g19, H⟩ := aR H;obtain ⟨x20, e21, H⟩ := bB H;obtain ⟨g22, H⟩ := aR H;obtain ⟨x23, e24, H⟩ := bB H;refine aa ?_;show AR _ _ _ _ _ [0, 1, 2, 3] _;refine zS rfl (aE (n := 1) (by kernel_rfl) rfl (ag rfl)) <| zS rfl (aA ac rfl rfl) <| zS rfl (pT rfl rfl g19 e21) <| ap rfl rfl (be [0, 0, 0] rfl kH rfl (bG  o5 (t8) ht8 y9 x20 t10 (nJ g22)) rfl (fun c A' h => by cases h.1) ?_)
     rintro av A' ⟨h, t25, rfl⟩; cases h
     rw [e24]
     refine ah <| bw (X := (List UInt8) × Nat) (fun (y55, t56) => ⟨[(0, slE (Enc.prod Enc.int (Enc.prod Enc.str (Enc.prod Enc.str (Enc.sl (Enc.prod Enc.str Enc.str))))) a1 q2), (4, .pt o5 0), (12, slE (Enc.prod Enc.int (Enc.prod Enc.str (Enc.prod Enc.str (Enc.sl (Enc.prod Enc.str Enc.str))))) a1 q2), (13, i64 (a1.length : Int)), (14, i64 y7)], [], [.obj o5 [.pt o5 0, slE Enc.byte y55 (some t56)], .ty o5 60, .tok t56 5]⟩) (fun (y55, t56) => iB y7 (cG F a1 n12) y55 = some (r3, r4)) ?_ ?_
     ·refine af <| aa ?_;show AR _ _ _ _ _ [0, 1, 2, 3] _;refine zS rfl (aE (n := 3) (by kernel_rfl) rfl (ag rfl)) <| zS rfl (aA aG rfl rfl) <| zS rfl (aV aG rfl) <| zm rfl <| ah <| aQ <| cJ (X := Nat × Int × (List UInt8) × Nat) (fun (n30, y26, y27, t28) => ⟨[(0, slE (Enc.prod Enc.int (Enc.prod Enc.str (Enc.prod Enc.str (Enc.sl (Enc.prod Enc.str Enc.str))))) a1 q2), (4, .pt o5 0), (12, slE (Enc.prod Enc.int (Enc.prod Enc.str (Enc.prod Enc.str (Enc.sl (Enc.prod Enc.str Enc.str))))) a1 q2), (13, i64 (a1.length : Int)), (14, i64 y7), (31, slE (Enc.prod Enc.str Enc.str) x15.2.2.2 none), (32, i64 (x15.2.2.2.length : Int)), (33, i64 y26)], [], [.obj o5 [.pt o5 0, slE Enc.byte y27 (some t28)], .ty o5 60, .tok t28 5]⟩) (fun (n30, y26, y27, t28) => iC F y7 x15 (cG F a1 n12) n30 (y26, y27) = some (r3, r4)) (fun (n30, y26, y27, t28) => n30) (F, 0, x23, t25) H (aW [0, 0, 0] (.cons (.refl _) (.cons (.refl _) (.cons (.refl _) (.cons (.refl _) (.cons (.refl _) (.cons (.refl _) (.cons (.refl _) (.cons (.refl _) (.nil _))))))))) rfl) ?_;rintro ⟨n30, y26, y27, t28⟩ H;obtain ⟨n30, rfl, H⟩ := dz H;replace H : iE F y7 x15 (cG F a1 n12) (iC F y7 x15 (cG F a1 n12) n30) y26 y27 = some (r3, r4) := H
      unfold iE at H
      refine af <| aa ?_;show AR _ _ _ _ _ [0] _;refine zS rfl (bQ rfl rfl) <| ah <| af <| ax rfl (fun c31 => ?_) (fun c31 => ?_)
      ·replace H := ba c31 H;refine aC <| af <| aQ <| af ?_;obtain ⟨g32, H⟩ := aR H;obtain ⟨x33, e34, H⟩ := bB H;refine aa ?_;show AR _ _ _ _ _ [0, 1, 2, 3] _;refine zS rfl (bj (E := (Enc.prod Enc.str Enc.str)) aG (by kernel_rfl) rfl rfl g32 e34) <| zS rfl (cj bZ rfl (n := 2) (by kernel_rfl) rfl (ag rfl)) <| zX rfl (dL (zs := [.string ⟨#[]⟩, .string ⟨#[]⟩]) (by kernel_rfl)) ?_;rintro _ _ ⟨o35, rfl, rfl⟩;refine s0 rfl rfl (cK (i := 0) (vs := [S x33.1, S x33.2]) (by kernel_rfl) rfl rfl (by simp [co, slE]) rfl (ag rfl)) <| AR.freezeCp 8 0 rfl rfl ?_;show AR _ _ _ _ _ _ ⟨_, _, [.obj o5 [.pt o5 0, slE Enc.byte y27 (some t28)], .ty o5 60, .tok t28 5]⟩;refine ah ?_;obtain ⟨g36, H⟩ := aR H;obtain ⟨x37, e38, H⟩ := bB H;obtain ⟨g39, H⟩ := aR H;obtain ⟨x40, e41, H⟩ := bB H;obtain ⟨x42, e43, H⟩ := ep H;obtain ⟨g44, H⟩ := aR H;obtain ⟨x45, e46, H⟩ := bB H;obtain ⟨g47, H⟩ := aR H;obtain ⟨x48, e49, H⟩ := bB H;obtain ⟨g50, H⟩ := aR H;obtain ⟨x51, e52, H⟩ := bB H;refine bI (by kernel_rfl) ?_;show AI _ _ _ _ _ 10 (Array.replicate 10 false) _;refine zk 0 rfl (aE (n := 0) (by kernel_rfl) rfl (ag rfl)) ?_;show AI _ _ _ _ _ _ #[true, false, false, false, false, false, false, false, false, false] _;refine zk 1 rfl (aA ac rfl rfl) ?_;show AI _ _ _ _ _ _ #[true, true, false, false, false, false, false, false, false, false] _
       refine zk 2 rfl (pT rfl rfl g36 e38) ?_;show AI _ _ _ _ _ _ #[true, true, true, false, false, false, false, false, false, false] _;refine zk 3 rfl (pT rfl rfl g39 e41) ?_;show AI _ _ _ _ _ _ #[true, true, true, true, false, false, false, false, false, false] _;refine zk 4 rfl (aE (n := 1) (by kernel_rfl) rfl (ag rfl)) ?_;show AI _ _ _ _ _ _ #[true, true, true, true, true, false, false, false, false, false] _;refine zk 5 rfl (aA ac rfl rfl) ?_;show AI _ _ _ _ _ _ #[true, true, true, true, true, true, false, false, false, false] _;refine bP (i := 6) (by kernel_rfl) rfl rfl <| AIO.callp rfl rg rfl (tm F _ _ e43) ?_;show AI _ _ _ _ _ _ #[true, true, true, true, true, true, true, false, false, false] _;refine zk 7 rfl (pT rfl rfl g44 e46) ?_;show AI _ _ _ _ _ _ #[true, true, true, true, true, true, true, true, false, false] _;refine zk 8 rfl (pT rfl rfl g47 e49) ?_;show AI _ _ _ _ _ _ #[true, true, true, true, true, true, true, true, true, false] _;refine bP (i := 9) (by kernel_rfl) rfl rfl <| AIO.callAt [0, 0, 0] rfl kH rfl (bG  o5 (.pt o5 0) (.inr rfl) y27 x48 t28 (nJ g50)) rfl (fun c A' h => by cases h.1) ?_
       rintro av A' ⟨h, t53, rfl⟩; cases h
       rw [e52]
       show AI _ _ _ _ _ _ #[true, true, true, true, true, true, true, true, true, true] _;refine cx rfl ?_;obtain ⟨g54, H⟩ := aR H;refine aa ?_;show AR _ _ _ _ _ [0, 1] _;refine zS rfl (cH rfl rfl g54) <| zm rfl <| ah ?_;exact Exists.intro (n30, y26 + 1, x51, t53) ⟨H, Nat.lt_succ_self _, aW [0, 0, 0] (.cons (.refl _) (.cons (.refl _) (.cons (.refl _) (.cons (.refl _) (.cons (.refl _) (.cons (.refl _) (.cons (.refl _) (.cons (.refl _) (.nil _))))))))) rfl⟩
      ·replace H := bb c31 H;refine cf ?_;exact Exists.intro (y27, t28) ⟨H, aW [0, 0, 0] (.cons (.refl _) (.cons (.refl _) (.cons (.refl _) (.cons (.refl _) (.cons (.refl _) (.nil _)))))) rfl⟩
     rintro ⟨y55, t56⟩ H;replace H : iB y7 (cG F a1 n12) y55 = some (r3, r4) := H
     unfold iB at H
     obtain ⟨g58, H⟩ := aR H;obtain ⟨x59, e60, H⟩ := bB H;refine aa ?_;show AR _ _ _ _ _ [0] _;refine ap rfl rfl (be [0, 0, 0] rfl kH rfl (bG  o5 (.pt o5 0) (.inr rfl) y55 ([62] : List UInt8) t56 (nJ g58)) rfl (fun c A' h => by cases h.1) ?_)
     rintro av A' ⟨h, t61, rfl⟩; cases h
     rw [e60]
     refine ah ?_;exact Exists.intro (x59, t61) ⟨H, aW [0, 0, 0] (.cons (.refl _) (.cons (.refl _) (.cons (.refl _) (.cons (.refl _) (.cons (.refl _) (.nil _)))))) rfl⟩
    ·replace H := bb c18 H;refine af <| aa ?_;show AR _ _ _ _ _ [0, 1] _;refine zS rfl (bR rfl rfl) <| za rfl <| ah <| ax rfl (fun c62 => ?_) (fun c62 => ?_)
     ·replace H := ba c62 H;obtain ⟨g63, H⟩ := aR H;obtain ⟨x64, e65, H⟩ := bB H;obtain ⟨g66, H⟩ := aR H;obtain ⟨x67, e68, H⟩ := bB H;obtain ⟨g69, H⟩ := aR H;obtain ⟨x70, e71, H⟩ := bB H;refine aa ?_;show AR _ _ _ _ _ [0, 1, 2, 3, 4] _;refine zS rfl (aE (n := 1) (by kernel_rfl) rfl (ag rfl)) <| zS rfl (aA ac rfl rfl) <| zS rfl (pT rfl rfl g63 e65) <| zS rfl (pT rfl rfl g66 e68) <| ap rfl rfl (be [0, 0, 0] rfl kH rfl (bG  o5 (t8) ht8 y9 x67 t10 (nJ g69)) rfl (fun c A' h => by cases h.1) ?_)
      rintro av A' ⟨h, t72, rfl⟩; cases h
      rw [e71]
      refine ah ?_;exact Exists.intro (x70, t72) ⟨H, aW [0, 0, 0] (.cons (.refl _) (.cons (.refl _) (.cons (.refl _) (.cons (.refl _) (.cons (.refl _) (.nil _)))))) rfl⟩
     ·replace H := bb c62 H;obtain ⟨x73, e74, H⟩ := ep H;obtain ⟨g75, H⟩ := aR H;obtain ⟨x76, e77, H⟩ := bB H;refine aa ?_;show AR _ _ _ _ _ [0, 1, 2, 3] _;refine zS rfl (aE (n := 2) (by kernel_rfl) rfl (ag rfl)) <| zS rfl (aA ac rfl rfl) <| ap rfl rfl (aI rfl rg rfl (tm F _ _ e74) ?_);refine ap rfl rfl (be [0, 0, 0] rfl kH rfl (bG  o5 (t8) ht8 y9 x73 t10 (nJ g75)) rfl (fun c A' h => by cases h.1) ?_)
      rintro av A' ⟨h, t78, rfl⟩; cases h
      rw [e77]
      refine ah ?_;exact Exists.intro (x76, t78) ⟨H, aW [0, 0, 0] (.cons (.refl _) (.cons (.refl _) (.cons (.refl _) (.cons (.refl _) (.cons (.refl _) (.nil _)))))) rfl⟩
   rintro ⟨y79, t80⟩ H;replace H : ek y7 (cG F a1 n12) y79 = some (r3, r4) := H
   unfold ek at H
   obtain ⟨g82, H⟩ := aR H;refine aa ?_;show AR _ _ _ _ _ [0, 1] _;refine zS rfl (cH rfl rfl g82) <| zm rfl <| ah ?_;exact Exists.intro (n12, y7 + 1, (.pt o5 0), y79, t80) ⟨⟨H, .inr rfl⟩, Nat.lt_succ_self _, aW [0, 0, 0] (.cons (.refl _) (.cons (.refl _) (.cons (.refl _) (.cons (.refl _) (.cons (.refl _) (.nil _)))))) rfl⟩
  ·replace H := bb c13 H;refine cf ?_;exact Exists.intro (t8, y9, t10) ⟨⟨H, ht8⟩, aW [0, 0, 0] (.cons (.refl _) (.cons (.refl _) (.nil _))) rfl⟩
 rintro ⟨t83, y84, t85⟩ ⟨H, ht83⟩;replace H : gG F a1 y84 = some (r3, r4) := H
 unfold gG at H
 refine af ?_;obtain ⟨g87, H⟩ := aR H;obtain ⟨g88, H⟩ := aR H;refine aa ?_;show AR _ _ _ _ _ [0, 1, 2] _;refine ap rfl rfl (be [0, 1] rfl wq rfl (iY  o5 (t83) y84 t85 (okW0_s g87)) rfl (fun c A' h => by cases h.1) ?_)
 rintro av A' ⟨h, rfl⟩; cases h
 refine zX rfl (dD (bytes := 1) ac aj bA rfl g88) ?_;rintro _ _ ⟨t89, rfl, rfl⟩;refine zS rfl (aO (av := slE _ _ _) rfl) <| ah <| af <| af ?_;obtain ⟨x90, x91, e92, H⟩ := cU H;refine aa ?_;show AR _ _ _ _ _ [0, 1, 2, 3, 4, 5, 6] _;refine zS rfl (ai (av := slE _ _ _) rfl) <| ap rfl rfl (aI rfl wO rfl (iI F y84 (some t89) x90 x91 e92) ?_);refine zS rfl (ai (av := .tup _) rfl) <| zS rfl (aM (av := slE _ _ _) rfl rfl) <| zS rfl (aM (av := .v _) rfl rfl) <| zS rfl (aO (av := slE _ _ _) rfl) <| za rfl <| ah <| af ?_;obtain ⟨x94, e95, H⟩ := eX H;refine aa ?_;show AR _ _ _ _ _ [0, 1, 2, 3, 4, 5, 6, 7] _;refine zm rfl <| zS rfl (dh rfl rfl) <| zm rfl <| bi (l := []) 71 (B ((!decide (x91 = 0)) || (!x94))) (fun K => ?_) ?_
 ·rcases ao (!decide (x91 = 0)) with h93 | h93
  ·refine zF h93 rfl <| zF h93 rfl <| zF h93 rfl <| zF h93 rfl <| zS rfl (aL (av := .v _) rfl h93 rfl) ?_;exact K _ 4 _ (az (ky h93)) rfl rfl
  ·refine zU h93 rfl (ai (av := slE _ _ _) rfl) <| zU h93 rfl (ai (av := slE _ _ _) rfl) <| zT h93 rfl (aI rfl wG rfl (lJ F x90 none a1 q2 x94 (e95 (nf h93))) ?_);refine zU h93 rfl (cd rfl) <| zS rfl (aJ (av := .v _) rfl h93 rfl) ?_;exact K _ 4 _ (az (kz h93)) rfl rfl
 refine ah <| ax rfl (fun c96 => ?_) (fun c96 => ?_)
 ·replace H := ba c96 H;refine af <| aa ?_;show AR _ _ _ _ _ [0, 1] _;refine za rfl <| za rfl <| ah <| aP ?_;obtain ⟨rfl, rfl⟩ := fW H;exact And.intro rfl (Exists.intro _ (Exists.intro _ ⟨bC rfl (.nil _) (.refl _), aK [] rfl, rfl, rfl⟩))
 ·replace H := bb c96 H;refine aC <| af <| aa ?_;show AR _ _ _ _ _ [0, 1, 2] _;refine zS rfl (ai (av := slE _ _ _) rfl) <| zS rfl (aO (av := slE _ _ _) rfl) <| za rfl <| ah <| aP ?_;obtain ⟨rfl, rfl⟩ := fW H;exact And.intro rfl (Exists.intro _ (Exists.intro _ ⟨bC rfl (.tok _ _ _) (.refl _), aK [] rfl, rfl, rfl⟩))
end Go.Proofs.YteokdkimegepoaaGreatDoor
namespace Go.Pv
def dB (F : Nat) (x25 : List (Int × (List UInt8) × (List UInt8) × List ((List UInt8) × List UInt8))) : Option Bool :=
gY (kI F x25) fun x44 x45 =>
gY (eM F x44) fun x47 x48 =>
jE ((decide (x45 = 0)) && (decide (x48 = 0))) (ko F x25 x47) fun x52 =>
some (((decide (x45 = 0)) && (decide (x48 = 0))) && x52)
def dC (F : Nat) (x25 : List (Int × (List UInt8) × (List UInt8) × List ((List UInt8) × List UInt8))) (rec30 : Int → Option Bool) (y29 : Int) : Option Bool :=
bif decide (y29 < (x25.length : Int)) then
  grd (ce y29 x25.length) <|
  lt (at_ x25 y29) fun x34 =>
  eK (decide (x34.1 = 2)) (okI (y29 - 1)) <|
  eK (decide (x34.1 = 2)) (ce (y29 - 1) x25.length) <|
  lt (at_ x25 (y29 - 1)) fun x39 =>
  bif (decide (x34.1 = 2)) && (decide (x39.1 = 2)) then
    some true
  else
    grd (okI (y29 + 1)) <|
    rec30 (y29 + 1)
else
  dB F x25
def df (F : Nat) (x25 : List (Int × (List UInt8) × (List UInt8) × List ((List UInt8) × List UInt8))) (n : Nat) : Int → Option Bool :=
  loop (fun rec x => dC F x25 rec x) n
def de (F : Nat) (a3 : List UInt8) : Option Bool :=
gY (eM F a3) fun x25 x26 =>
bif !decide (x26 = 0) then
  some (decide ((x25.length : Int) = 0))
else
  df F x25 F 1
def gh (F : Nat) (a1 : List (Int × (List UInt8) × (List UInt8) × List ((List UInt8) × List UInt8))) (a3 : List UInt8) : Option Bool :=
bnd (iJ F) fun x6 =>
bnd (jn F a1 40) fun x8 =>
bif ((!x6) || (!x8)) || (decide (2000 < (a3.length : Int))) then
  some x6
else
  gY (kI F a1) fun x13 x14 =>
  bif decide (x14 = 0) then
    gY (eM F x13) fun x17 x18 =>
    jE (!(!decide (x18 = 0))) (ko F a1 x17) fun x21 =>
    bif (!decide (x18 = 0)) || (!x21) then
      some false
    else
      de F a3
  else
    de F a3
end Go.Pv
namespace Go.Proofs.YteokdkimegepoaaGreatDoor
open Go.RowKit Go.Av Go.Pv
theorem rT : ∀ (args : Array Value) (w : World), (callFunc 9 args).run Tryz.prog w = .ok (.enter 9 args) w := fun _ _ => by kernel_rfl
theorem ki : ∀ (args : Array Value) (w : World), (callFunc 10 args).run Tryz.prog w = .ok (.enter 10 args) w := fun _ _ => by kernel_rfl
theorem mq : ∀ (args : Array Value) (w : World), (callFunc 13 args).run Tryz.prog w = .ok (.enter 13 args) w := fun _ _ => by kernel_rfl
theorem qm : ∀ (args : Array Value) (w : World), (callFunc 14 args).run Tryz.prog w = .ok (.enter 14 args) w := fun _ _ => by kernel_rfl
theorem mo : ∀ (args : Array Value) (w : World), (callFunc 15 args).run Tryz.prog w = .ok (.enter 15 args) w := fun _ _ => by kernel_rfl
set_option maxRecDepth 100000 in
set_option maxHeartbeats 1000000 in
theorem oI (F : Nat) (a1 : List (Int × (List UInt8) × (List UInt8) × List ((List UInt8) × List UInt8))) (q2 : Option Nat) (a3 : List UInt8) (q4 : Option Nat) (r5 : Bool) (H : gh F a1 a3 = some r5) : ACalls Tryz.prog 8 [slE (Enc.prod Enc.int (Enc.prod Enc.str (Enc.prod Enc.str (Enc.sl (Enc.prod Enc.str Enc.str))))) a1 q2, slE Enc.byte a3 q4] [] (Ret (B r5) []) := by
 unfold gh at H
 refine ay Tryz.func8 rfl rfl ?_;show AW _ _ 105 _ _ _;refine af <| aa ?_;show AR _ _ _ _ _ [0] _;refine za rfl <| ah <| af ?_;obtain ⟨x6, e7, H⟩ := ep H;refine aa ?_;show AR _ _ _ _ _ [0, 1] _;refine ap rfl rfl (aI rfl rT rfl (qb F x6 e7) ?_);refine za rfl <| ah <| af ?_;obtain ⟨x8, e9, H⟩ := ep H;refine aa ?_;show AR _ _ _ _ _ [0, 1, 2] _;refine zS rfl (ai (av := slE _ _ _) rfl) <| ap rfl rfl (aI rfl qm rfl (sD F a1 q2 40 x8 e9) ?_);refine za rfl <| ah <| af <| af <| aa ?_;show AR _ _ _ _ _ [0, 1, 2, 3, 4, 5, 6, 7, 8, 9, 10] _;refine zm rfl <| zS rfl (cd rfl) <| zm rfl <| bi (l := [6, 7, 8, 9, 10]) 26 (B ((!x6) || (!x8))) (fun K => ?_) ?_
 ·rcases ao (!x6) with h10 | h10
  ·refine zF h10 rfl <| zF h10 rfl <| zS rfl (aL (av := .v _) rfl h10 rfl) ?_;exact K _ 2 _ (az (ky h10)) rfl rfl
  ·refine zM h10 rfl <| zU h10 rfl (cd rfl) <| zS rfl (aJ (av := .v _) rfl h10 rfl) ?_;exact K _ 2 _ (az (kz h10)) rfl rfl
 refine zm rfl <| bi (l := []) 31 (B (((!x6) || (!x8)) || (decide (2000 < (a3.length : Int))))) (fun K => ?_) ?_
 ·rcases ao ((!x6) || (!x8)) with h11 | h11
  ·refine zF h11 rfl <| zF h11 rfl <| zF h11 rfl <| zS rfl (aL (av := .v _) rfl h11 rfl) ?_;exact K _ 3 _ (az (ky h11)) rfl rfl
  ·refine zU h11 rfl (ai (av := slE _ _ _) rfl) <| zU h11 rfl (aV aj rfl) <| zU h11 rfl (fw rfl rfl) <| zS rfl (aJ (av := .v _) rfl h11 rfl) ?_;exact K _ 3 _ (az (kz h11)) rfl rfl
 refine ah <| ax rfl (fun c12 => ?_) (fun c12 => ?_)
 ·replace H := ba c12 H;refine af <| aa ?_;show AR _ _ _ _ _ [0, 1] _;refine zm rfl <| za rfl <| ah <| aP ?_;obtain rfl := am H;exact And.intro rfl (Exists.intro _ (Exists.intro _ ⟨aF rfl (.refl _), aK [] rfl, rfl, rfl⟩))
 ·replace H := bb c12 H;refine aC <| af ?_;obtain ⟨x13, x14, e15, H⟩ := cU H;refine aa ?_;show AR _ _ _ _ _ [0, 1, 2, 3, 4, 5, 6] _;refine zS rfl (ai (av := slE _ _ _) rfl) <| ap rfl rfl (aI rfl mo rfl (po F a1 q2 x13 x14 e15) ?_);refine zS rfl (ai (av := .tup _) rfl) <| zS rfl (aM (av := slE _ _ _) rfl rfl) <| zS rfl (aM (av := .v _) rfl rfl) <| zS rfl (aO (av := slE _ _ _) rfl) <| za rfl <| ah <| bw (X := Unit) (fun _ => ⟨[(1, slE Enc.byte a3 q4)], [], []⟩) (fun _ => de F a3 = some r5) ?_ ?_
  ·refine af <| aa ?_;show AR _ _ _ _ _ [0, 1] _;refine zm rfl <| zS rfl (bR rfl rfl) <| ah <| ax rfl (fun c16 => ?_) (fun c16 => ?_)
   ·replace H := ba c16 H;refine af ?_;obtain ⟨x17, x18, e19, H⟩ := cU H;refine aa ?_;show AR _ _ _ _ _ [0, 1, 2, 3, 4, 5, 6] _;refine zS rfl (ai (av := slE _ _ _) rfl) <| ap rfl rfl (aI rfl ki rfl (iI F x13 none x17 x18 e19) ?_);refine zS rfl (ai (av := .tup _) rfl) <| zS rfl (aM (av := slE _ _ _) rfl rfl) <| zS rfl (aM (av := .v _) rfl rfl) <| zS rfl (aO (av := slE _ _ _) rfl) <| za rfl <| ah <| af ?_;obtain ⟨x21, e22, H⟩ := eX H;refine aa ?_;show AR _ _ _ _ _ [0, 1, 2, 3, 4, 5, 6, 7] _;refine zm rfl <| zS rfl (dh rfl rfl) <| zm rfl <| bi (l := []) 52 (B ((!decide (x18 = 0)) || (!x21))) (fun K => ?_) ?_
    ·rcases ao (!decide (x18 = 0)) with h20 | h20
     ·refine zF h20 rfl <| zF h20 rfl <| zF h20 rfl <| zF h20 rfl <| zS rfl (aL (av := .v _) rfl h20 rfl) ?_;exact K _ 4 _ (az (ky h20)) rfl rfl
     ·refine zU h20 rfl (ai (av := slE _ _ _) rfl) <| zU h20 rfl (ai (av := slE _ _ _) rfl) <| zT h20 rfl (aI rfl mq rfl (lJ F a1 q2 x17 none x21 (e22 (nf h20))) ?_);refine zU h20 rfl (cd rfl) <| zS rfl (aJ (av := .v _) rfl h20 rfl) ?_;exact K _ 4 _ (az (kz h20)) rfl rfl
    refine ah <| ax rfl (fun c23 => ?_) (fun c23 => ?_)
    ·replace H := ba c23 H;refine af <| aa ?_;show AR _ _ _ _ _ [0] _;refine za rfl <| ah <| aP ?_;obtain rfl := am H;exact And.intro rfl (Exists.intro _ (Exists.intro _ ⟨aF rfl (.refl _), aK [] rfl, rfl, rfl⟩))
    ·replace H := bb c23 H;refine aC ?_;exact Exists.intro () ⟨H, aW [] (.cons (.refl _) (.nil _)) rfl⟩
   ·replace H := bb c16 H;refine aC ?_;exact Exists.intro () ⟨H, aW [] (.cons (.refl _) (.nil _)) rfl⟩
  rintro _ H;replace H : de F a3 = some r5 := H
  unfold de at H
  refine af ?_;obtain ⟨x25, x26, e27, H⟩ := cU H;refine aa ?_;show AR _ _ _ _ _ [0, 1, 2, 3, 4, 5, 6] _;refine zS rfl (ai (av := slE _ _ _) rfl) <| ap rfl rfl (aI rfl ki rfl (iI F a3 q4 x25 x26 e27) ?_);refine zS rfl (ai (av := .tup _) rfl) <| zS rfl (aM (av := slE _ _ _) rfl rfl) <| zS rfl (aM (av := .v _) rfl rfl) <| zS rfl (aO (av := slE _ _ _) rfl) <| za rfl <| ah <| af <| af <| aa ?_;show AR _ _ _ _ _ [0, 1] _;refine zm rfl <| zS rfl (dh rfl rfl) <| ah <| ax rfl (fun c28 => ?_) (fun c28 => ?_)
  ·replace H := ba c28 H;refine af <| aa ?_;show AR _ _ _ _ _ [0, 1, 2, 3] _;refine zS rfl (ai (av := slE _ _ _) rfl) <| zS rfl (aV aw rfl) <| zS rfl (bR rfl rfl) <| za rfl <| ah <| aP ?_;obtain rfl := am H;exact And.intro rfl (Exists.intro _ (Exists.intro _ ⟨aF rfl (.refl _), aK [] rfl, rfl, rfl⟩))
  ·replace H := bb c28 H;refine aC <| bw (X := Unit) (fun _ => ⟨[(11, slE (Enc.prod Enc.int (Enc.prod Enc.str (Enc.prod Enc.str (Enc.sl (Enc.prod Enc.str Enc.str))))) x25 none)], [], []⟩) (fun _ => dB F x25 = some r5) ?_ ?_
   ·refine af <| aa ?_;show AR _ _ _ _ _ [0] _;refine za rfl <| ah <| aQ <| cJ (X := Nat × Int) (fun (n31, y29) => ⟨[(11, slE (Enc.prod Enc.int (Enc.prod Enc.str (Enc.prod Enc.str (Enc.sl (Enc.prod Enc.str Enc.str))))) x25 none), (13, i64 y29)], [], []⟩) (fun (n31, y29) => df F x25 n31 y29 = some r5) (fun (n31, y29) => n31) (F, 1) H (aW [] (.cons (.refl _) (.cons (.refl _) (.nil _))) rfl) ?_;rintro ⟨n31, y29⟩ H;obtain ⟨n31, rfl, H⟩ := dz H;replace H : dC F x25 (df F x25 n31) y29 = some r5 := H
    unfold dC at H
    refine af <| af <| aa ?_;show AR _ _ _ _ _ [0, 1, 2, 3] _;refine zm rfl <| zS rfl (ai (av := slE _ _ _) rfl) <| zS rfl (aV aw rfl) <| zS rfl (bQ rfl rfl) <| ah <| ax rfl (fun c32 => ?_) (fun c32 => ?_)
    ·replace H := ba c32 H;refine aC <| af <| aQ <| af ?_;obtain ⟨g33, H⟩ := aR H;obtain ⟨x34, e35, H⟩ := bB H;obtain ⟨g37, H⟩ := cC H;obtain ⟨g38, H⟩ := cC H;obtain ⟨x39, e40, H⟩ := bB H;refine aa ?_;show AR _ _ _ _ _ [0, 1, 2, 3, 4, 5, 6, 7, 8, 9, 10, 11, 12, 13, 14] _;refine zS rfl (ai (av := slE _ _ _) rfl) <| zm rfl <| zS rfl (bj (E := (Enc.prod Enc.int (Enc.prod Enc.str (Enc.prod Enc.str (Enc.sl (Enc.prod Enc.str Enc.str)))))) aw (by kernel_rfl) rfl rfl g33 e35) <| zS rfl (aE (n := 0) (by kernel_rfl) rfl (ag rfl)) <| zS rfl (aA bO rfl rfl) <| zS rfl (bR rfl rfl) <| zm rfl <| bi (l := []) 83 (B ((decide (x34.1 = 2)) && (decide (x39.1 = 2)))) (fun K => ?_) ?_
     ·rcases ao (decide (x34.1 = 2)) with h36 | h36
      ·refine zU h36 rfl (ai (av := slE _ _ _) rfl) <| zM h36 rfl <| zU h36 rfl (ld rfl rfl (g37 h36)) <| zU h36 rfl (bj (E := (Enc.prod Enc.int (Enc.prod Enc.str (Enc.prod Enc.str (Enc.sl (Enc.prod Enc.str Enc.str)))))) aw (by kernel_rfl) rfl rfl (g38 h36) e40) <| zU h36 rfl (aE (n := 0) (by kernel_rfl) rfl (ag rfl)) <| zU h36 rfl (aA bO rfl rfl) <| zU h36 rfl (bR rfl rfl) <| zS rfl (aL (av := .v _) rfl h36 rfl) ?_;exact K _ 7 _ (az (cQ h36)) rfl rfl
      ·refine zF h36 rfl <| zF h36 rfl <| zF h36 rfl <| zF h36 rfl <| zF h36 rfl <| zF h36 rfl <| zF h36 rfl <| zS rfl (aJ (av := .v _) rfl h36 rfl) ?_;exact K _ 7 _ (az (cR h36)) rfl rfl
     refine ah <| ax rfl (fun c41 => ?_) (fun c41 => ?_)
     ·replace H := ba c41 H;refine af <| aa ?_;show AR _ _ _ _ _ [0] _;refine za rfl <| ah <| aP ?_;obtain rfl := am H;exact And.intro rfl (Exists.intro _ (Exists.intro _ ⟨aF rfl (.refl _), aK [] rfl, rfl, rfl⟩))
     ·replace H := bb c41 H;refine aC ?_;obtain ⟨g42, H⟩ := aR H;refine aa ?_;show AR _ _ _ _ _ [0, 1, 2] _;refine zm rfl <| zS rfl (cH rfl rfl g42) <| za rfl <| ah ?_;exact Exists.intro (n31, y29 + 1) ⟨H, Nat.lt_succ_self _, aW [] (.cons (.refl _) (.cons (.refl _) (.nil _))) rfl⟩
    ·replace H := bb c32 H;refine cf ?_;exact Exists.intro () ⟨H, aW [] (.cons (.refl _) (.nil _)) rfl⟩
   rintro _ H;replace H : dB F x25 = some r5 := H
   unfold dB at H
   refine af ?_;obtain ⟨x44, x45, e46, H⟩ := cU H;refine aa ?_;show AR _ _ _ _ _ [0, 1, 2, 3, 4, 5, 6] _;refine zS rfl (ai (av := slE _ _ _) rfl) <| ap rfl rfl (aI rfl mo rfl (po F x25 none x44 x45 e46) ?_);refine zS rfl (ai (av := .tup _) rfl) <| zS rfl (aM (av := slE _ _ _) rfl rfl) <| zS rfl (aM (av := .v _) rfl rfl) <| zS rfl (aO (av := slE _ _ _) rfl) <| za rfl <| ah <| af ?_;obtain ⟨x47, x48, e49, H⟩ := cU H;refine aa ?_;show AR _ _ _ _ _ [0, 1, 2, 3, 4, 5, 6] _;refine zS rfl (ai (av := slE _ _ _) rfl) <| ap rfl rfl (aI rfl ki rfl (iI F x44 none x47 x48 e49) ?_);refine zS rfl (ai (av := .tup _) rfl) <| zS rfl (aM (av := slE _ _ _) rfl rfl) <| zS rfl (aM (av := .v _) rfl rfl) <| zS rfl (aO (av := slE _ _ _) rfl) <| za rfl <| ah <| af ?_;obtain ⟨x52, e53, H⟩ := eX H;refine aa ?_;show AR _ _ _ _ _ [0, 1, 2, 3, 4, 5, 6, 7, 8, 9, 10, 11] _;refine zm rfl <| zS rfl (bR rfl rfl) <| zm rfl <| bi (l := [6, 7, 8, 9, 10, 11]) 99 (B ((decide (x45 = 0)) && (decide (x48 = 0)))) (fun K => ?_) ?_
   ·rcases ao (decide (x45 = 0)) with h50 | h50
    ·refine zM h50 rfl <| zU h50 rfl (bR rfl rfl) <| zS rfl (aL (av := .v _) rfl h50 rfl) ?_;exact K _ 2 _ (az (cQ h50)) rfl rfl
    ·refine zF h50 rfl <| zF h50 rfl <| zS rfl (aJ (av := .v _) rfl h50 rfl) ?_;exact K _ 2 _ (az (cR h50)) rfl rfl
   refine zm rfl <| bi (l := [11]) 104 (B (((decide (x45 = 0)) && (decide (x48 = 0))) && x52)) (fun K => ?_) ?_
   ·rcases ao ((decide (x45 = 0)) && (decide (x48 = 0))) with h51 | h51
    ·refine zU h51 rfl (ai (av := slE _ _ _) rfl) <| zU h51 rfl (ai (av := slE _ _ _) rfl) <| zT h51 rfl (aI rfl mq rfl (lJ F x25 none x47 none x52 (e53 h51)) ?_);refine zS rfl (aL (av := .v _) rfl h51 rfl) ?_;exact K _ 3 _ (az (cQ h51)) rfl rfl
    ·refine zF h51 rfl <| zF h51 rfl <| zF h51 rfl <| zS rfl (aJ (av := .v _) rfl h51 rfl) ?_;exact K _ 3 _ (az (cR h51)) rfl rfl
   refine za rfl <| ah <| aP ?_;obtain rfl := am H;exact And.intro rfl (Exists.intro _ (Exists.intro _ ⟨aF rfl (.refl _), aK [] rfl, rfl, rfl⟩))
end Go.Proofs.YteokdkimegepoaaGreatDoor
namespace Go.Xm
abbrev Bs := List UInt8
abbrev At := Bs × Bs
abbrev Tok := Int × Bs × Bs × List At
def letB (c : UInt8) : Bool := ((decide (65 ≤ c.toNat) && decide (c.toNat ≤ 90)) || (decide (97 ≤ c.toNat) && decide (c.toNat ≤ 122))) || decide (c = 95)
def jy (c : UInt8) : Bool := letB c || ((((decide (48 ≤ c.toNat) && decide (c.toNat ≤ 57)) || decide (c = 45)) || decide (c = 46)) || decide (c = 58))
def eV (c : UInt8) : Bool := decide (c = 9) || decide (c = 10) || decide (c = 13) || decide (c = 32)
def hY (s : Bs) : Bool := (match s with | [] => false | c :: _ => letB c) && (s.all jy && decide (s.length ≤ 60))
def fO (s : Bs) : Option (Bs × Bs) := if hY (s.takeWhile jy) = true then some (s.takeWhile jy, s.dropWhile jy) else none
def iy (p : Bs) : Bs → Option (Bs × Bs)
  | [] => if p = [] then some ([], []) else none
  | c :: r => if p.isPrefixOf (c :: r) = true then some ([], (c :: r).drop p.length) else match iy p r with | none => none | some (a, b) => some (c :: a, b)
section
variable (dec : Bs → Option Bs)
def lv (n : Bs) (q : UInt8) (s : Bs) : Option (At × Bs) := match iy [q] s with
  | none => none
  | some (raw, r) => if 60 ∈ raw then none else match dec raw with | none => none | some t => some ((n, t), r)
def jb (s : Bs) : Option (At × Bs) := match fO s with
  | none => none
  | some (n, r) => if ([61, 34] : Bs).isPrefixOf r = true then lv dec n 34 (r.drop 2) else if ([61, 39] : Bs).isPrefixOf r = true then lv dec n 39 (r.drop 2) else none
def eL : Nat → List At → Bs → Option (List At × Bool × Bs)
  | 0, _, _ => none
  | k + 1, as_, s =>
    if ([62] : Bs).isPrefixOf (s.dropWhile eV) = true then some (as_, false, (s.dropWhile eV).drop 1)
    else if ([47, 62] : Bs).isPrefixOf (s.dropWhile eV) = true then some (as_, true, (s.dropWhile eV).drop 2)
    else if (s.dropWhile eV).length = s.length then none
    else match jb dec (s.dropWhile eV) with
      | none => none
      | some (a, r) => if as_.any (fun x => decide (x.1 = a.1)) = true then none else eL k (as_ ++ [a]) r
abbrev Sx := Bs × List Bs × Nat × List Tok
inductive Rx
  | ok (x : Sx)
  | no (e : Int)
def jY (t : Bs) (l : List Tok) : List Tok := if t = [] then l else l ++ [(2, [], t, [])]
def jx (n s : Bs) (open_ : List Bs) (k : Nat) (l : List Tok) : Rx := if open_.getLast? = some n then .ok (s, open_.dropLast, k, l ++ [(1, n, [], [])]) else .no 2
def iM (s : Bs) (o : List Bs) (k : Nat) (l : List Tok) : Rx :=
  match dec (s.takeWhile fun c => decide (c ≠ 60)) with
  | none => .no 2
  | some t => if o = [] then (if (s.takeWhile fun c => decide (c ≠ 60)).all eV = true then .ok (s.dropWhile (fun c => decide (c ≠ 60)), o, k, l) else .no 2)
      else .ok (s.dropWhile (fun c => decide (c ≠ 60)), o, k, jY t l)
def hH (p s : Bs) (o : List Bs) (k : Nat) (l : List Tok) : Rx := match iy p s with | none => .no 2 | some (_, r) => .ok (r, o, k, l)
def mb (s : Bs) (o : List Bs) (k : Nat) (l : List Tok) : Rx := match iy [93, 93, 62] s with | none => .no 2 | some (t, r) => if o = [] then .no 2 else .ok (r, o, k, jY t l)
def oQ (s : Bs) (o : List Bs) (k : Nat) (l : List Tok) : Rx := match fO s with
  | none => .no 2
  | some (n, r) => if ([62] : Bs).isPrefixOf (r.dropWhile eV) = true then jx n ((r.dropWhile eV).drop 1) o k l else .no 2
def lu (n : Bs) (as_ : List At) (empty : Bool) (r : Bs) (o : List Bs) (k : Nat) (l : List Tok) : Rx :=
  if o = [] ∧ k ≠ 0 then .no 2 else if 20 ≤ o.length then .no 5
  else if empty = true then .ok (r, o, (if o = [] then k + 1 else k), (l ++ [(0, n, [], as_)]) ++ [(1, n, [], [])]) else .ok (r, o ++ [n], (if o = [] then k + 1 else k), l ++ [(0, n, [], as_)])
def lf (s : Bs) (o : List Bs) (k : Nat) (l : List Tok) : Rx := match fO s with
  | none => .no 2
  | some (n, r) => match eL dec (r.length + 1) [] r with
    | none => .no 2
    | some (as_, empty, r') => lu n as_ empty r' o k l
def eT (s : Bs) (o : List Bs) (k : Nat) (l : List Tok) : Rx :=
  if ([60] : Bs).isPrefixOf s = false then iM dec s o k l
  else if ([60, 33, 45, 45] : Bs).isPrefixOf s = true then hH [45, 45, 62] (s.drop 4) o k l
  else if ([60, 63] : Bs).isPrefixOf s = true then hH [63, 62] (s.drop 2) o k l
  else if ([60, 33, 91, 67, 68, 65, 84, 65, 91] : Bs).isPrefixOf s = true then mb (s.drop 9) o k l
  else if ([60, 33] : Bs).isPrefixOf s = true then hH [62] (s.drop 2) o k l
  else if ([60, 47] : Bs).isPrefixOf s = true then oQ (s.drop 2) o k l
  else lf dec (s.drop 1) o k l
def ix : Nat → Sx → Rx
  | 0, x => .no 2
  | n + 1, (s, o, k, l) => if s = [] then .ok (s, o, k, l) else match eT dec s o k l with
    | .ok y => ix n y
    | .no e => .no e
def hO (s : Bs) : List Tok × Int := match ix dec (s.length + 1) (s, [], 0, []) with
  | .ok (_, o, k, l) => if o = [] ∧ 0 < k then (l, 0) else ([], 2)
  | .no e => ([], e)
end
theorem jA {p : Bs} (hp : p ≠ []) : ∀ {s a b : Bs}, iy p s = some (a, b) → s = a ++ p ++ b
  | [], a, b, h => by
    unfold iy at h
    rw [if_neg hp] at h; cases h
  | c :: r, a, b, h => by
    unfold iy at h
    by_cases g : p.isPrefixOf (c :: r) = true
    · rw [if_pos g] at h
      cases h
      obtain ⟨t, ht⟩ := List.isPrefixOf_iff_prefix.1 g
      rw [← ht, List.drop_left' rfl]; rfl
    · rw [if_neg g] at h
      cases e : iy p r with
      | none => rw [e] at h; cases h
      | some x =>
        obtain ⟨a', b'⟩ := x
        rw [e] at h
        cases h
        rw [jA hp e]
        simp
theorem pG {p s : Bs} (h : p.isPrefixOf s = true) : s = p ++ s.drop p.length := by
  obtain ⟨t, ht⟩ := List.isPrefixOf_iff_prefix.1 h
  rw [← ht, List.drop_left' rfl]
theorem oO (f : UInt8 → Bool) (s : Bs) : (s.dropWhile f).length ≤ s.length := by
  induction s with
  | nil => simp
  | cons c r ih => rw [List.dropWhile_cons]; split <;> simp at * <;> omega
theorem fv {s n r : Bs} (h : fO s = some (n, r)) : s = n ++ r ∧ hY n = true := by
  unfold fO at h
  split at h
  · rename_i g
    cases h
    exact ⟨(List.takeWhile_append_dropWhile).symm, g⟩
  · cases h
theorem pI {n : Bs} (h : hY n = true) : 0 < n.length := by
  cases n with
  | nil => cases h
  | cons c r => simp
section
variable {dec : Bs → Option Bs}
theorem ru {n s : Bs} {q : UInt8} {a : At} {r : Bs} (h : lv dec n q s = some (a, r)) : r.length < s.length := by
  unfold lv at h
  cases e : iy [q] s with
  | none => rw [e] at h; cases h
  | some x =>
    obtain ⟨raw, r'⟩ := x
    rw [e] at h
    simp only at h
    split at h
    · cases h
    · split at h
      · cases h
      · cases h
        have := jA (by simp) e
        rw [this]; simp; omega
theorem lR {s : Bs} {a : At} {r : Bs} (h : jb dec s = some (a, r)) : r.length < s.length := by
  unfold jb at h
  cases e : fO s with
  | none => rw [e] at h; cases h
  | some x =>
    obtain ⟨n, r'⟩ := x
    rw [e] at h
    obtain ⟨rfl, hn⟩ := fv e
    have hp := pI hn
    simp only at h
    split at h
    · have := ru h
      rw [List.length_drop] at this; rw [List.length_append]; omega
    · split at h
      · have := ru h
        rw [List.length_drop] at this; rw [List.length_append]; omega
      · cases h
theorem pA : ∀ {k : Nat} {as_ : List At} {s : Bs} {bs : List At} {e : Bool} {r : Bs}, eL dec k as_ s = some (bs, e, r) → r.length < s.length
  | 0, _, _, _, _, _, h => by cases h
  | k + 1, as_, s, bs, e, r, h => by
    have hd := oO eV s
    unfold eL at h
    split at h
    · rename_i g
      cases h
      have := congrArg List.length (pG g)
      rw [List.length_append] at this
      simp at this ⊢
      omega
    · split at h
      · rename_i g
        cases h
        have := congrArg List.length (pG g)
        rw [List.length_append] at this
        simp at this ⊢
        omega
      · split at h
        · cases h
        · cases ea : jb dec (s.dropWhile eV) with
          | none => rw [ea] at h; cases h
          | some x =>
            obtain ⟨a, r'⟩ := x
            rw [ea] at h
            simp only at h
            have h1 := lR ea
            split at h
            · cases h
            · have := pA h
              omega
theorem oz : ∀ {k m : Nat} {as_ : List At} {s : Bs}, s.length < k → s.length < m → eL dec k as_ s = eL dec m as_ s
  | 0, _, _, _, h, _ => by omega
  | _, 0, _, _, _, h => by omega
  | k + 1, m + 1, as_, s, hk, hm => by
    have hd := oO eV s
    unfold eL
    split
    · rfl
    · split
      · rfl
      · split
        · rfl
        · rename_i g
          cases ea : jb dec (s.dropWhile eV) with
          | none => rfl
          | some x =>
            obtain ⟨a, r'⟩ := x
            have h1 := lR ea
            simp only
            split
            · rfl
            · exact oz (by omega) (by omega)
theorem gq {p s : Bs} (hp : p ≠ []) {o : List Bs} {k : Nat} {l : List Tok} {x : Sx} (h : hH p s o k l = .ok x) : x.1.length ≤ s.length ∧ x.2 = (o, k, l) := by
  unfold hH at h
  cases e : iy p s with
  | none => rw [e] at h; cases h
  | some y =>
    obtain ⟨a, b⟩ := y
    rw [e] at h
    cases h
    have := congrArg List.length (jA hp e)
    simp at this ⊢
    omega
theorem ni {s : Bs} {o : List Bs} {k : Nat} {l : List Tok} {x : Sx} (hs : s ≠ []) (h : eT dec s o k l = .ok x) : x.1.length < s.length := by
  have hpos := List.length_pos_iff.2 hs
  have pl : ∀ p : Bs, p.isPrefixOf s = true → p.length ≤ s.length := fun p g => by
    have := congrArg List.length (pG g)
    rw [List.length_append] at this
    omega
  unfold eT at h
  split at h
  · rename_i g
    have hc : ∃ c r, s = c :: r ∧ c ≠ 60 := by
      cases s with
      | nil => exact absurd rfl hs
      | cons c r =>
        refine ⟨c, r, rfl, fun e => ?_⟩
        rw [e] at g
        simp at g
    obtain ⟨c, r, rfl, hc⟩ := hc
    have hd : ((c :: r).dropWhile fun c => decide (c ≠ 60)).length < (c :: r).length := by
      rw [List.dropWhile_cons, if_pos (by simpa using hc)]
      have := oO (fun c => decide (c ≠ 60)) r
      rw [List.length_cons]; omega
    unfold iM at h
    split at h
    · cases h
    · split at h
      · split at h
        · cases h; exact hd
        · cases h
      · cases h; exact hd
  split at h
  · rename_i g
    have := (gq (by simp) h).1
    have := pl _ g
    rw [List.length_drop] at *
    simp at *; omega
  split at h
  · rename_i g
    have := (gq (by simp) h).1
    have := pl _ g
    rw [List.length_drop] at *
    simp at *; omega
  split at h
  · rename_i g
    have h9 := pl _ g
    unfold mb at h
    cases e : iy [93, 93, 62] (s.drop 9) with
    | none => rw [e] at h; cases h
    | some y =>
      obtain ⟨a, b⟩ := y
      rw [e] at h
      simp only at h
      have := congrArg List.length (jA (by simp) e)
      simp at this h9
      split at h
      · cases h
      · cases h
        simp only
        omega
  split at h
  · rename_i g
    have := (gq (by simp) h).1
    have := pl _ g
    rw [List.length_drop] at *
    simp at *; omega
  split at h
  · rename_i g
    have h2 := pl _ g
    unfold oQ at h
    cases e : fO (s.drop 2) with
    | none => rw [e] at h; cases h
    | some y =>
      obtain ⟨n, r⟩ := y
      rw [e] at h
      simp only at h
      have := congrArg List.length (fv e).1
      have hd := oO eV r
      simp at this h2
      split at h
      · unfold jx at h
        split at h
        · cases h
          simp only [List.length_drop]
          omega
        · cases h
      · cases h
  · unfold lf at h
    cases e : fO (s.drop 1) with
    | none => rw [e] at h; cases h
    | some y =>
      obtain ⟨n, r⟩ := y
      rw [e] at h
      simp only at h
      have := congrArg List.length (fv e).1
      simp at this
      cases ea : eL dec (r.length + 1) [] r with
      | none => rw [ea] at h; cases h
      | some z =>
        obtain ⟨as_, em, r'⟩ := z
        rw [ea] at h
        simp only at h
        have hl := pA ea
        unfold lu at h
        split at h
        · cases h
        · split at h
          · cases h
          · split at h <;> (cases h; simp only; omega)
end
end Go.Xm
namespace Go.Pv
def fa (F : Nat) (a1 : Int) : Option ((List UInt8) × Bool) :=
bif ((!((((decide (a1 = 9)) || (decide (a1 = 10))) || (decide (a1 = 13))) || ((decide (32 ≤ a1)) && (decide (a1 ≤ 55295))))) && (!((decide (57344 ≤ a1)) && (decide (a1 ≤ 65533))))) && (!((decide (65536 ≤ a1)) && (decide (a1 ≤ 1114111)))) then
  some (([] : List UInt8), false)
else
  bif decide (a1 < 128) then
    some (([Go.Av.toB a1] : List UInt8), true)
  else
    bif decide (a1 < 2048) then
      grd (hU a1 64) <|
      grd (okI (192 + (a1 / 64))) <|
      grd (hU a1 64) <|
      grd (okI (128 + (a1 % 64))) <|
      some (([Go.Av.toB (192 + (a1 / 64)), Go.Av.toB (128 + (a1 % 64))] : List UInt8), true)
    else
      bif decide (a1 < 65536) then
        grd (hU a1 4096) <|
        grd (okI (224 + (a1 / 4096))) <|
        grd (hU a1 64) <|
        grd (hU (a1 / 64) 64) <|
        grd (okI (128 + ((a1 / 64) % 64))) <|
        grd (hU a1 64) <|
        grd (okI (128 + (a1 % 64))) <|
        some (([Go.Av.toB (224 + (a1 / 4096)), Go.Av.toB (128 + ((a1 / 64) % 64)), Go.Av.toB (128 + (a1 % 64))] : List UInt8), true)
      else
        grd (hU a1 262144) <|
        grd (okI (240 + (a1 / 262144))) <|
        grd (hU a1 4096) <|
        grd (hU (a1 / 4096) 64) <|
        grd (okI (128 + ((a1 / 4096) % 64))) <|
        grd (hU a1 64) <|
        grd (hU (a1 / 64) 64) <|
        grd (okI (128 + ((a1 / 64) % 64))) <|
        grd (hU a1 64) <|
        grd (okI (128 + (a1 % 64))) <|
        some (([Go.Av.toB (240 + (a1 / 262144)), Go.Av.toB (128 + ((a1 / 4096) % 64)), Go.Av.toB (128 + ((a1 / 64) % 64)), Go.Av.toB (128 + (a1 % 64))] : List UInt8), true)
def jS (F : Nat) (a1 : UInt8) : Option Int :=
bif (decide (48 ≤ (a1.toNat : Int))) && (decide ((a1.toNat : Int) ≤ 57)) then
  some ((a1 - 48).toNat : Int)
else
  bif (decide (97 ≤ (a1.toNat : Int))) && (decide ((a1.toNat : Int) ≤ 102)) then
    grd (okI (((a1 - 97).toNat : Int) + 10)) <|
    some (((a1 - 97).toNat : Int) + 10)
  else
    bif (decide (65 ≤ (a1.toNat : Int))) && (decide ((a1.toNat : Int) ≤ 70)) then
      grd (okI (((a1 - 65).toNat : Int) + 10)) <|
      some (((a1 - 65).toNat : Int) + 10)
    else
      some 99
def kY (a1 : List UInt8) (y21 : Int) : Option Int :=
bif decide ((a1.length : Int) = 0) then
  some (-1)
else
  some y21
def iR (y5 : Int) (rec6 : (Int × Int) → Option Int) (y18 : Int) : Option Int :=
grd (okI (y5 + 1)) <|
rec6 (y18, y5 + 1)
def iV (F : Nat) (a1 : List UInt8) (a2 : Int) (rec6 : (Int × Int) → Option Int) (y4 : Int) (y5 : Int) : Option Int :=
bif decide (y5 < (a1.length : Int)) then
  grd (ce y5 a1.length) <|
  lt (at_ a1 y5) fun x10 =>
  bnd (jS F x10) fun x12 =>
  bif decide (a2 ≤ x12) then
    some (-1)
  else
    grd (okI (a2 * y4)) <|
    grd (okI ((a2 * y4) + x12)) <|
    bif decide (1114111 < (a2 * y4) + x12) then
      iR y5 rec6 1114112
    else
      iR y5 rec6 ((a2 * y4) + x12)
else
  kY a1 y4
def iU (F : Nat) (a1 : List UInt8) (a2 : Int) (n : Nat) : (Int × Int) → Option Int :=
  loop (fun rec x => iV F a1 a2 rec x.1 x.2) n
def fL (F : Nat) (a1 : List UInt8) (a2 : Int) : Option Int :=
iU F a1 a2 F (0, 0)
def kf (F : Nat) (y28 : Int) : Option ((List UInt8) × Bool) :=
gY (fa F y28) fun x30 x31 =>
some (x30, x31)
def ju (F : Nat) (a1 : List UInt8) : Option ((List UInt8) × Bool) :=
bif decide (a1 = ([97, 109, 112] : List UInt8)) then
  some (([38] : List UInt8), true)
else
  bif decide (a1 = ([108, 116] : List UInt8)) then
    some (([60] : List UInt8), true)
  else
    bif decide (a1 = ([103, 116] : List UInt8)) then
      some (([62] : List UInt8), true)
    else
      bif decide (a1 = ([113, 117, 111, 116] : List UInt8)) then
        some (([34] : List UInt8), true)
      else
        bif decide (a1 = ([97, 112, 111, 115] : List UInt8)) then
          some (([39] : List UInt8), true)
        else
          eK (!(decide ((a1.length : Int) < 2))) (ce 0 a1.length) <|
          lt (at_ a1 0) fun x11 =>
          bif (decide ((a1.length : Int) < 2)) || (!decide (x11 = 35)) then
            some (([] : List UInt8), false)
          else
            grd (kA 1 a1.length) <|
            lt (dk a1 1) fun x15 =>
            bnd (fL F x15 10) fun x17 =>
            grd (ce 1 a1.length) <|
            lt (at_ a1 1) fun x20 =>
            bif decide (x20 = 120) then
              grd (kA 2 a1.length) <|
              lt (dk a1 2) fun x24 =>
              bnd (fL F x24 16) fun x26 =>
              kf F x26
            else
              kf F x17
end Go.Pv
namespace Go.Pn
open Go.Pv Go.Av
abbrev Bs := List UInt8
def bl (c : UInt8) : Bool := (((decide (c = 9)) || (decide (c = 10))) || (decide (c = 13))) || (decide (c = 32))
mutual
/-- Behind a sign. -/
def T1 : Bs → Bs
  | [] => []
  | c :: r => bif bl c then T2 r else c :: T1 r
/-- In a gap behind a sign. -/
def T2 : Bs → Bs
  | [] => []
  | c :: r => bif bl c then T2 r else 32 :: c :: T1 r
end
def trim : Bs → Bs
  | [] => []
  | c :: r => bif bl c then trim r else c :: T1 r
def tl (out : Bs) (gap : Bool) (r : Bs) : Bs := if out = [] then trim r else bif gap then T2 r else T1 r
def wgo (cur : Bs) : Bs → List Bs
  | [] => if cur = [] then [] else [cur]
  | c :: r => bif bl c then (if cur = [] then wgo [] r else cur :: wgo [] r) else wgo (cur ++ [c]) r
theorem rest_wgo (s : Bs) : (∀ cur : Bs, cur ≠ [] → Str.join [32] (wgo cur s) = cur ++ T1 s) ∧ Str.join [32] (wgo [] s) = trim s ∧ Str.rest [32] (wgo [] s) = T2 s := by
  induction s with
  | nil => exact ⟨fun cur h => by simp [wgo, h, Str.join, Str.rest, T1], by simp [wgo, Str.join, trim], by simp [wgo, Str.rest, T2]⟩
  | cons c r ih =>
    obtain ⟨h1, h2, h3⟩ := ih
    cases hb : bl c with
    | true =>
      refine ⟨fun cur h => ?_, ?_, ?_⟩
      · simp [wgo, hb, h, Str.join, T1, h3]
      · simp [wgo, hb, trim, h2]
      · simp [wgo, hb, T2, h3]
    | false =>
      have h4 := h1 [c] (by simp)
      refine ⟨fun cur h => ?_, ?_, ?_⟩
      · simp only [wgo, hb, cond_false, T1]
        rw [h1 _ (by simp)]; simp
      · simp only [wgo, hb, cond_false, trim, List.nil_append]
        rw [h4]; rfl
      · simp only [wgo, hb, cond_false, T2, List.nil_append]
        have : Str.rest [32] (wgo [c] r) = 32 :: Str.join [32] (wgo [c] r) := by
          cases hw : wgo [c] r with
          | nil => rw [hw] at h4; simp [Str.join] at h4
          | cons w ws => simp [Str.rest, Str.join]
        rw [this, h4]; rfl
theorem join_wgo (s : Bs) : Str.join [32] (wgo [] s) = trim s := (rest_wgo s).2.1
theorem vE (s : Bs) : ∀ cur : Bs, Str.total (wgo cur s) + (wgo cur s).length ≤ cur.length + s.length + 1 := by
  induction s with
  | nil => intro cur; by_cases h : cur = [] <;> simp [wgo, h, Str.total]
  | cons c r ih =>
    intro cur
    cases hb : bl c with
    | true =>
      have := ih []
      by_cases h : cur = []
      · simp [wgo, hb, h] at this ⊢; omega
      · simp [wgo, hb, h, Str.total] at this ⊢; omega
    | false =>
      have := ih (cur ++ [c])
      simp [wgo, hb] at this ⊢; omega
theorem na (F : Nat) (c : UInt8) : kG F c = some (bl c) := by
  have : ∀ n : Nat, n < 256 → decide (0 ≤ Go.Lib.indexByte ([9, 10, 13, 32] : List UInt8) (UInt8.ofNat n)) = bl (UInt8.ofNat n) := by decide +kernel
  have h := this c.toNat c.toNat_lt
  rw [UInt8.ofNat_toNat] at h
  unfold kG
  simp only [bk]
  rw [h]
theorem ent_end (F : Nat) (s : Bs) (hs : s.length ≤ 1000000) (n : Nat) (l : List Bs) (hl : l.length + Str.total l ≤ 100000000) (hn1 : n ≥ 1) : dE F s n (l, (-1), ((s.length + 1 : Nat) : Int)) = some (Str.join [32] l) := by
  obtain ⟨m, rfl⟩ : ∃ m, n = m + 1 := ⟨n - 1, by omega⟩;show fF F s (dE F s m) l (-1) ((s.length + 1 : Nat) : Int) = _
  unfold fF iL
  have h1 : ¬ (((s.length + 1 : Nat) : Int) ≤ (s.length : Int)) := by omega
  rw [bF h1, grd_Join (by simp; omega), bk]
theorem ent_loop (F : Nat) (s : Bs) (hs : s.length ≤ 1000000) : ∀ (n : Nat) (l : List Bs) (fr : Int) (cur : Bs) (i : Nat), s.length + 1 - i < n → i ≤ s.length → l.length ≤ i →
    ((fr = -1 ∧ cur = []) ∨ ∃ f : Nat, fr = (f : Int) ∧ f < i ∧ cur = (s.take i).drop f) → (l ++ wgo cur (s.drop i)).length + Str.total (l ++ wgo cur (s.drop i)) ≤ 100000000 →
    dE F s n (l, fr, (i : Int)) = some (Str.join [32] (l ++ wgo cur (s.drop i))) := by
  intro n
  induction n with
  | zero => intro l fr cur i h; omega
  | succ n ih =>
    intro l fr cur i hn hi hl hf hJ;show fF F s (dE F s n) l fr (i : Int) = _
    unfold fF fE
    have hend : ∀ l : List Bs, l.length + Str.total l ≤ 100000000 → n ≥ 1 → dE F s n (l, (-1), ((s.length + 1 : Nat) : Int)) = some (Str.join [32] l) := ent_end F s hs n
    by_cases h : i < s.length
    · have hd : s.drop i = s[i] :: s.drop (i + 1) := aN h
      have hne : decide ((i : Int) = (s.length : Int)) = false := decide_eq_false (by omega)
      simp (disch := omega) only [bT, hne, Bool.not_false, lm, ck, bk, dS h, na, bndc_t, bN, Bool.false_or]
      rw [hd] at hJ ⊢
      cases hb : bl s[i] with
      | true =>
        simp only [wgo, hb, cond_true] at hJ ⊢
        rcases hf with ⟨rfl, rfl⟩ | ⟨f, rfl, hfi, rfl⟩
        · simp only [if_true] at hJ ⊢
          simp (disch := omega) only [Bool.not_true, Bool.false_and, cond_false, Bool.true_and, bF, cn, bU]
          exact ih l (-1) [] (i + 1) (by omega) (by omega) (by omega) (.inl ⟨rfl, rfl⟩) hJ
        · have hc : (s.take i).drop f ≠ [] := by
            intro h2; have := congrArg List.length h2; simp at this; omega
          simp only [hc, if_false] at hJ ⊢
          simp (disch := (first | omega | (simp; omega))) only [Bool.not_true, Bool.false_and, cond_false, Bool.true_and, bT, oW, dJ, sd, cn, bU]
          rw [ih (l ++ [(s.take i).drop f]) (-1) [] (i + 1) (by omega) (by omega) (by simp; omega) (.inl ⟨rfl, rfl⟩) (by simpa using hJ)]
          simp
      | false =>
        simp only [wgo, hb, cond_false] at hJ ⊢
        rcases hf with ⟨rfl, rfl⟩ | ⟨f, rfl, hfi, rfl⟩
        · simp (disch := omega) only [Bool.not_false, Bool.true_and, bT, cn, bU]
          have hc : ([] : Bs) ++ [s[i]] = (s.take (i + 1)).drop i := by
            rw [List.take_succ_eq_append_getElem h, List.drop_append_of_le_length (by simp; omega), aU (by simp; omega)]
          rw [hc] at hJ ⊢
          exact ih l (i : Int) _ (i + 1) (by omega) (by omega) (by omega) (.inr ⟨i, rfl, by omega, rfl⟩) hJ
        · simp (disch := omega) only [Bool.not_false, Bool.true_and, bF, Bool.false_and, cond_false, cn, bU]
          have hc : (s.take i).drop f ++ [s[i]] = (s.take (i + 1)).drop f := by
            rw [List.take_succ_eq_append_getElem h, List.drop_append_of_le_length (by simp; omega)]
          rw [hc] at hJ ⊢
          exact ih l (f : Int) _ (i + 1) (by omega) (by omega) (by omega) (.inr ⟨f, rfl, by omega, rfl⟩) hJ
    · have hi2 : i = s.length := by omega
      subst hi2
      have hyes : decide ((s.length : Int) = (s.length : Int)) = true := decide_eq_true rfl
      simp (disch := omega) only [bT, hyes, Bool.not_true, gl, bk, na, jC, Bool.true_or, List.drop_length] at hJ ⊢
      rcases hf with ⟨rfl, rfl⟩ | ⟨f, rfl, hfi, rfl⟩
      · simp (disch := omega) only [Bool.false_and, cond_false, Bool.true_and, bF, cn, bU]
        rw [hend l (by simpa [wgo] using hJ) (by omega)]
        simp [wgo, gl, jC]
      · have hc : (s.take s.length).drop f ≠ [] := by
          intro h2; have := congrArg List.length h2; simp at this; omega
        simp only [wgo, hc, if_false] at hJ ⊢
        simp (disch := (first | omega | (simp; omega))) only [Bool.false_and, cond_false, Bool.true_and, bT, oW, dJ, sd, cn, bU]
        exact hend _ hJ (by omega)
theorem ent_Trim_eq (F : Nat) (s : Bs) (hs : s.length ≤ 1000000) (hF : s.length + 1 < F) : lI F s = some (trim s) := by
  have h1 := vE s []
  have := ent_loop F s hs F [] (-1) [] 0 (by omega) (by omega) (by simp) (.inl ⟨rfl, rfl⟩) (by simp at h1 ⊢; omega)
  rw [← join_wgo]
  simpa [lI] using this
end Go.Pn
namespace Go.Pn
open Go.Pv Go.Av
theorem mX {c : UInt8} {s : Bs} (h : ∀ b ∈ s, b ≠ c) : Go.Lib.indexByte s c = -1 := by
  induction s with
  | nil => rfl
  | cons b r ih => simp [Go.Lib.indexByte, h b (by simp), ih (fun x hx => h x (by simp [hx]))]
end Go.Pn
