/-
  Texts in one (only what XmlAround needs): XmlBW, XmlLP, XmlLW, LXmlAroundP, LXmlAroundW, XmA, RefEP, PnTrim, PnPlainE, PnLoose, PnNum, PnSign, PnGone, PnLooseEq, PnLooseB, PnApp, XmP, XmQ, XmS, XmT, XmL, XmR, XmO.
-/
import Derived.Test.YteokdkimegepoaaGreatDoorZXmlAround3
import Derived.Test.YteokdkimegepoaaGreatDoorShelf
import Derived.Lib.ItoaNum
import Derived.Lib.IndexLaws
import Derived.Test.YteokdkimegepoaaGreatDoorChecked
import Derived.Lib.IndexMore
import Derived.Laws.RangeAny
set_option linter.unusedVariables false
set_option linter.unusedSimpArgs false
set_option linter.unusedSectionVars false
namespace Go.Proofs.YteokdkimegepoaaGreatDoor
open Go.RowKit Go.Av Go.Pv
theorem tp : ∀ (args : Array Value) (w : World), (callFunc 25 args).run Tryz.prog w = .ok (.enter 25 args) w := fun _ _ => by kernel_rfl
theorem tn : ∀ (args : Array Value) (w : World), (callFunc 26 args).run Tryz.prog w = .ok (.enter 26 args) w := fun _ _ => by kernel_rfl
theorem tm : ∀ (args : Array Value) (w : World), (callFunc 27 args).run Tryz.prog w = .ok (.enter 27 args) w := fun _ _ => by kernel_rfl
theorem th : ∀ (args : Array Value) (w : World), (callFunc 36 args).run Tryz.prog w = .ok (.enter 36 args) w := fun _ _ => by kernel_rfl
theorem te : ∀ (args : Array Value) (w : World), (callFunc 63 args).run Tryz.prog w = .ok (.enter 63 args) w := fun _ _ => by kernel_rfl
set_option maxRecDepth 100000 in
set_option maxHeartbeats 1000000 in
theorem rm (F : Nat) (a1 : List ((List UInt8) × List UInt8)) (q2 : Option Nat) (a3 : List ((List UInt8) × List UInt8)) (q4 : Option Nat) (r5 : Bool) (H : kc F a1 a3 = some r5) : ACalls Tryz.prog 27 [slE (ab Enc.str Enc.str) a1 q2, slE (ab Enc.str Enc.str) a3 q4] [] (Ret (B r5) []) := by
 unfold kc at H
 refine au Tryz.func27 rfl rfl ?_;show AW _ _ 26 _ _ _;refine ac <| aa ?_;show AR _ _ _ _ _ [0] _;refine za rfl <| ai <| ac <| ac <| aa ?_;show AR _ _ _ _ _ [0, 1, 2, 3, 4] _;refine zS rfl (af (av := slE _ _ _) rfl) <| zS rfl (be aL rfl) <| zS rfl (af (av := slE _ _ _) rfl) <| zS rfl (be aL rfl) <| zS rfl (hO rfl rfl) <| ai <| ax rfl (fun c6 => ?_) (fun c6 => ?_)
 ·replace H := aY c6 H;refine ac <| aa ?_;show AR _ _ _ _ _ [0] _;refine za rfl <| ai <| aJ ?_;obtain rfl := al H;exact And.intro rfl (Exists.intro _ (Exists.intro _ ⟨aC rfl (.refl _), aH [] rfl, rfl, rfl⟩))
 ·replace H := aZ c6 H;refine aB <| bV (X := Unit) (fun _ => ⟨[], [], []⟩) (fun _ => ir = some r5) ?_ ?_
  ·refine ac <| aa ?_;show AR _ _ _ _ _ [0, 1, 2] _;refine zS rfl (af (av := slE _ _ _) rfl) <| zS rfl (be aL rfl) <| zm rfl <| ai <| aP <| dp (X := Nat × Int) (fun (n9, y7) => ⟨[(0, slE (ab Enc.str Enc.str) a1 q2), (1, slE (ab Enc.str Enc.str) a3 q4), (12, i64 (a1.length : Int)), (13, i64 y7)], [], []⟩) (fun (n9, y7) => gy a1 a3 n9 y7 = some r5) (fun (n9, y7) => n9) (F, 0) H (bf [] (.cons (.refl _) (.cons (.refl _) (.cons (.refl _) (.cons (.refl _) (.nil _))))) rfl) ?_;rintro ⟨n9, y7⟩ H;obtain ⟨n9, rfl, H⟩ := eT H;replace H : gz a1 a3 (gy a1 a3 n9) y7 = some r5 := H
   unfold gz at H
   refine ac <| aa ?_;show AR _ _ _ _ _ [0] _;refine zS rfl (bU rfl rfl) <| ai <| ac <| ax rfl (fun c10 => ?_) (fun c10 => ?_)
   ·replace H := aY c10 H;refine aB <| ac <| aP <| ac <| aa ?_;show AR _ _ _ _ _ [0, 1] _;refine zm rfl <| za rfl <| ai <| ac ?_;obtain ⟨g11, H⟩ := aW H;obtain ⟨x12, e13, H⟩ := bM H;obtain ⟨g14, H⟩ := aW H;obtain ⟨x15, e16, H⟩ := bM H;refine bE (by kernel_rfl) ?_;show AI _ _ _ _ _ 9 (Array.replicate 9 false) _;refine zk 0 rfl (af (av := slE _ _ _) rfl) ?_;show AI _ _ _ _ _ _ #[true, false, false, false, false, false, false, false, false] _;refine zk 1 rfl (mv rfl) ?_;show AI _ _ _ _ _ _ #[true, true, false, false, false, false, false, false, false] _;refine zk 2 rfl (bw (E := (ab Enc.str Enc.str)) aL (by kernel_rfl) rfl rfl g11 e13) ?_;show AI _ _ _ _ _ _ #[true, true, true, false, false, false, false, false, false] _;refine zk 3 rfl (cj bS rfl (n := 2) (by kernel_rfl) rfl (ah rfl)) ?_;show AI _ _ _ _ _ _ #[true, true, true, true, false, false, false, false, false] _;refine zk 4 rfl (af (av := slE _ _ _) rfl) ?_;show AI _ _ _ _ _ _ #[true, true, true, true, true, false, false, false, false] _;refine zk 5 rfl (mv rfl) ?_;show AI _ _ _ _ _ _ #[true, true, true, true, true, true, false, false, false] _;refine zk 6 rfl (bw (E := (ab Enc.str Enc.str)) aL (by kernel_rfl) rfl rfl g14 e16) ?_;show AI _ _ _ _ _ _ #[true, true, true, true, true, true, true, false, false] _;refine zk 7 rfl (cj bS rfl (n := 2) (by kernel_rfl) rfl (ah rfl)) ?_
    show AI _ _ _ _ _ _ #[true, true, true, true, true, true, true, true, false] _;refine zk 8 rfl (kN (r := (decide (x12.1 = x15.1)) && (decide (x12.2 = x15.2))) (.inr rfl) bS (by kernel_rfl) (by kernel_rfl) (by kernel_rfl) rfl rfl rfl (by simp only [List.all_cons, List.all_nil, id, sg, Bool.and_true])) ?_;show AI _ _ _ _ _ _ #[true, true, true, true, true, true, true, true, true] _;refine cl rfl <| ax rfl (fun c17 => ?_) (fun c17 => ?_)
    ·replace H := aY c17 H;refine ac <| aa ?_;show AR _ _ _ _ _ [0] _;refine za rfl <| ai <| aJ ?_;obtain rfl := al H;exact And.intro rfl (Exists.intro _ (Exists.intro _ ⟨aC rfl (.refl _), aH [] rfl, rfl, rfl⟩))
    ·replace H := aZ c17 H;refine aB ?_;obtain ⟨g18, H⟩ := aW H;refine aa ?_;show AR _ _ _ _ _ [0, 1] _;refine zS rfl (fa rfl rfl g18) <| zm rfl <| ai ?_;exact Exists.intro (n9, y7 + 1) ⟨H, Nat.lt_succ_self _, bf [] (.cons (.refl _) (.cons (.refl _) (.cons (.refl _) (.cons (.refl _) (.nil _))))) rfl⟩
   ·replace H := aZ c10 H;refine cC ?_;exact Exists.intro () ⟨H, bf [] (.nil _) rfl⟩
  rintro _ H;replace H : ir = some r5 := H
  unfold ir at H
  refine ac <| aa ?_;show AR _ _ _ _ _ [0] _;refine za rfl <| ai <| aJ ?_;obtain rfl := al H;exact And.intro rfl (Exists.intro _ (Exists.intro _ ⟨aC rfl (.refl _), aH [] rfl, rfl, rfl⟩))
set_option maxRecDepth 100000 in
set_option maxHeartbeats 1000000 in
theorem rk (F : Nat) (a1 : Int) (a2 : List UInt8) (a3 : List UInt8) (a4 : List ((List UInt8) × List UInt8)) (a5 : Int) (a6 : List UInt8) (a7 : List UInt8) (a8 : List ((List UInt8) × List UInt8)) (r9 : Bool) (H : lz F a1 a2 a3 a4 a5 a6 a7 a8 = some r9) : ACalls Tryz.prog 26 [.agg [i64 a1, S a2, S a3, slE (ab Enc.str Enc.str) a4 none], .agg [i64 a5, S a6, S a7, slE (ab Enc.str Enc.str) a8 none]] [] (Ret (B r9) []) := by
 unfold lz at H
 refine au Tryz.func26 rfl rfl ?_;show AW _ _ 31 _ _ _;refine ac <| aa ?_;show AR _ _ _ _ _ [0, 1, 2] _;refine zR rfl (lW rfl (.inr ⟨_, rfl⟩)) <| zR rfl (lW rfl (.inr ⟨_, rfl⟩)) <| za rfl <| ai <| ac ?_;obtain ⟨x13, e14, H⟩ := eC H;refine aa ?_;show AR _ _ _ _ _ [0, 1, 2, 3, 4, 5, 6, 7, 8, 9, 10, 11, 12, 13, 14, 15, 16, 17, 18, 19, 20, 21, 22, 23, 24, 25, 26] _;refine zS rfl (aV (n := 0) (by kernel_rfl) rfl (ah rfl)) <| zS rfl (aM bK rfl rfl) <| zS rfl (aV (n := 0) (by kernel_rfl) rfl (ah rfl)) <| zS rfl (aM bK rfl rfl) <| zS rfl (bW rfl rfl) <| zm rfl <| aX (l := [12, 13, 14, 15, 16, 17, 18, 19, 20, 21, 22, 23, 24, 25, 26]) 16 (B ((decide (a1 = a5)) && (decide (a2 = a6)))) (fun K => ?_) ?_
 ·rcases ak (decide (a1 = a5)) with h10 | h10
  ·refine zU h10 rfl (aV (n := 1) (by kernel_rfl) rfl (ah rfl)) <| zU h10 rfl (aM ag rfl rfl) <| zU h10 rfl (aV (n := 1) (by kernel_rfl) rfl (ah rfl)) <| zU h10 rfl (aM ag rfl rfl) <| zU h10 rfl (eV rfl rfl) <| zS rfl (aE (av := .v _) rfl h10 rfl) ?_;exact K _ 5 _ (ay (cA h10)) rfl rfl
  ·refine zF h10 rfl <| zF h10 rfl <| zF h10 rfl <| zF h10 rfl <| zF h10 rfl <| zS rfl (aF (av := .v _) rfl h10 rfl) ?_;exact K _ 5 _ (ay (cB h10)) rfl rfl
 refine zm rfl <| aX (l := [19, 20, 21, 22, 23, 24, 25, 26]) 23 (B (((decide (a1 = a5)) && (decide (a2 = a6))) && (decide (a3 = a7)))) (fun K => ?_) ?_
 ·rcases ak ((decide (a1 = a5)) && (decide (a2 = a6))) with h11 | h11
  ·refine zU h11 rfl (aV (n := 2) (by kernel_rfl) rfl (ah rfl)) <| zU h11 rfl (aM ag rfl rfl) <| zU h11 rfl (aV (n := 2) (by kernel_rfl) rfl (ah rfl)) <| zU h11 rfl (aM ag rfl rfl) <| zU h11 rfl (eV rfl rfl) <| zS rfl (aE (av := .v _) rfl h11 rfl) ?_;exact K _ 5 _ (ay (cA h11)) rfl rfl
  ·refine zF h11 rfl <| zF h11 rfl <| zF h11 rfl <| zF h11 rfl <| zF h11 rfl <| zS rfl (aF (av := .v _) rfl h11 rfl) ?_;exact K _ 5 _ (ay (cB h11)) rfl rfl
 refine zm rfl <| aX (l := [26]) 30 (B ((((decide (a1 = a5)) && (decide (a2 = a6))) && (decide (a3 = a7))) && x13)) (fun K => ?_) ?_
 ·rcases ak (((decide (a1 = a5)) && (decide (a2 = a6))) && (decide (a3 = a7))) with h12 | h12
  ·refine zU h12 rfl (aV (n := 3) (by kernel_rfl) rfl (ah rfl)) <| zU h12 rfl (aM aL rfl rfl) <| zU h12 rfl (aV (n := 3) (by kernel_rfl) rfl (ah rfl)) <| zU h12 rfl (aM aL rfl rfl) <| zT h12 rfl (aG rfl tm rfl (rm F a4 none a8 none x13 (e14 h12)) ?_);refine zS rfl (aE (av := .v _) rfl h12 rfl) ?_;exact K _ 5 _ (ay (cA h12)) rfl rfl
  ·refine zF h12 rfl <| zF h12 rfl <| zF h12 rfl <| zF h12 rfl <| zF h12 rfl <| zS rfl (aF (av := .v _) rfl h12 rfl) ?_;exact K _ 5 _ (ay (cB h12)) rfl rfl
 refine za rfl <| ai <| aJ ?_;obtain rfl := al H;exact And.intro rfl (Exists.intro _ (Exists.intro _ ⟨aC rfl (.refl _), aH [] rfl, rfl, rfl⟩))
set_option maxRecDepth 100000 in
set_option maxHeartbeats 1000000 in
theorem na (F : Nat) (a1 : List (Int × (List UInt8) × (List UInt8) × List ((List UInt8) × List UInt8))) (q2 : Option Nat) (a3 : List (Int × (List UInt8) × (List UInt8) × List ((List UInt8) × List UInt8))) (q4 : Option Nat) (r5 : Bool) (H : gY F a1 a3 = some r5) : ACalls Tryz.prog 25 [slE (ab Enc.int (ab Enc.str (ab Enc.str (Enc.sl (ab Enc.str Enc.str))))) a1 q2, slE (ab Enc.int (ab Enc.str (ab Enc.str (Enc.sl (ab Enc.str Enc.str))))) a3 q4, .v (.func (.func 26) #[] #[])] [] (Ret (B r5) []) := by
 unfold gY at H
 refine au Tryz.func25 rfl rfl ?_;show AW _ _ 32 _ _ _;refine ac <| aa ?_;show AR _ _ _ _ _ [0] _;refine za rfl <| ai <| ac <| ac <| aa ?_;show AR _ _ _ _ _ [0, 1, 2, 3, 4] _;refine zS rfl (af (av := slE _ _ _) rfl) <| zS rfl (be aw rfl) <| zS rfl (af (av := slE _ _ _) rfl) <| zS rfl (be aw rfl) <| zS rfl (hO rfl rfl) <| ai <| ax rfl (fun c6 => ?_) (fun c6 => ?_)
 ·replace H := aY c6 H;refine ac <| aa ?_;show AR _ _ _ _ _ [0] _;refine za rfl <| ai <| aJ ?_;obtain rfl := al H;exact And.intro rfl (Exists.intro _ (Exists.intro _ ⟨aC rfl (.refl _), aH [] rfl, rfl, rfl⟩))
 ·replace H := aZ c6 H;refine aB <| bV (X := Unit) (fun _ => ⟨[], [], []⟩) (fun _ => fj = some r5) ?_ ?_
  ·refine ac <| aa ?_;show AR _ _ _ _ _ [0, 1, 2] _;refine zS rfl (af (av := slE _ _ _) rfl) <| zS rfl (be aw rfl) <| zm rfl <| ai <| aP <| dp (X := Nat × Int) (fun (n9, y7) => ⟨[(1, slE (ab Enc.int (ab Enc.str (ab Enc.str (Enc.sl (ab Enc.str Enc.str))))) a3 q4), (2, .v (.func (.func 26) #[] #[])), (15, slE (ab Enc.int (ab Enc.str (ab Enc.str (Enc.sl (ab Enc.str Enc.str))))) a1 q2), (16, i64 (a1.length : Int)), (17, i64 y7)], [], []⟩) (fun (n9, y7) => dr F a1 a3 n9 y7 = some r5) (fun (n9, y7) => n9) (F, 0) H (bf [] (.cons (.refl _) (.cons (.refl _) (.cons (.refl _) (.cons (.refl _) (.cons (.refl _) (.nil _)))))) rfl) ?_;rintro ⟨n9, y7⟩ H;obtain ⟨n9, rfl, H⟩ := eT H;replace H : dY F a1 a3 (dr F a1 a3 n9) y7 = some r5 := H
   unfold dY at H
   refine ac <| aa ?_;show AR _ _ _ _ _ [0] _;refine zS rfl (bU rfl rfl) <| ai <| ac <| ax rfl (fun c10 => ?_) (fun c10 => ?_)
   ·replace H := aY c10 H;refine aB <| ac <| aP <| ac ?_;obtain ⟨g11, H⟩ := aW H;obtain ⟨x12, e13, H⟩ := bM H;refine aa ?_;show AR _ _ _ _ _ [0, 1, 2, 3, 4, 5] _;refine zm rfl <| zS rfl (bw (E := (ab Enc.int (ab Enc.str (ab Enc.str (Enc.sl (ab Enc.str Enc.str)))))) aw (by kernel_rfl) rfl rfl g11 e13) <| zS rfl (cj dx rfl (n := 4) (by kernel_rfl) rfl (ah rfl)) <| zX rfl (ex (zs := [.int .i64 0, .string ⟨#[]⟩, .string ⟨#[]⟩, .slice none 0 0]) (by kernel_rfl)) ?_;rintro _ _ ⟨o14, rfl, rfl⟩;refine za rfl <| s0 rfl rfl (cW (i := 0) (vs := [i64 x12.1, S x12.2.1, S x12.2.2.1, slE (ab Enc.str Enc.str) x12.2.2.2 none]) (by kernel_rfl) rfl rfl (by simp [cd, slE]) rfl (ah rfl)) <| AR.freezeCp 8 0 rfl rfl ?_;show AR _ _ _ _ _ _ ⟨_, _, []⟩;refine ai <| ac ?_;obtain ⟨g15, H⟩ := aW H;obtain ⟨x16, e17, H⟩ := bM H;refine aa ?_;show AR _ _ _ _ _ [0, 1, 2, 3, 4, 5] _;refine zS rfl (af (av := slE _ _ _) rfl) <| zm rfl <| zS rfl (bw (E := (ab Enc.int (ab Enc.str (ab Enc.str (Enc.sl (ab Enc.str Enc.str)))))) aw (by kernel_rfl) rfl rfl g15 e17) <| zS rfl (cj dx rfl (n := 4) (by kernel_rfl) rfl (ah rfl)) <| zX rfl (ex (zs := [.int .i64 0, .string ⟨#[]⟩, .string ⟨#[]⟩, .slice none 0 0]) (by kernel_rfl)) ?_;rintro _ _ ⟨o18, rfl, rfl⟩
    refine s0 rfl rfl (cW (i := 0) (vs := [i64 x16.1, S x16.2.1, S x16.2.2.1, slE (ab Enc.str Enc.str) x16.2.2.2 none]) (by kernel_rfl) rfl rfl (by simp [cd, slE]) rfl (ah rfl)) <| AR.freezeCp 9 0 rfl rfl ?_;show AR _ _ _ _ _ _ ⟨_, _, []⟩;refine ai <| ac ?_;obtain ⟨x19, e20, H⟩ := eD H;refine aa ?_;show AR _ _ _ _ _ [0, 1, 2, 3, 4] _;refine zm rfl <| zS rfl (cj dx rfl (n := 4) (by kernel_rfl) rfl (ah rfl)) <| zS rfl (cj dx rfl (n := 4) (by kernel_rfl) rfl (ah rfl)) <| am rfl rfl (AO.callFp rfl (.inr ⟨rfl, rfl, rfl⟩) tn rfl (rk F x12.1 x12.2.1 x12.2.2.1 x12.2.2.2 x16.1 x16.2.1 x16.2.2.1 x16.2.2.2 x19 e20) ?_);refine zS rfl (ce rfl) <| ai <| ax rfl (fun c21 => ?_) (fun c21 => ?_)
    ·replace H := aY c21 H;refine ac <| aa ?_;show AR _ _ _ _ _ [0] _;refine za rfl <| ai <| aJ ?_;obtain rfl := al H;exact And.intro rfl (Exists.intro _ (Exists.intro _ ⟨aC rfl (.refl _), aH [] rfl, rfl, rfl⟩))
    ·replace H := aZ c21 H;refine aB ?_;obtain ⟨g22, H⟩ := aW H;refine aa ?_;show AR _ _ _ _ _ [0, 1] _;refine zS rfl (fa rfl rfl g22) <| zm rfl <| ai ?_;exact Exists.intro (n9, y7 + 1) ⟨H, Nat.lt_succ_self _, bf [] (.cons (.refl _) (.cons (.refl _) (.cons (.refl _) (.cons (.refl _) (.cons (.refl _) (.nil _)))))) rfl⟩
   ·replace H := aZ c10 H;refine cC ?_;exact Exists.intro () ⟨H, bf [] (.nil _) rfl⟩
  rintro _ H;replace H : fj = some r5 := H
  unfold fj at H
  refine ac <| aa ?_;show AR _ _ _ _ _ [0] _;refine za rfl <| ai <| aJ ?_;obtain rfl := al H;exact And.intro rfl (Exists.intro _ (Exists.intro _ ⟨aC rfl (.refl _), aH [] rfl, rfl, rfl⟩))
set_option maxRecDepth 100000 in
set_option maxHeartbeats 1000000 in
theorem oz (F : Nat) (a1 : List (Int × (List UInt8) × (List UInt8) × List ((List UInt8) × List UInt8))) (q2 : Option Nat) (a3 : List (Int × (List UInt8) × (List UInt8) × List ((List UInt8) × List UInt8))) (q4 : Option Nat) (r5 : Bool) (H : kv F a1 a3 = some r5) : ACalls Tryz.prog 13 [slE (ab Enc.int (ab Enc.str (ab Enc.str (Enc.sl (ab Enc.str Enc.str))))) a1 q2, slE (ab Enc.int (ab Enc.str (ab Enc.str (Enc.sl (ab Enc.str Enc.str))))) a3 q4] [] (Ret (B r5) []) := by
 unfold kv at H
 refine au Tryz.func13 rfl rfl ?_;show AW _ _ 8 _ _ _;refine ac <| aa ?_;show AR _ _ _ _ _ [0] _;refine za rfl <| ai <| ac ?_;obtain ⟨x6, e7, H⟩ := eD H;refine aa ?_;show AR _ _ _ _ _ [0, 1, 2, 3] _;refine zS rfl (af (av := slE _ _ _) rfl) <| zS rfl (af (av := slE _ _ _) rfl) <| am rfl rfl (aG rfl tp rfl (na F a1 q2 a3 q4 x6 e7) ?_);refine za rfl <| ai <| aJ ?_;obtain rfl := al H;exact And.intro rfl (Exists.intro _ (Exists.intro _ ⟨aC rfl (.refl _), aH [] rfl, rfl, rfl⟩))
set_option maxRecDepth 100000 in
set_option maxHeartbeats 1000000 in
theorem py (F : Nat) (a1 : List UInt8) (a2 : UInt8) (r3 : Int) (H : kU F a1 a2 = some r3) : ACalls Tryz.prog 63 [S a1, u8 a2] [] (Ret (i64 r3) []) := by
 unfold kU at H
 refine au Tryz.func63 rfl rfl ?_;show AW _ _ 19 _ _ _;refine ac <| aa ?_;show AR _ _ _ _ _ [0] _;refine za rfl <| ai <| bV (X := Unit) (fun _ => ⟨[], [], []⟩) (fun _ => gn = some r3) ?_ ?_
 ·refine ac ?_;obtain ⟨g4, H⟩ := aW H;refine aa ?_;show AR _ _ _ _ _ [0, 1, 2, 3] _;refine zm rfl <| zS rfl (bu ag rfl) <| zS rfl (rf rfl rfl g4) <| za rfl <| ai <| aP <| dp (X := Nat × Int) (fun (n7, y5) => ⟨[(0, S a1), (1, u8 a2), (5, i64 y5)], [], []⟩) (fun (n7, y5) => iy a1 a2 n7 y5 = some r3) (fun (n7, y5) => n7) (F, (a1.length : Int) - 1) H (bf [] (.cons (.refl _) (.cons (.refl _) (.cons (.refl _) (.nil _)))) rfl) ?_;rintro ⟨n7, y5⟩ H;obtain ⟨n7, rfl, H⟩ := eT H;replace H : iz a1 a2 (iy a1 a2 n7) y5 = some r3 := H
  unfold iz at H
  refine ac <| ac <| aa ?_;show AR _ _ _ _ _ [0, 1] _;refine zm rfl <| zS rfl (eS rfl rfl) <| ai <| ax rfl (fun c8 => ?_) (fun c8 => ?_)
  ·replace H := aY c8 H;refine aB <| ac <| aP <| ac ?_;obtain ⟨g9, H⟩ := aW H;obtain ⟨x10, e11, H⟩ := bM H;refine aa ?_;show AR _ _ _ _ _ [0, 1, 2, 3, 4] _;refine zm rfl <| zm rfl <| zS rfl (bj ag rfl rfl g9 e11) <| zm rfl <| zS rfl (ij (a := x10) (b := a2) rfl rfl) <| ai <| ax rfl (fun c12 => ?_) (fun c12 => ?_)
   ·replace H := aY c12 H;refine ac <| aa ?_;show AR _ _ _ _ _ [0, 1] _;refine zm rfl <| za rfl <| ai <| aJ ?_;obtain rfl := al H;exact And.intro rfl (Exists.intro _ (Exists.intro _ ⟨aC rfl (.refl _), aH [] rfl, rfl, rfl⟩))
   ·replace H := aZ c12 H;refine aB ?_;obtain ⟨g13, H⟩ := aW H;refine aa ?_;show AR _ _ _ _ _ [0, 1, 2] _;refine zm rfl <| zS rfl (rf rfl rfl g13) <| za rfl <| ai ?_;exact Exists.intro (n7, y5 - 1) ⟨H, Nat.lt_succ_self _, bf [] (.cons (.refl _) (.cons (.refl _) (.cons (.refl _) (.nil _)))) rfl⟩
  ·replace H := aZ c8 H;refine cC ?_;exact Exists.intro () ⟨H, bf [] (.nil _) rfl⟩
 rintro _ H;replace H : gn = some r3 := H
 unfold gn at H
 refine ac <| aa ?_;show AR _ _ _ _ _ [0] _;refine za rfl <| ai <| aJ ?_;obtain rfl := al H;exact And.intro rfl (Exists.intro _ (Exists.intro _ ⟨aC rfl (.refl _), aH [] rfl, rfl, rfl⟩))
set_option maxRecDepth 100000 in
set_option maxHeartbeats 1000000 in
theorem kP (F : Nat) (a1 : List UInt8) (a2 : UInt8) (r3 : Int) (H : gc F a1 a2 = some r3) : ACalls Tryz.prog 36 [S a1, u8 a2] [] (Ret (i64 r3) []) := by
 unfold gc at H
 refine au Tryz.func36 rfl rfl ?_;show AW _ _ 8 _ _ _;refine ac <| aa ?_;show AR _ _ _ _ _ [0] _;refine za rfl <| ai <| ac ?_;obtain ⟨x4, e5, H⟩ := eD H;refine aa ?_;show AR _ _ _ _ _ [0, 1, 2, 3] _;refine zm rfl <| zm rfl <| am rfl rfl (aG rfl te rfl (py F a1 a2 x4 e5) ?_);refine za rfl <| ai <| aJ ?_;obtain rfl := al H;exact And.intro rfl (Exists.intro _ (Exists.intro _ ⟨aC rfl (.refl _), aH [] rfl, rfl, rfl⟩))
set_option maxRecDepth 100000 in
set_option maxHeartbeats 1000000 in
theorem rl (F : Nat) (a1 : List UInt8) (r2 : List UInt8) (H : nz F a1 = some r2) : ACalls Tryz.prog 19 [S a1] [] (Ret (S r2) []) := by
 unfold nz at H
 refine au Tryz.func19 rfl rfl ?_;show AW _ _ 8 _ _ _;refine ac <| aa ?_;show AR _ _ _ _ _ [0] _;refine za rfl <| ai <| ac ?_;obtain ⟨x3, e4, H⟩ := eD H;obtain ⟨g5, H⟩ := aW H;obtain ⟨g6, H⟩ := aW H;obtain ⟨x7, e8, H⟩ := bM H;refine aa ?_;show AR _ _ _ _ _ [0, 1, 2, 3, 4, 5] _;refine zm rfl <| zm rfl <| am rfl rfl (aG rfl th rfl (kP F a1 58 x3 e4) ?_);refine zS rfl (fa rfl rfl g5) <| zS rfl (dE ag rfl rfl g6 e8) <| za rfl <| ai <| aJ ?_;obtain rfl := al H;exact And.intro rfl (Exists.intro _ (Exists.intro _ ⟨aC rfl (.refl _), aH [] rfl, rfl, rfl⟩))
end Go.Proofs.YteokdkimegepoaaGreatDoor
namespace Go.Pv
def gq : Option Bool :=
some true
def gp (y7 : Int) (rec8 : Int → Option Bool) : Option Bool :=
grd (okI (y7 + 1)) <|
rec8 (y7 + 1)
def iD (a1 : List (Int × (List UInt8) × (List UInt8) × List ((List UInt8) × List UInt8))) (a3 : List (Int × (List UInt8) × (List UInt8) × List ((List UInt8) × List UInt8))) (y7 : Int) (rec8 : Int → Option Bool) (rec40 : Int → Option Bool) (y39 : Int) : Option Bool :=
grd (cy y7 a1.length) <|
lt (at_ a1 y7) fun x43 =>
bif decide (y39 < (x43.2.2.2.length : Int)) then
  grd (cy y7 a1.length) <|
  lt (at_ a1 y7) fun x47 =>
  grd (cy y39 x47.2.2.2.length) <|
  lt (at_ x47.2.2.2 y39) fun x50 =>
  grd (cy y7 a3.length) <|
  lt (at_ a3 y7) fun x53 =>
  grd (cy y39 x53.2.2.2.length) <|
  lt (at_ x53.2.2.2 y39) fun x56 =>
  bif !((decide (x50.1 = x56.1)) && (decide (x50.2 = x56.2))) then
    some false
  else
    grd (okI (y39 + 1)) <|
    rec40 (y39 + 1)
else
  gp y7 rec8
def iB (a1 : List (Int × (List UInt8) × (List UInt8) × List ((List UInt8) × List UInt8))) (a3 : List (Int × (List UInt8) × (List UInt8) × List ((List UInt8) × List UInt8))) (y7 : Int) (rec8 : Int → Option Bool) (n : Nat) : Int → Option Bool :=
  loop (fun rec x => iD a1 a3 y7 rec8 rec x) n
def iC (F : Nat) (a1 : List (Int × (List UInt8) × (List UInt8) × List ((List UInt8) × List UInt8))) (a3 : List (Int × (List UInt8) × (List UInt8) × List ((List UInt8) × List UInt8))) (rec8 : Int → Option Bool) (y7 : Int) : Option Bool :=
bif decide (y7 < (a1.length : Int)) then
  grd (cy y7 a1.length) <|
  lt (at_ a1 y7) fun x12 =>
  grd (cy y7 a3.length) <|
  lt (at_ a3 y7) fun x15 =>
  eE (!(!decide (x12.1 = x15.1))) (cy y7 a1.length) <|
  lt (at_ a1 y7) fun x19 =>
  eE (!(!decide (x12.1 = x15.1))) (cy y7 a3.length) <|
  lt (at_ a3 y7) fun x22 =>
  eE (!((!decide (x12.1 = x15.1)) || (!decide (x19.2.1 = x22.2.1)))) (cy y7 a1.length) <|
  lt (at_ a1 y7) fun x26 =>
  eE (!((!decide (x12.1 = x15.1)) || (!decide (x19.2.1 = x22.2.1)))) (cy y7 a3.length) <|
  lt (at_ a3 y7) fun x29 =>
  eE (!(((!decide (x12.1 = x15.1)) || (!decide (x19.2.1 = x22.2.1))) || (!decide (x26.2.2.1 = x29.2.2.1)))) (cy y7 a1.length) <|
  lt (at_ a1 y7) fun x33 =>
  eE (!(((!decide (x12.1 = x15.1)) || (!decide (x19.2.1 = x22.2.1))) || (!decide (x26.2.2.1 = x29.2.2.1)))) (cy y7 a3.length) <|
  lt (at_ a3 y7) fun x36 =>
  bif (((!decide (x12.1 = x15.1)) || (!decide (x19.2.1 = x22.2.1))) || (!decide (x26.2.2.1 = x29.2.2.1))) || (!decide ((x33.2.2.2.length : Int) = (x36.2.2.2.length : Int))) then
    some false
  else
    iB a1 a3 y7 rec8 F 0
else
  gq
def cV (F : Nat) (a1 : List (Int × (List UInt8) × (List UInt8) × List ((List UInt8) × List UInt8))) (a3 : List (Int × (List UInt8) × (List UInt8) × List ((List UInt8) × List UInt8))) (n : Nat) : Int → Option Bool :=
  loop (fun rec x => iC F a1 a3 rec x) n
def kW (F : Nat) (a1 : List (Int × (List UInt8) × (List UInt8) × List ((List UInt8) × List UInt8))) (a3 : List (Int × (List UInt8) × (List UInt8) × List ((List UInt8) × List UInt8))) : Option Bool :=
bif !decide ((a1.length : Int) = (a3.length : Int)) then
  some false
else
  cV F a1 a3 F 0
def gA (F : Nat) : Option Bool :=
gJ (gj F ([60, 97, 32, 98, 61, 34, 49, 34, 62, 120, 38, 97, 109, 112, 59, 60] ++ [99, 47, 62, 60, 47, 97, 62] : List UInt8)) fun x3 x4 =>
bnd (kW F x3 ([(0, ([97] : List UInt8), ([] : List UInt8), ([(([98] : List UInt8), ([49] : List UInt8))] : List ((List UInt8) × List UInt8))), (2, ([] : List UInt8), ([120, 38] : List UInt8), ([] : List ((List UInt8) × List UInt8))), (0, ([99] : List UInt8), ([] : List UInt8), ([] : List ((List UInt8) × List UInt8))), (1, ([99] : List UInt8), ([] : List UInt8), ([] : List ((List UInt8) × List UInt8))), (1, ([97] : List UInt8), ([] : List UInt8), ([] : List ((List UInt8) × List UInt8)))] : List (Int × (List UInt8) × (List UInt8) × List ((List UInt8) × List UInt8)))) fun x6 =>
iY ((decide (x4 = 0)) && x6) (kw F ([97, 58, 98] : List UInt8)) fun x10 =>
iY (((decide (x4 = 0)) && x6) && x10) (nz F ([97, 58, 98] : List UInt8)) fun x13 =>
iY ((((decide (x4 = 0)) && x6) && x10) && (decide (x13 = ([98] : List UInt8)))) (kv F x3 ([(0, ([97] : List UInt8), ([] : List UInt8), ([(([98] : List UInt8), ([49] : List UInt8))] : List ((List UInt8) × List UInt8))), (2, ([] : List UInt8), ([120, 38] : List UInt8), ([] : List ((List UInt8) × List UInt8))), (0, ([99] : List UInt8), ([] : List UInt8), ([] : List ((List UInt8) × List UInt8))), (1, ([99] : List UInt8), ([] : List UInt8), ([] : List ((List UInt8) × List UInt8))), (1, ([97] : List UInt8), ([] : List UInt8), ([] : List ((List UInt8) × List UInt8)))] : List (Int × (List UInt8) × (List UInt8) × List ((List UInt8) × List UInt8)))) fun x16 =>
some (((((decide (x4 = 0)) && x6) && x10) && (decide (x13 = ([98] : List UInt8)))) && x16)
end Go.Pv
namespace Go.Proofs.YteokdkimegepoaaGreatDoor
open Go.RowKit Go.Av Go.Pv
theorem tD : ∀ (args : Array Value) (w : World), (callFunc 10 args).run Tryz.prog w = .ok (.enter 10 args) w := fun _ _ => by kernel_rfl
theorem tB : ∀ (args : Array Value) (w : World), (callFunc 12 args).run Tryz.prog w = .ok (.enter 12 args) w := fun _ _ => by kernel_rfl
theorem tz : ∀ (args : Array Value) (w : World), (callFunc 13 args).run Tryz.prog w = .ok (.enter 13 args) w := fun _ _ => by kernel_rfl
theorem tr : ∀ (args : Array Value) (w : World), (callFunc 18 args).run Tryz.prog w = .ok (.enter 18 args) w := fun _ _ => by kernel_rfl
theorem tq : ∀ (args : Array Value) (w : World), (callFunc 19 args).run Tryz.prog w = .ok (.enter 19 args) w := fun _ _ => by kernel_rfl
set_option maxRecDepth 100000 in
set_option maxHeartbeats 1000000 in
theorem pz (F : Nat) (a1 : List (Int × (List UInt8) × (List UInt8) × List ((List UInt8) × List UInt8))) (q2 : Option Nat) (a3 : List (Int × (List UInt8) × (List UInt8) × List ((List UInt8) × List UInt8))) (q4 : Option Nat) (r5 : Bool) (H : kW F a1 a3 = some r5) : ACalls Tryz.prog 12 [slE (ab Enc.int (ab Enc.str (ab Enc.str (Enc.sl (ab Enc.str Enc.str))))) a1 q2, slE (ab Enc.int (ab Enc.str (ab Enc.str (Enc.sl (ab Enc.str Enc.str))))) a3 q4] [] (Ret (B r5) []) := by
 unfold kW at H
 refine au Tryz.func12 rfl rfl ?_;show AW _ _ 97 _ _ _;refine ac <| aa ?_;show AR _ _ _ _ _ [0] _;refine za rfl <| ai <| ac <| ac <| aa ?_;show AR _ _ _ _ _ [0, 1, 2, 3, 4] _;refine zS rfl (af (av := slE _ _ _) rfl) <| zS rfl (be aw rfl) <| zS rfl (af (av := slE _ _ _) rfl) <| zS rfl (be aw rfl) <| zS rfl (hO rfl rfl) <| ai <| ax rfl (fun c6 => ?_) (fun c6 => ?_)
 ·replace H := aY c6 H;refine ac <| aa ?_;show AR _ _ _ _ _ [0] _;refine za rfl <| ai <| aJ ?_;obtain rfl := al H;exact And.intro rfl (Exists.intro _ (Exists.intro _ ⟨aC rfl (.refl _), aH [] rfl, rfl, rfl⟩))
 ·replace H := aZ c6 H;refine aB <| bV (X := Unit) (fun _ => ⟨[], [], []⟩) (fun _ => gq = some r5) ?_ ?_
  ·refine ac <| aa ?_;show AR _ _ _ _ _ [0] _;refine za rfl <| ai <| aP <| dp (X := Nat × Int) (fun (n9, y7) => ⟨[(0, slE (ab Enc.int (ab Enc.str (ab Enc.str (Enc.sl (ab Enc.str Enc.str))))) a1 q2), (1, slE (ab Enc.int (ab Enc.str (ab Enc.str (Enc.sl (ab Enc.str Enc.str))))) a3 q4), (5, i64 y7)], [], []⟩) (fun (n9, y7) => cV F a1 a3 n9 y7 = some r5) (fun (n9, y7) => n9) (F, 0) H (bf [] (.cons (.refl _) (.cons (.refl _) (.cons (.refl _) (.nil _)))) rfl) ?_;rintro ⟨n9, y7⟩ H;obtain ⟨n9, rfl, H⟩ := eT H;replace H : iC F a1 a3 (cV F a1 a3 n9) y7 = some r5 := H
   unfold iC at H
   refine ac <| ac <| aa ?_;show AR _ _ _ _ _ [0, 1, 2, 3] _;refine zm rfl <| zS rfl (af (av := slE _ _ _) rfl) <| zS rfl (be aw rfl) <| zS rfl (bU rfl rfl) <| ai <| ax rfl (fun c10 => ?_) (fun c10 => ?_)
   ·replace H := aY c10 H;refine aB <| bV (X := Unit) (fun _ => ⟨[(0, slE (ab Enc.int (ab Enc.str (ab Enc.str (Enc.sl (ab Enc.str Enc.str))))) a1 q2), (1, slE (ab Enc.int (ab Enc.str (ab Enc.str (Enc.sl (ab Enc.str Enc.str))))) a3 q4), (5, i64 y7)], [], []⟩) (fun _ => gp y7 (cV F a1 a3 n9) = some r5) ?_ ?_
    ·refine aP <| ac <| ac ?_;obtain ⟨g11, H⟩ := aW H;obtain ⟨x12, e13, H⟩ := bM H;obtain ⟨g14, H⟩ := aW H;obtain ⟨x15, e16, H⟩ := bM H;obtain ⟨g18, H⟩ := cz H;obtain ⟨x19, e20, H⟩ := bM H;obtain ⟨g21, H⟩ := cz H;obtain ⟨x22, e23, H⟩ := bM H;obtain ⟨g25, H⟩ := cz H;obtain ⟨x26, e27, H⟩ := bM H;obtain ⟨g28, H⟩ := cz H;obtain ⟨x29, e30, H⟩ := bM H;obtain ⟨g32, H⟩ := cz H;obtain ⟨x33, e34, H⟩ := bM H;obtain ⟨g35, H⟩ := cz H;obtain ⟨x36, e37, H⟩ := bM H;refine bE (by kernel_rfl) ?_;show AI _ _ _ _ _ 52 (Array.replicate 52 false) _;refine zk 0 rfl (af (av := slE _ _ _) rfl) ?_;show AI _ _ _ _ _ _ #[true, false, false, false, false, false, false, false, false, false, false, false, false, false, false, false, false, false, false, false, false, false, false, false, false, false, false, false, false, false, false, false, false, false, false, false, false, false, false, false, false, false, false, false, false, false, false, false, false, false, false, false] _;refine zk 1 rfl (mv rfl) ?_;show AI _ _ _ _ _ _ #[true, true, false, false, false, false, false, false, false, false, false, false, false, false, false, false, false, false, false, false, false, false, false, false, false, false, false, false, false, false, false, false, false, false, false, false, false, false, false, false, false, false, false, false, false, false, false, false, false, false, false, false] _
     refine zk 2 rfl (bw (E := (ab Enc.int (ab Enc.str (ab Enc.str (Enc.sl (ab Enc.str Enc.str)))))) aw (by kernel_rfl) rfl rfl g11 e13) ?_;show AI _ _ _ _ _ _ #[true, true, true, false, false, false, false, false, false, false, false, false, false, false, false, false, false, false, false, false, false, false, false, false, false, false, false, false, false, false, false, false, false, false, false, false, false, false, false, false, false, false, false, false, false, false, false, false, false, false, false, false] _;refine zk 3 rfl (aV (n := 0) (by kernel_rfl) rfl (ah rfl)) ?_;show AI _ _ _ _ _ _ #[true, true, true, true, false, false, false, false, false, false, false, false, false, false, false, false, false, false, false, false, false, false, false, false, false, false, false, false, false, false, false, false, false, false, false, false, false, false, false, false, false, false, false, false, false, false, false, false, false, false, false, false] _;refine zk 4 rfl (aM bK rfl rfl) ?_;show AI _ _ _ _ _ _ #[true, true, true, true, true, false, false, false, false, false, false, false, false, false, false, false, false, false, false, false, false, false, false, false, false, false, false, false, false, false, false, false, false, false, false, false, false, false, false, false, false, false, false, false, false, false, false, false, false, false, false, false] _;refine zk 5 rfl (af (av := slE _ _ _) rfl) ?_
     show AI _ _ _ _ _ _ #[true, true, true, true, true, true, false, false, false, false, false, false, false, false, false, false, false, false, false, false, false, false, false, false, false, false, false, false, false, false, false, false, false, false, false, false, false, false, false, false, false, false, false, false, false, false, false, false, false, false, false, false] _;refine zk 6 rfl (mv rfl) ?_;show AI _ _ _ _ _ _ #[true, true, true, true, true, true, true, false, false, false, false, false, false, false, false, false, false, false, false, false, false, false, false, false, false, false, false, false, false, false, false, false, false, false, false, false, false, false, false, false, false, false, false, false, false, false, false, false, false, false, false, false] _;refine zk 7 rfl (bw (E := (ab Enc.int (ab Enc.str (ab Enc.str (Enc.sl (ab Enc.str Enc.str)))))) aw (by kernel_rfl) rfl rfl g14 e16) ?_;show AI _ _ _ _ _ _ #[true, true, true, true, true, true, true, true, false, false, false, false, false, false, false, false, false, false, false, false, false, false, false, false, false, false, false, false, false, false, false, false, false, false, false, false, false, false, false, false, false, false, false, false, false, false, false, false, false, false, false, false] _;refine zk 8 rfl (aV (n := 0) (by kernel_rfl) rfl (ah rfl)) ?_
     show AI _ _ _ _ _ _ #[true, true, true, true, true, true, true, true, true, false, false, false, false, false, false, false, false, false, false, false, false, false, false, false, false, false, false, false, false, false, false, false, false, false, false, false, false, false, false, false, false, false, false, false, false, false, false, false, false, false, false, false] _;refine zk 9 rfl (aM bK rfl rfl) ?_;show AI _ _ _ _ _ _ #[true, true, true, true, true, true, true, true, true, true, false, false, false, false, false, false, false, false, false, false, false, false, false, false, false, false, false, false, false, false, false, false, false, false, false, false, false, false, false, false, false, false, false, false, false, false, false, false, false, false, false, false] _;refine zk 10 rfl (hO rfl rfl) ?_;show AI _ _ _ _ _ _ #[true, true, true, true, true, true, true, true, true, true, true, false, false, false, false, false, false, false, false, false, false, false, false, false, false, false, false, false, false, false, false, false, false, false, false, false, false, false, false, false, false, false, false, false, false, false, false, false, false, false, false, false] _;refine zk 11 rfl (mv rfl) ?_
     show AI _ _ _ _ _ _ #[true, true, true, true, true, true, true, true, true, true, true, true, false, false, false, false, false, false, false, false, false, false, false, false, false, false, false, false, false, false, false, false, false, false, false, false, false, false, false, false, false, false, false, false, false, false, false, false, false, false, false, false] _;refine AI.meet 28 #[true, true, true, true, true, true, true, true, true, true, true, true, true, true, true, true, true, true, true, true, true, true, true, true, false, false, false, false, false, false, false, false, false, false, false, false, false, false, false, false, false, false, false, false, false, false, false, false, false, false, false, false] 41 (B ((!decide (x12.1 = x15.1)) || (!decide (x19.2.1 = x22.2.1)))) (fun K23 => ?_) ?_
     ·refine me (t := 29) rfl (fun h17 => ?_) (fun h17 => ?_)
      ·refine br (i := 12) rfl rfl (by kernel_rfl) (by kernel_rfl) (by kernel_rfl) rfl rfl rfl (fun _ _ h => h) h17 ?_;show AI _ _ _ _ _ _ #[true, true, true, true, true, true, true, true, true, true, true, true, true, false, false, false, false, false, false, false, false, false, false, false, false, false, false, false, false, false, false, false, false, false, false, false, false, false, false, false, false, false, false, false, false, false, false, false, false, false, false, false] _;refine br (i := 13) rfl rfl (by kernel_rfl) (by kernel_rfl) (by kernel_rfl) rfl rfl rfl (fun _ _ h => h) h17 ?_;show AI _ _ _ _ _ _ #[true, true, true, true, true, true, true, true, true, true, true, true, true, true, false, false, false, false, false, false, false, false, false, false, false, false, false, false, false, false, false, false, false, false, false, false, false, false, false, false, false, false, false, false, false, false, false, false, false, false, false, false] _;refine br (i := 14) rfl rfl (by kernel_rfl) (by kernel_rfl) (by kernel_rfl) rfl rfl rfl (fun _ _ h => h) h17 ?_;show AI _ _ _ _ _ _ #[true, true, true, true, true, true, true, true, true, true, true, true, true, true, true, false, false, false, false, false, false, false, false, false, false, false, false, false, false, false, false, false, false, false, false, false, false, false, false, false, false, false, false, false, false, false, false, false, false, false, false, false] _;refine br (i := 15) rfl rfl (by kernel_rfl) (by kernel_rfl) (by kernel_rfl) rfl rfl rfl (fun _ _ h => h) h17 ?_
       show AI _ _ _ _ _ _ #[true, true, true, true, true, true, true, true, true, true, true, true, true, true, true, true, false, false, false, false, false, false, false, false, false, false, false, false, false, false, false, false, false, false, false, false, false, false, false, false, false, false, false, false, false, false, false, false, false, false, false, false] _;refine br (i := 16) rfl rfl (by kernel_rfl) (by kernel_rfl) (by kernel_rfl) rfl rfl rfl (fun _ _ h => h) h17 ?_;show AI _ _ _ _ _ _ #[true, true, true, true, true, true, true, true, true, true, true, true, true, true, true, true, true, false, false, false, false, false, false, false, false, false, false, false, false, false, false, false, false, false, false, false, false, false, false, false, false, false, false, false, false, false, false, false, false, false, false, false] _;refine br (i := 17) rfl rfl (by kernel_rfl) (by kernel_rfl) (by kernel_rfl) rfl rfl rfl (fun _ _ h => h) h17 ?_;show AI _ _ _ _ _ _ #[true, true, true, true, true, true, true, true, true, true, true, true, true, true, true, true, true, true, false, false, false, false, false, false, false, false, false, false, false, false, false, false, false, false, false, false, false, false, false, false, false, false, false, false, false, false, false, false, false, false, false, false] _;refine br (i := 18) rfl rfl (by kernel_rfl) (by kernel_rfl) (by kernel_rfl) rfl rfl rfl (fun _ _ h => h) h17 ?_
       show AI _ _ _ _ _ _ #[true, true, true, true, true, true, true, true, true, true, true, true, true, true, true, true, true, true, true, false, false, false, false, false, false, false, false, false, false, false, false, false, false, false, false, false, false, false, false, false, false, false, false, false, false, false, false, false, false, false, false, false] _;refine br (i := 19) rfl rfl (by kernel_rfl) (by kernel_rfl) (by kernel_rfl) rfl rfl rfl (fun _ _ h => h) h17 ?_;show AI _ _ _ _ _ _ #[true, true, true, true, true, true, true, true, true, true, true, true, true, true, true, true, true, true, true, true, false, false, false, false, false, false, false, false, false, false, false, false, false, false, false, false, false, false, false, false, false, false, false, false, false, false, false, false, false, false, false, false] _;refine br (i := 20) rfl rfl (by kernel_rfl) (by kernel_rfl) (by kernel_rfl) rfl rfl rfl (fun _ _ h => h) h17 ?_;show AI _ _ _ _ _ _ #[true, true, true, true, true, true, true, true, true, true, true, true, true, true, true, true, true, true, true, true, true, false, false, false, false, false, false, false, false, false, false, false, false, false, false, false, false, false, false, false, false, false, false, false, false, false, false, false, false, false, false, false] _;refine br (i := 21) rfl rfl (by kernel_rfl) (by kernel_rfl) (by kernel_rfl) rfl rfl rfl (fun _ _ h => h) h17 ?_
       show AI _ _ _ _ _ _ #[true, true, true, true, true, true, true, true, true, true, true, true, true, true, true, true, true, true, true, true, true, true, false, false, false, false, false, false, false, false, false, false, false, false, false, false, false, false, false, false, false, false, false, false, false, false, false, false, false, false, false, false] _;refine br (i := 22) rfl rfl (by kernel_rfl) (by kernel_rfl) (by kernel_rfl) rfl rfl rfl (fun _ _ h => h) h17 ?_;show AI _ _ _ _ _ _ #[true, true, true, true, true, true, true, true, true, true, true, true, true, true, true, true, true, true, true, true, true, true, true, false, false, false, false, false, false, false, false, false, false, false, false, false, false, false, false, false, false, false, false, false, false, false, false, false, false, false, false, false] _;refine zk 23 rfl (dl (av' := B ((!decide (x12.1 = x15.1)) || (!decide (x19.2.1 = x22.2.1)))) (aE (av := .v _) rfl h17 rfl) (ay (jI h17))) ?_;show AI _ _ _ _ _ _ #[true, true, true, true, true, true, true, true, true, true, true, true, true, true, true, true, true, true, true, true, true, true, true, true, false, false, false, false, false, false, false, false, false, false, false, false, false, false, false, false, false, false, false, false, false, false, false, false, false, false, false, false] _;exact K23 _ 11 rfl rfl
      ·refine bq (i := 12) rfl rfl (by kernel_rfl) (by kernel_rfl) (by kernel_rfl) rfl rfl rfl (fun _ _ h => h) h17 (af (av := slE _ _ _) rfl) ?_;show AI _ _ _ _ _ _ #[true, true, true, true, true, true, true, true, true, true, true, true, true, false, false, false, false, false, false, false, false, false, false, false, false, false, false, false, false, false, false, false, false, false, false, false, false, false, false, false, false, false, false, false, false, false, false, false, false, false, false, false] _;refine bq (i := 13) rfl rfl (by kernel_rfl) (by kernel_rfl) (by kernel_rfl) rfl rfl rfl (fun _ _ h => h) h17 (mv rfl) ?_;show AI _ _ _ _ _ _ #[true, true, true, true, true, true, true, true, true, true, true, true, true, true, false, false, false, false, false, false, false, false, false, false, false, false, false, false, false, false, false, false, false, false, false, false, false, false, false, false, false, false, false, false, false, false, false, false, false, false, false, false] _;refine bq (i := 14) rfl rfl (by kernel_rfl) (by kernel_rfl) (by kernel_rfl) rfl rfl rfl (fun _ _ h => h) h17 (bw (E := (ab Enc.int (ab Enc.str (ab Enc.str (Enc.sl (ab Enc.str Enc.str)))))) aw (by kernel_rfl) rfl rfl (g18 (nf h17)) e20) ?_
       show AI _ _ _ _ _ _ #[true, true, true, true, true, true, true, true, true, true, true, true, true, true, true, false, false, false, false, false, false, false, false, false, false, false, false, false, false, false, false, false, false, false, false, false, false, false, false, false, false, false, false, false, false, false, false, false, false, false, false, false] _;refine bq (i := 15) rfl rfl (by kernel_rfl) (by kernel_rfl) (by kernel_rfl) rfl rfl rfl (fun _ _ h => h) h17 (aV (n := 1) (by kernel_rfl) rfl (ah rfl)) ?_;show AI _ _ _ _ _ _ #[true, true, true, true, true, true, true, true, true, true, true, true, true, true, true, true, false, false, false, false, false, false, false, false, false, false, false, false, false, false, false, false, false, false, false, false, false, false, false, false, false, false, false, false, false, false, false, false, false, false, false, false] _;refine bq (i := 16) rfl rfl (by kernel_rfl) (by kernel_rfl) (by kernel_rfl) rfl rfl rfl (fun _ _ h => h) h17 (aM ag rfl rfl) ?_;show AI _ _ _ _ _ _ #[true, true, true, true, true, true, true, true, true, true, true, true, true, true, true, true, true, false, false, false, false, false, false, false, false, false, false, false, false, false, false, false, false, false, false, false, false, false, false, false, false, false, false, false, false, false, false, false, false, false, false, false] _
       refine bq (i := 17) rfl rfl (by kernel_rfl) (by kernel_rfl) (by kernel_rfl) rfl rfl rfl (fun _ _ h => h) h17 (af (av := slE _ _ _) rfl) ?_;show AI _ _ _ _ _ _ #[true, true, true, true, true, true, true, true, true, true, true, true, true, true, true, true, true, true, false, false, false, false, false, false, false, false, false, false, false, false, false, false, false, false, false, false, false, false, false, false, false, false, false, false, false, false, false, false, false, false, false, false] _;refine bq (i := 18) rfl rfl (by kernel_rfl) (by kernel_rfl) (by kernel_rfl) rfl rfl rfl (fun _ _ h => h) h17 (mv rfl) ?_;show AI _ _ _ _ _ _ #[true, true, true, true, true, true, true, true, true, true, true, true, true, true, true, true, true, true, true, false, false, false, false, false, false, false, false, false, false, false, false, false, false, false, false, false, false, false, false, false, false, false, false, false, false, false, false, false, false, false, false, false] _;refine bq (i := 19) rfl rfl (by kernel_rfl) (by kernel_rfl) (by kernel_rfl) rfl rfl rfl (fun _ _ h => h) h17 (bw (E := (ab Enc.int (ab Enc.str (ab Enc.str (Enc.sl (ab Enc.str Enc.str)))))) aw (by kernel_rfl) rfl rfl (g21 (nf h17)) e23) ?_
       show AI _ _ _ _ _ _ #[true, true, true, true, true, true, true, true, true, true, true, true, true, true, true, true, true, true, true, true, false, false, false, false, false, false, false, false, false, false, false, false, false, false, false, false, false, false, false, false, false, false, false, false, false, false, false, false, false, false, false, false] _;refine bq (i := 20) rfl rfl (by kernel_rfl) (by kernel_rfl) (by kernel_rfl) rfl rfl rfl (fun _ _ h => h) h17 (aV (n := 1) (by kernel_rfl) rfl (ah rfl)) ?_;show AI _ _ _ _ _ _ #[true, true, true, true, true, true, true, true, true, true, true, true, true, true, true, true, true, true, true, true, true, false, false, false, false, false, false, false, false, false, false, false, false, false, false, false, false, false, false, false, false, false, false, false, false, false, false, false, false, false, false, false] _;refine bq (i := 21) rfl rfl (by kernel_rfl) (by kernel_rfl) (by kernel_rfl) rfl rfl rfl (fun _ _ h => h) h17 (aM ag rfl rfl) ?_;show AI _ _ _ _ _ _ #[true, true, true, true, true, true, true, true, true, true, true, true, true, true, true, true, true, true, true, true, true, true, false, false, false, false, false, false, false, false, false, false, false, false, false, false, false, false, false, false, false, false, false, false, false, false, false, false, false, false, false, false] _;refine bq (i := 22) rfl rfl (by kernel_rfl) (by kernel_rfl) (by kernel_rfl) rfl rfl rfl (fun _ _ h => h) h17 (lM rfl rfl) ?_
       show AI _ _ _ _ _ _ #[true, true, true, true, true, true, true, true, true, true, true, true, true, true, true, true, true, true, true, true, true, true, true, false, false, false, false, false, false, false, false, false, false, false, false, false, false, false, false, false, false, false, false, false, false, false, false, false, false, false, false, false] _;refine zk 23 rfl (dl (av' := B ((!decide (x12.1 = x15.1)) || (!decide (x19.2.1 = x22.2.1)))) (aF (av := .v _) rfl h17 rfl) (ay (jJ h17))) ?_;show AI _ _ _ _ _ _ #[true, true, true, true, true, true, true, true, true, true, true, true, true, true, true, true, true, true, true, true, true, true, true, true, false, false, false, false, false, false, false, false, false, false, false, false, false, false, false, false, false, false, false, false, false, false, false, false, false, false, false, false] _;exact K23 _ 11 rfl rfl
     refine zk 24 rfl (mv rfl) ?_;show AI _ _ _ _ _ _ #[true, true, true, true, true, true, true, true, true, true, true, true, true, true, true, true, true, true, true, true, true, true, true, true, true, false, false, false, false, false, false, false, false, false, false, false, false, false, false, false, false, false, false, false, false, false, false, false, false, false, false, false] _;refine AI.meet 15 #[true, true, true, true, true, true, true, true, true, true, true, true, true, true, true, true, true, true, true, true, true, true, true, true, true, true, true, true, true, true, true, true, true, true, true, true, true, false, false, false, false, false, false, false, false, false, false, false, false, false, false, false] 54 (B (((!decide (x12.1 = x15.1)) || (!decide (x19.2.1 = x22.2.1))) || (!decide (x26.2.2.1 = x29.2.2.1)))) (fun K36 => ?_) ?_
     ·refine me (t := 42) rfl (fun h24 => ?_) (fun h24 => ?_)
      ·refine br (i := 25) rfl rfl (by kernel_rfl) (by kernel_rfl) (by kernel_rfl) rfl rfl rfl (fun _ _ h => h) h24 ?_;show AI _ _ _ _ _ _ #[true, true, true, true, true, true, true, true, true, true, true, true, true, true, true, true, true, true, true, true, true, true, true, true, true, true, false, false, false, false, false, false, false, false, false, false, false, false, false, false, false, false, false, false, false, false, false, false, false, false, false, false] _;refine br (i := 26) rfl rfl (by kernel_rfl) (by kernel_rfl) (by kernel_rfl) rfl rfl rfl (fun _ _ h => h) h24 ?_;show AI _ _ _ _ _ _ #[true, true, true, true, true, true, true, true, true, true, true, true, true, true, true, true, true, true, true, true, true, true, true, true, true, true, true, false, false, false, false, false, false, false, false, false, false, false, false, false, false, false, false, false, false, false, false, false, false, false, false, false] _;refine br (i := 27) rfl rfl (by kernel_rfl) (by kernel_rfl) (by kernel_rfl) rfl rfl rfl (fun _ _ h => h) h24 ?_;show AI _ _ _ _ _ _ #[true, true, true, true, true, true, true, true, true, true, true, true, true, true, true, true, true, true, true, true, true, true, true, true, true, true, true, true, false, false, false, false, false, false, false, false, false, false, false, false, false, false, false, false, false, false, false, false, false, false, false, false] _;refine br (i := 28) rfl rfl (by kernel_rfl) (by kernel_rfl) (by kernel_rfl) rfl rfl rfl (fun _ _ h => h) h24 ?_
       show AI _ _ _ _ _ _ #[true, true, true, true, true, true, true, true, true, true, true, true, true, true, true, true, true, true, true, true, true, true, true, true, true, true, true, true, true, false, false, false, false, false, false, false, false, false, false, false, false, false, false, false, false, false, false, false, false, false, false, false] _;refine br (i := 29) rfl rfl (by kernel_rfl) (by kernel_rfl) (by kernel_rfl) rfl rfl rfl (fun _ _ h => h) h24 ?_;show AI _ _ _ _ _ _ #[true, true, true, true, true, true, true, true, true, true, true, true, true, true, true, true, true, true, true, true, true, true, true, true, true, true, true, true, true, true, false, false, false, false, false, false, false, false, false, false, false, false, false, false, false, false, false, false, false, false, false, false] _;refine br (i := 30) rfl rfl (by kernel_rfl) (by kernel_rfl) (by kernel_rfl) rfl rfl rfl (fun _ _ h => h) h24 ?_;show AI _ _ _ _ _ _ #[true, true, true, true, true, true, true, true, true, true, true, true, true, true, true, true, true, true, true, true, true, true, true, true, true, true, true, true, true, true, true, false, false, false, false, false, false, false, false, false, false, false, false, false, false, false, false, false, false, false, false, false] _;refine br (i := 31) rfl rfl (by kernel_rfl) (by kernel_rfl) (by kernel_rfl) rfl rfl rfl (fun _ _ h => h) h24 ?_
       show AI _ _ _ _ _ _ #[true, true, true, true, true, true, true, true, true, true, true, true, true, true, true, true, true, true, true, true, true, true, true, true, true, true, true, true, true, true, true, true, false, false, false, false, false, false, false, false, false, false, false, false, false, false, false, false, false, false, false, false] _;refine br (i := 32) rfl rfl (by kernel_rfl) (by kernel_rfl) (by kernel_rfl) rfl rfl rfl (fun _ _ h => h) h24 ?_;show AI _ _ _ _ _ _ #[true, true, true, true, true, true, true, true, true, true, true, true, true, true, true, true, true, true, true, true, true, true, true, true, true, true, true, true, true, true, true, true, true, false, false, false, false, false, false, false, false, false, false, false, false, false, false, false, false, false, false, false] _;refine br (i := 33) rfl rfl (by kernel_rfl) (by kernel_rfl) (by kernel_rfl) rfl rfl rfl (fun _ _ h => h) h24 ?_;show AI _ _ _ _ _ _ #[true, true, true, true, true, true, true, true, true, true, true, true, true, true, true, true, true, true, true, true, true, true, true, true, true, true, true, true, true, true, true, true, true, true, false, false, false, false, false, false, false, false, false, false, false, false, false, false, false, false, false, false] _;refine br (i := 34) rfl rfl (by kernel_rfl) (by kernel_rfl) (by kernel_rfl) rfl rfl rfl (fun _ _ h => h) h24 ?_
       show AI _ _ _ _ _ _ #[true, true, true, true, true, true, true, true, true, true, true, true, true, true, true, true, true, true, true, true, true, true, true, true, true, true, true, true, true, true, true, true, true, true, true, false, false, false, false, false, false, false, false, false, false, false, false, false, false, false, false, false] _;refine br (i := 35) rfl rfl (by kernel_rfl) (by kernel_rfl) (by kernel_rfl) rfl rfl rfl (fun _ _ h => h) h24 ?_;show AI _ _ _ _ _ _ #[true, true, true, true, true, true, true, true, true, true, true, true, true, true, true, true, true, true, true, true, true, true, true, true, true, true, true, true, true, true, true, true, true, true, true, true, false, false, false, false, false, false, false, false, false, false, false, false, false, false, false, false] _;refine zk 36 rfl (dl (av' := B (((!decide (x12.1 = x15.1)) || (!decide (x19.2.1 = x22.2.1))) || (!decide (x26.2.2.1 = x29.2.2.1)))) (aE (av := .v _) rfl h24 rfl) (ay (jI h24))) ?_;show AI _ _ _ _ _ _ #[true, true, true, true, true, true, true, true, true, true, true, true, true, true, true, true, true, true, true, true, true, true, true, true, true, true, true, true, true, true, true, true, true, true, true, true, true, false, false, false, false, false, false, false, false, false, false, false, false, false, false, false] _;exact K36 _ 11 rfl rfl
      ·refine bq (i := 25) rfl rfl (by kernel_rfl) (by kernel_rfl) (by kernel_rfl) rfl rfl rfl (fun _ _ h => h) h24 (af (av := slE _ _ _) rfl) ?_;show AI _ _ _ _ _ _ #[true, true, true, true, true, true, true, true, true, true, true, true, true, true, true, true, true, true, true, true, true, true, true, true, true, true, false, false, false, false, false, false, false, false, false, false, false, false, false, false, false, false, false, false, false, false, false, false, false, false, false, false] _;refine bq (i := 26) rfl rfl (by kernel_rfl) (by kernel_rfl) (by kernel_rfl) rfl rfl rfl (fun _ _ h => h) h24 (mv rfl) ?_;show AI _ _ _ _ _ _ #[true, true, true, true, true, true, true, true, true, true, true, true, true, true, true, true, true, true, true, true, true, true, true, true, true, true, true, false, false, false, false, false, false, false, false, false, false, false, false, false, false, false, false, false, false, false, false, false, false, false, false, false] _;refine bq (i := 27) rfl rfl (by kernel_rfl) (by kernel_rfl) (by kernel_rfl) rfl rfl rfl (fun _ _ h => h) h24 (bw (E := (ab Enc.int (ab Enc.str (ab Enc.str (Enc.sl (ab Enc.str Enc.str)))))) aw (by kernel_rfl) rfl rfl (g25 (nf h24)) e27) ?_
       show AI _ _ _ _ _ _ #[true, true, true, true, true, true, true, true, true, true, true, true, true, true, true, true, true, true, true, true, true, true, true, true, true, true, true, true, false, false, false, false, false, false, false, false, false, false, false, false, false, false, false, false, false, false, false, false, false, false, false, false] _;refine bq (i := 28) rfl rfl (by kernel_rfl) (by kernel_rfl) (by kernel_rfl) rfl rfl rfl (fun _ _ h => h) h24 (aV (n := 2) (by kernel_rfl) rfl (ah rfl)) ?_;show AI _ _ _ _ _ _ #[true, true, true, true, true, true, true, true, true, true, true, true, true, true, true, true, true, true, true, true, true, true, true, true, true, true, true, true, true, false, false, false, false, false, false, false, false, false, false, false, false, false, false, false, false, false, false, false, false, false, false, false] _;refine bq (i := 29) rfl rfl (by kernel_rfl) (by kernel_rfl) (by kernel_rfl) rfl rfl rfl (fun _ _ h => h) h24 (aM ag rfl rfl) ?_;show AI _ _ _ _ _ _ #[true, true, true, true, true, true, true, true, true, true, true, true, true, true, true, true, true, true, true, true, true, true, true, true, true, true, true, true, true, true, false, false, false, false, false, false, false, false, false, false, false, false, false, false, false, false, false, false, false, false, false, false] _;refine bq (i := 30) rfl rfl (by kernel_rfl) (by kernel_rfl) (by kernel_rfl) rfl rfl rfl (fun _ _ h => h) h24 (af (av := slE _ _ _) rfl) ?_
       show AI _ _ _ _ _ _ #[true, true, true, true, true, true, true, true, true, true, true, true, true, true, true, true, true, true, true, true, true, true, true, true, true, true, true, true, true, true, true, false, false, false, false, false, false, false, false, false, false, false, false, false, false, false, false, false, false, false, false, false] _;refine bq (i := 31) rfl rfl (by kernel_rfl) (by kernel_rfl) (by kernel_rfl) rfl rfl rfl (fun _ _ h => h) h24 (mv rfl) ?_;show AI _ _ _ _ _ _ #[true, true, true, true, true, true, true, true, true, true, true, true, true, true, true, true, true, true, true, true, true, true, true, true, true, true, true, true, true, true, true, true, false, false, false, false, false, false, false, false, false, false, false, false, false, false, false, false, false, false, false, false] _;refine bq (i := 32) rfl rfl (by kernel_rfl) (by kernel_rfl) (by kernel_rfl) rfl rfl rfl (fun _ _ h => h) h24 (bw (E := (ab Enc.int (ab Enc.str (ab Enc.str (Enc.sl (ab Enc.str Enc.str)))))) aw (by kernel_rfl) rfl rfl (g28 (nf h24)) e30) ?_;show AI _ _ _ _ _ _ #[true, true, true, true, true, true, true, true, true, true, true, true, true, true, true, true, true, true, true, true, true, true, true, true, true, true, true, true, true, true, true, true, true, false, false, false, false, false, false, false, false, false, false, false, false, false, false, false, false, false, false, false] _
       refine bq (i := 33) rfl rfl (by kernel_rfl) (by kernel_rfl) (by kernel_rfl) rfl rfl rfl (fun _ _ h => h) h24 (aV (n := 2) (by kernel_rfl) rfl (ah rfl)) ?_;show AI _ _ _ _ _ _ #[true, true, true, true, true, true, true, true, true, true, true, true, true, true, true, true, true, true, true, true, true, true, true, true, true, true, true, true, true, true, true, true, true, true, false, false, false, false, false, false, false, false, false, false, false, false, false, false, false, false, false, false] _;refine bq (i := 34) rfl rfl (by kernel_rfl) (by kernel_rfl) (by kernel_rfl) rfl rfl rfl (fun _ _ h => h) h24 (aM ag rfl rfl) ?_;show AI _ _ _ _ _ _ #[true, true, true, true, true, true, true, true, true, true, true, true, true, true, true, true, true, true, true, true, true, true, true, true, true, true, true, true, true, true, true, true, true, true, true, false, false, false, false, false, false, false, false, false, false, false, false, false, false, false, false, false] _;refine bq (i := 35) rfl rfl (by kernel_rfl) (by kernel_rfl) (by kernel_rfl) rfl rfl rfl (fun _ _ h => h) h24 (lM rfl rfl) ?_;show AI _ _ _ _ _ _ #[true, true, true, true, true, true, true, true, true, true, true, true, true, true, true, true, true, true, true, true, true, true, true, true, true, true, true, true, true, true, true, true, true, true, true, true, false, false, false, false, false, false, false, false, false, false, false, false, false, false, false, false] _
       refine zk 36 rfl (dl (av' := B (((!decide (x12.1 = x15.1)) || (!decide (x19.2.1 = x22.2.1))) || (!decide (x26.2.2.1 = x29.2.2.1)))) (aF (av := .v _) rfl h24 rfl) (ay (jJ h24))) ?_;show AI _ _ _ _ _ _ #[true, true, true, true, true, true, true, true, true, true, true, true, true, true, true, true, true, true, true, true, true, true, true, true, true, true, true, true, true, true, true, true, true, true, true, true, true, false, false, false, false, false, false, false, false, false, false, false, false, false, false, false] _;exact K36 _ 11 rfl rfl
     refine zk 37 rfl (mv rfl) ?_;show AI _ _ _ _ _ _ #[true, true, true, true, true, true, true, true, true, true, true, true, true, true, true, true, true, true, true, true, true, true, true, true, true, true, true, true, true, true, true, true, true, true, true, true, true, true, false, false, false, false, false, false, false, false, false, false, false, false, false, false] _;refine AI.meet 0 #[true, true, true, true, true, true, true, true, true, true, true, true, true, true, true, true, true, true, true, true, true, true, true, true, true, true, true, true, true, true, true, true, true, true, true, true, true, true, true, true, true, true, true, true, true, true, true, true, true, true, true, true] 69 (B ((((!decide (x12.1 = x15.1)) || (!decide (x19.2.1 = x22.2.1))) || (!decide (x26.2.2.1 = x29.2.2.1))) || (!decide ((x33.2.2.2.length : Int) = (x36.2.2.2.length : Int))))) (fun K51 => ?_) ?_
     ·refine me (t := 55) rfl (fun h31 => ?_) (fun h31 => ?_)
      ·refine br (i := 38) rfl rfl (by kernel_rfl) (by kernel_rfl) (by kernel_rfl) rfl rfl rfl (fun _ _ h => h) h31 ?_;show AI _ _ _ _ _ _ #[true, true, true, true, true, true, true, true, true, true, true, true, true, true, true, true, true, true, true, true, true, true, true, true, true, true, true, true, true, true, true, true, true, true, true, true, true, true, true, false, false, false, false, false, false, false, false, false, false, false, false, false] _;refine br (i := 39) rfl rfl (by kernel_rfl) (by kernel_rfl) (by kernel_rfl) rfl rfl rfl (fun _ _ h => h) h31 ?_;show AI _ _ _ _ _ _ #[true, true, true, true, true, true, true, true, true, true, true, true, true, true, true, true, true, true, true, true, true, true, true, true, true, true, true, true, true, true, true, true, true, true, true, true, true, true, true, true, false, false, false, false, false, false, false, false, false, false, false, false] _;refine br (i := 40) rfl rfl (by kernel_rfl) (by kernel_rfl) (by kernel_rfl) rfl rfl rfl (fun _ _ h => h) h31 ?_;show AI _ _ _ _ _ _ #[true, true, true, true, true, true, true, true, true, true, true, true, true, true, true, true, true, true, true, true, true, true, true, true, true, true, true, true, true, true, true, true, true, true, true, true, true, true, true, true, true, false, false, false, false, false, false, false, false, false, false, false] _;refine br (i := 41) rfl rfl (by kernel_rfl) (by kernel_rfl) (by kernel_rfl) rfl rfl rfl (fun _ _ h => h) h31 ?_
       show AI _ _ _ _ _ _ #[true, true, true, true, true, true, true, true, true, true, true, true, true, true, true, true, true, true, true, true, true, true, true, true, true, true, true, true, true, true, true, true, true, true, true, true, true, true, true, true, true, true, false, false, false, false, false, false, false, false, false, false] _;refine br (i := 42) rfl rfl (by kernel_rfl) (by kernel_rfl) (by kernel_rfl) rfl rfl rfl (fun _ _ h => h) h31 ?_;show AI _ _ _ _ _ _ #[true, true, true, true, true, true, true, true, true, true, true, true, true, true, true, true, true, true, true, true, true, true, true, true, true, true, true, true, true, true, true, true, true, true, true, true, true, true, true, true, true, true, true, false, false, false, false, false, false, false, false, false] _;refine br (i := 43) rfl rfl (by kernel_rfl) (by kernel_rfl) (by kernel_rfl) rfl rfl rfl (fun _ _ h => h) h31 ?_;show AI _ _ _ _ _ _ #[true, true, true, true, true, true, true, true, true, true, true, true, true, true, true, true, true, true, true, true, true, true, true, true, true, true, true, true, true, true, true, true, true, true, true, true, true, true, true, true, true, true, true, true, false, false, false, false, false, false, false, false] _;refine br (i := 44) rfl rfl (by kernel_rfl) (by kernel_rfl) (by kernel_rfl) rfl rfl rfl (fun _ _ h => h) h31 ?_
       show AI _ _ _ _ _ _ #[true, true, true, true, true, true, true, true, true, true, true, true, true, true, true, true, true, true, true, true, true, true, true, true, true, true, true, true, true, true, true, true, true, true, true, true, true, true, true, true, true, true, true, true, true, false, false, false, false, false, false, false] _;refine br (i := 45) rfl rfl (by kernel_rfl) (by kernel_rfl) (by kernel_rfl) rfl rfl rfl (fun _ _ h => h) h31 ?_;show AI _ _ _ _ _ _ #[true, true, true, true, true, true, true, true, true, true, true, true, true, true, true, true, true, true, true, true, true, true, true, true, true, true, true, true, true, true, true, true, true, true, true, true, true, true, true, true, true, true, true, true, true, true, false, false, false, false, false, false] _;refine br (i := 46) rfl rfl (by kernel_rfl) (by kernel_rfl) (by kernel_rfl) rfl rfl rfl (fun _ _ h => h) h31 ?_;show AI _ _ _ _ _ _ #[true, true, true, true, true, true, true, true, true, true, true, true, true, true, true, true, true, true, true, true, true, true, true, true, true, true, true, true, true, true, true, true, true, true, true, true, true, true, true, true, true, true, true, true, true, true, true, false, false, false, false, false] _;refine br (i := 47) rfl rfl (by kernel_rfl) (by kernel_rfl) (by kernel_rfl) rfl rfl rfl (fun _ _ h => h) h31 ?_
       show AI _ _ _ _ _ _ #[true, true, true, true, true, true, true, true, true, true, true, true, true, true, true, true, true, true, true, true, true, true, true, true, true, true, true, true, true, true, true, true, true, true, true, true, true, true, true, true, true, true, true, true, true, true, true, true, false, false, false, false] _;refine br (i := 48) rfl rfl (by kernel_rfl) (by kernel_rfl) (by kernel_rfl) rfl rfl rfl (fun _ _ h => h) h31 ?_;show AI _ _ _ _ _ _ #[true, true, true, true, true, true, true, true, true, true, true, true, true, true, true, true, true, true, true, true, true, true, true, true, true, true, true, true, true, true, true, true, true, true, true, true, true, true, true, true, true, true, true, true, true, true, true, true, true, false, false, false] _;refine br (i := 49) rfl rfl (by kernel_rfl) (by kernel_rfl) (by kernel_rfl) rfl rfl rfl (fun _ _ h => h) h31 ?_;show AI _ _ _ _ _ _ #[true, true, true, true, true, true, true, true, true, true, true, true, true, true, true, true, true, true, true, true, true, true, true, true, true, true, true, true, true, true, true, true, true, true, true, true, true, true, true, true, true, true, true, true, true, true, true, true, true, true, false, false] _;refine br (i := 50) rfl rfl (by kernel_rfl) (by kernel_rfl) (by kernel_rfl) rfl rfl rfl (fun _ _ h => h) h31 ?_
       show AI _ _ _ _ _ _ #[true, true, true, true, true, true, true, true, true, true, true, true, true, true, true, true, true, true, true, true, true, true, true, true, true, true, true, true, true, true, true, true, true, true, true, true, true, true, true, true, true, true, true, true, true, true, true, true, true, true, true, false] _;refine zk 51 rfl (dl (av' := B ((((!decide (x12.1 = x15.1)) || (!decide (x19.2.1 = x22.2.1))) || (!decide (x26.2.2.1 = x29.2.2.1))) || (!decide ((x33.2.2.2.length : Int) = (x36.2.2.2.length : Int))))) (aE (av := .v _) rfl h31 rfl) (ay (jI h31))) ?_;show AI _ _ _ _ _ _ #[true, true, true, true, true, true, true, true, true, true, true, true, true, true, true, true, true, true, true, true, true, true, true, true, true, true, true, true, true, true, true, true, true, true, true, true, true, true, true, true, true, true, true, true, true, true, true, true, true, true, true, true] _;exact K51 _ 13 rfl rfl
      ·refine bq (i := 38) rfl rfl (by kernel_rfl) (by kernel_rfl) (by kernel_rfl) rfl rfl rfl (fun _ _ h => h) h31 (af (av := slE _ _ _) rfl) ?_;show AI _ _ _ _ _ _ #[true, true, true, true, true, true, true, true, true, true, true, true, true, true, true, true, true, true, true, true, true, true, true, true, true, true, true, true, true, true, true, true, true, true, true, true, true, true, true, false, false, false, false, false, false, false, false, false, false, false, false, false] _;refine bq (i := 39) rfl rfl (by kernel_rfl) (by kernel_rfl) (by kernel_rfl) rfl rfl rfl (fun _ _ h => h) h31 (mv rfl) ?_;show AI _ _ _ _ _ _ #[true, true, true, true, true, true, true, true, true, true, true, true, true, true, true, true, true, true, true, true, true, true, true, true, true, true, true, true, true, true, true, true, true, true, true, true, true, true, true, true, false, false, false, false, false, false, false, false, false, false, false, false] _;refine bq (i := 40) rfl rfl (by kernel_rfl) (by kernel_rfl) (by kernel_rfl) rfl rfl rfl (fun _ _ h => h) h31 (bw (E := (ab Enc.int (ab Enc.str (ab Enc.str (Enc.sl (ab Enc.str Enc.str)))))) aw (by kernel_rfl) rfl rfl (g32 (nf h31)) e34) ?_
       show AI _ _ _ _ _ _ #[true, true, true, true, true, true, true, true, true, true, true, true, true, true, true, true, true, true, true, true, true, true, true, true, true, true, true, true, true, true, true, true, true, true, true, true, true, true, true, true, true, false, false, false, false, false, false, false, false, false, false, false] _;refine bq (i := 41) rfl rfl (by kernel_rfl) (by kernel_rfl) (by kernel_rfl) rfl rfl rfl (fun _ _ h => h) h31 (aV (n := 3) (by kernel_rfl) rfl (ah rfl)) ?_;show AI _ _ _ _ _ _ #[true, true, true, true, true, true, true, true, true, true, true, true, true, true, true, true, true, true, true, true, true, true, true, true, true, true, true, true, true, true, true, true, true, true, true, true, true, true, true, true, true, true, false, false, false, false, false, false, false, false, false, false] _;refine bq (i := 42) rfl rfl (by kernel_rfl) (by kernel_rfl) (by kernel_rfl) rfl rfl rfl (fun _ _ h => h) h31 (aM aL rfl rfl) ?_;show AI _ _ _ _ _ _ #[true, true, true, true, true, true, true, true, true, true, true, true, true, true, true, true, true, true, true, true, true, true, true, true, true, true, true, true, true, true, true, true, true, true, true, true, true, true, true, true, true, true, true, false, false, false, false, false, false, false, false, false] _;refine bq (i := 43) rfl rfl (by kernel_rfl) (by kernel_rfl) (by kernel_rfl) rfl rfl rfl (fun _ _ h => h) h31 (be aL rfl) ?_
       show AI _ _ _ _ _ _ #[true, true, true, true, true, true, true, true, true, true, true, true, true, true, true, true, true, true, true, true, true, true, true, true, true, true, true, true, true, true, true, true, true, true, true, true, true, true, true, true, true, true, true, true, false, false, false, false, false, false, false, false] _;refine bq (i := 44) rfl rfl (by kernel_rfl) (by kernel_rfl) (by kernel_rfl) rfl rfl rfl (fun _ _ h => h) h31 (af (av := slE _ _ _) rfl) ?_;show AI _ _ _ _ _ _ #[true, true, true, true, true, true, true, true, true, true, true, true, true, true, true, true, true, true, true, true, true, true, true, true, true, true, true, true, true, true, true, true, true, true, true, true, true, true, true, true, true, true, true, true, true, false, false, false, false, false, false, false] _;refine bq (i := 45) rfl rfl (by kernel_rfl) (by kernel_rfl) (by kernel_rfl) rfl rfl rfl (fun _ _ h => h) h31 (mv rfl) ?_;show AI _ _ _ _ _ _ #[true, true, true, true, true, true, true, true, true, true, true, true, true, true, true, true, true, true, true, true, true, true, true, true, true, true, true, true, true, true, true, true, true, true, true, true, true, true, true, true, true, true, true, true, true, true, false, false, false, false, false, false] _;refine bq (i := 46) rfl rfl (by kernel_rfl) (by kernel_rfl) (by kernel_rfl) rfl rfl rfl (fun _ _ h => h) h31 (bw (E := (ab Enc.int (ab Enc.str (ab Enc.str (Enc.sl (ab Enc.str Enc.str)))))) aw (by kernel_rfl) rfl rfl (g35 (nf h31)) e37) ?_
       show AI _ _ _ _ _ _ #[true, true, true, true, true, true, true, true, true, true, true, true, true, true, true, true, true, true, true, true, true, true, true, true, true, true, true, true, true, true, true, true, true, true, true, true, true, true, true, true, true, true, true, true, true, true, true, false, false, false, false, false] _;refine bq (i := 47) rfl rfl (by kernel_rfl) (by kernel_rfl) (by kernel_rfl) rfl rfl rfl (fun _ _ h => h) h31 (aV (n := 3) (by kernel_rfl) rfl (ah rfl)) ?_;show AI _ _ _ _ _ _ #[true, true, true, true, true, true, true, true, true, true, true, true, true, true, true, true, true, true, true, true, true, true, true, true, true, true, true, true, true, true, true, true, true, true, true, true, true, true, true, true, true, true, true, true, true, true, true, true, false, false, false, false] _;refine bq (i := 48) rfl rfl (by kernel_rfl) (by kernel_rfl) (by kernel_rfl) rfl rfl rfl (fun _ _ h => h) h31 (aM aL rfl rfl) ?_;show AI _ _ _ _ _ _ #[true, true, true, true, true, true, true, true, true, true, true, true, true, true, true, true, true, true, true, true, true, true, true, true, true, true, true, true, true, true, true, true, true, true, true, true, true, true, true, true, true, true, true, true, true, true, true, true, true, false, false, false] _;refine bq (i := 49) rfl rfl (by kernel_rfl) (by kernel_rfl) (by kernel_rfl) rfl rfl rfl (fun _ _ h => h) h31 (be aL rfl) ?_
       show AI _ _ _ _ _ _ #[true, true, true, true, true, true, true, true, true, true, true, true, true, true, true, true, true, true, true, true, true, true, true, true, true, true, true, true, true, true, true, true, true, true, true, true, true, true, true, true, true, true, true, true, true, true, true, true, true, true, false, false] _;refine bq (i := 50) rfl rfl (by kernel_rfl) (by kernel_rfl) (by kernel_rfl) rfl rfl rfl (fun _ _ h => h) h31 (hO rfl rfl) ?_;show AI _ _ _ _ _ _ #[true, true, true, true, true, true, true, true, true, true, true, true, true, true, true, true, true, true, true, true, true, true, true, true, true, true, true, true, true, true, true, true, true, true, true, true, true, true, true, true, true, true, true, true, true, true, true, true, true, true, true, false] _;refine zk 51 rfl (dl (av' := B ((((!decide (x12.1 = x15.1)) || (!decide (x19.2.1 = x22.2.1))) || (!decide (x26.2.2.1 = x29.2.2.1))) || (!decide ((x33.2.2.2.length : Int) = (x36.2.2.2.length : Int))))) (aF (av := .v _) rfl h31 rfl) (ay (jJ h31))) ?_;show AI _ _ _ _ _ _ #[true, true, true, true, true, true, true, true, true, true, true, true, true, true, true, true, true, true, true, true, true, true, true, true, true, true, true, true, true, true, true, true, true, true, true, true, true, true, true, true, true, true, true, true, true, true, true, true, true, true, true, true] _;exact K51 _ 13 rfl rfl
     refine cl rfl <| ax rfl (fun c38 => ?_) (fun c38 => ?_)
     ·replace H := aY c38 H;refine ac <| aa ?_;show AR _ _ _ _ _ [0] _;refine za rfl <| ai <| aJ ?_;obtain rfl := al H;exact And.intro rfl (Exists.intro _ (Exists.intro _ ⟨aC rfl (.refl _), aH [] rfl, rfl, rfl⟩))
     ·replace H := aZ c38 H;refine aB <| ac <| aa ?_;show AR _ _ _ _ _ [0] _;refine za rfl <| ai <| aP <| dp (X := Nat × Int) (fun (n41, y39) => ⟨[(0, slE (ab Enc.int (ab Enc.str (ab Enc.str (Enc.sl (ab Enc.str Enc.str))))) a1 q2), (1, slE (ab Enc.int (ab Enc.str (ab Enc.str (Enc.sl (ab Enc.str Enc.str))))) a3 q4), (5, i64 y7), (6, i64 y39)], [], []⟩) (fun (n41, y39) => iB a1 a3 y7 (cV F a1 a3 n9) n41 y39 = some r5) (fun (n41, y39) => n41) (F, 0) H (bf [] (.cons (.refl _) (.cons (.refl _) (.cons (.refl _) (.cons (.refl _) (.nil _))))) rfl) ?_;rintro ⟨n41, y39⟩ H;obtain ⟨n41, rfl, H⟩ := eT H;replace H : iD a1 a3 y7 (cV F a1 a3 n9) (iB a1 a3 y7 (cV F a1 a3 n9) n41) y39 = some r5 := H
      unfold iD at H
      refine ac <| ac ?_;obtain ⟨g42, H⟩ := aW H;obtain ⟨x43, e44, H⟩ := bM H;refine aa ?_;show AR _ _ _ _ _ [0, 1, 2, 3, 4, 5, 6, 7] _;refine zm rfl <| zS rfl (af (av := slE _ _ _) rfl) <| zm rfl <| zS rfl (bw (E := (ab Enc.int (ab Enc.str (ab Enc.str (Enc.sl (ab Enc.str Enc.str)))))) aw (by kernel_rfl) rfl rfl g42 e44) <| zS rfl (aV (n := 3) (by kernel_rfl) rfl (ah rfl)) <| zS rfl (aM aL rfl rfl) <| zS rfl (be aL rfl) <| zS rfl (bU rfl rfl) <| ai <| ax rfl (fun c45 => ?_) (fun c45 => ?_)
      ·replace H := aY c45 H;refine aB <| ac <| aP <| ac ?_;obtain ⟨g46, H⟩ := aW H;obtain ⟨x47, e48, H⟩ := bM H;obtain ⟨g49, H⟩ := aW H;obtain ⟨x50, e51, H⟩ := bM H;obtain ⟨g52, H⟩ := aW H;obtain ⟨x53, e54, H⟩ := bM H;obtain ⟨g55, H⟩ := aW H;obtain ⟨x56, e57, H⟩ := bM H;refine bE (by kernel_rfl) ?_;show AI _ _ _ _ _ 17 (Array.replicate 17 false) _;refine zk 0 rfl (af (av := slE _ _ _) rfl) ?_;show AI _ _ _ _ _ _ #[true, false, false, false, false, false, false, false, false, false, false, false, false, false, false, false, false] _;refine zk 1 rfl (mv rfl) ?_;show AI _ _ _ _ _ _ #[true, true, false, false, false, false, false, false, false, false, false, false, false, false, false, false, false] _;refine zk 2 rfl (bw (E := (ab Enc.int (ab Enc.str (ab Enc.str (Enc.sl (ab Enc.str Enc.str)))))) aw (by kernel_rfl) rfl rfl g46 e48) ?_;show AI _ _ _ _ _ _ #[true, true, true, false, false, false, false, false, false, false, false, false, false, false, false, false, false] _;refine zk 3 rfl (aV (n := 3) (by kernel_rfl) rfl (ah rfl)) ?_;show AI _ _ _ _ _ _ #[true, true, true, true, false, false, false, false, false, false, false, false, false, false, false, false, false] _;refine zk 4 rfl (aM aL rfl rfl) ?_;show AI _ _ _ _ _ _ #[true, true, true, true, true, false, false, false, false, false, false, false, false, false, false, false, false] _;refine zk 5 rfl (mv rfl) ?_
       show AI _ _ _ _ _ _ #[true, true, true, true, true, true, false, false, false, false, false, false, false, false, false, false, false] _;refine zk 6 rfl (bw (E := (ab Enc.str Enc.str)) aL (by kernel_rfl) rfl rfl g49 e51) ?_;show AI _ _ _ _ _ _ #[true, true, true, true, true, true, true, false, false, false, false, false, false, false, false, false, false] _;refine zk 7 rfl (cj bS rfl (n := 2) (by kernel_rfl) rfl (ah rfl)) ?_;show AI _ _ _ _ _ _ #[true, true, true, true, true, true, true, true, false, false, false, false, false, false, false, false, false] _;refine zk 8 rfl (af (av := slE _ _ _) rfl) ?_;show AI _ _ _ _ _ _ #[true, true, true, true, true, true, true, true, true, false, false, false, false, false, false, false, false] _;refine zk 9 rfl (mv rfl) ?_;show AI _ _ _ _ _ _ #[true, true, true, true, true, true, true, true, true, true, false, false, false, false, false, false, false] _;refine zk 10 rfl (bw (E := (ab Enc.int (ab Enc.str (ab Enc.str (Enc.sl (ab Enc.str Enc.str)))))) aw (by kernel_rfl) rfl rfl g52 e54) ?_;show AI _ _ _ _ _ _ #[true, true, true, true, true, true, true, true, true, true, true, false, false, false, false, false, false] _;refine zk 11 rfl (aV (n := 3) (by kernel_rfl) rfl (ah rfl)) ?_;show AI _ _ _ _ _ _ #[true, true, true, true, true, true, true, true, true, true, true, true, false, false, false, false, false] _;refine zk 12 rfl (aM aL rfl rfl) ?_
       show AI _ _ _ _ _ _ #[true, true, true, true, true, true, true, true, true, true, true, true, true, false, false, false, false] _;refine zk 13 rfl (mv rfl) ?_;show AI _ _ _ _ _ _ #[true, true, true, true, true, true, true, true, true, true, true, true, true, true, false, false, false] _;refine zk 14 rfl (bw (E := (ab Enc.str Enc.str)) aL (by kernel_rfl) rfl rfl g55 e57) ?_;show AI _ _ _ _ _ _ #[true, true, true, true, true, true, true, true, true, true, true, true, true, true, true, false, false] _;refine zk 15 rfl (cj bS rfl (n := 2) (by kernel_rfl) rfl (ah rfl)) ?_;show AI _ _ _ _ _ _ #[true, true, true, true, true, true, true, true, true, true, true, true, true, true, true, true, false] _;refine zk 16 rfl (kN (r := (decide (x50.1 = x56.1)) && (decide (x50.2 = x56.2))) (.inr rfl) bS (by kernel_rfl) (by kernel_rfl) (by kernel_rfl) rfl rfl rfl (by simp only [List.all_cons, List.all_nil, id, sg, Bool.and_true])) ?_;show AI _ _ _ _ _ _ #[true, true, true, true, true, true, true, true, true, true, true, true, true, true, true, true, true] _;refine cl rfl <| ax rfl (fun c58 => ?_) (fun c58 => ?_)
       ·replace H := aY c58 H;refine ac <| aa ?_;show AR _ _ _ _ _ [0] _;refine za rfl <| ai <| aJ ?_;obtain rfl := al H;exact And.intro rfl (Exists.intro _ (Exists.intro _ ⟨aC rfl (.refl _), aH [] rfl, rfl, rfl⟩))
       ·replace H := aZ c58 H;refine aB ?_;obtain ⟨g59, H⟩ := aW H;refine aa ?_;show AR _ _ _ _ _ [0, 1, 2] _;refine zm rfl <| zS rfl (fa rfl rfl g59) <| za rfl <| ai ?_;exact Exists.intro (n41, y39 + 1) ⟨H, Nat.lt_succ_self _, bf [] (.cons (.refl _) (.cons (.refl _) (.cons (.refl _) (.cons (.refl _) (.nil _))))) rfl⟩
      ·replace H := aZ c45 H;refine cC ?_;exact Exists.intro () ⟨H, bf [] (.cons (.refl _) (.cons (.refl _) (.cons (.refl _) (.nil _)))) rfl⟩
    rintro _ H;replace H : gp y7 (cV F a1 a3 n9) = some r5 := H
    unfold gp at H
    obtain ⟨g61, H⟩ := aW H;refine aa ?_;show AR _ _ _ _ _ [0, 1, 2] _;refine zm rfl <| zS rfl (fa rfl rfl g61) <| za rfl <| ai ?_;exact Exists.intro (n9, y7 + 1) ⟨H, Nat.lt_succ_self _, bf [] (.cons (.refl _) (.cons (.refl _) (.cons (.refl _) (.nil _)))) rfl⟩
   ·replace H := aZ c10 H;refine cC ?_;exact Exists.intro () ⟨H, bf [] (.nil _) rfl⟩
  rintro _ H;replace H : gq = some r5 := H
  unfold gq at H
  refine ac <| aa ?_;show AR _ _ _ _ _ [0] _;refine za rfl <| ai <| aJ ?_;obtain rfl := al H;exact And.intro rfl (Exists.intro _ (Exists.intro _ ⟨aC rfl (.refl _), aH [] rfl, rfl, rfl⟩))
set_option maxRecDepth 100000 in
set_option maxHeartbeats 1000000 in
theorem nT (F : Nat) (r1 : Bool) (H : gA F = some r1) : ACalls Tryz.prog 9 [] [] (Ret (B r1) []) := by
 unfold gA at H
 refine au Tryz.func9 rfl rfl ?_;show AW _ _ 39 _ _ _;refine ac <| aa ?_;show AR _ _ _ _ _ [0] _;refine za rfl <| ai <| ac ?_;obtain ⟨x3, x4, e5, H⟩ := cT H;refine aa ?_;show AR _ _ _ _ _ [0, 1, 2, 3, 4, 5, 6, 7] _;refine zX rfl (rz (E := Enc.byte) (bytes := 1) (xs := [.const _, .const _, .const _, .const _, .const _, .const _, .const _, .const _, .const _, .const _, .const _, .const _, .const _, .const _, .const _, .const _] ++ [.const _, .const _, .const _, .const _, .const _, .const _, .const _]) (l := ([60, 97, 32, 98, 61, 34, 49, 34, 62, 120, 38, 97, 109, 112, 59, 60] ++ [99, 47, 62, 60, 47, 97, 62] : List UInt8)) aj (by kernel_rfl) rfl rfl (by decide) rfl rfl) ?_;rintro _ _ ⟨t2, rfl, rfl⟩;refine zR rfl (oa 0 aj cn rfl (by simp) rfl) <| am rfl rfl (aG rfl tD rfl (jU F ([60, 97, 32, 98, 61, 34, 49, 34, 62, 120, 38, 97, 109, 112, 59, 60] ++ [99, 47, 62, 60, 47, 97, 62] : List UInt8) (some t2) x3 x4 e5) ?_);refine zS rfl (af (av := .tup _) rfl) <| zS rfl (aI (av := slE _ _ _) rfl rfl) <| zS rfl (aI (av := .v _) rfl rfl) <| zS rfl (aK (av := slE _ _ _) rfl) <| za rfl <| ai <| ac <| aa ?_;show AR _ _ _ _ _ [0, 1, 2, 3, 4, 5, 6, 7, 8] _
 refine zS rfl (eX (zs := [.string ⟨#[]⟩, .string ⟨#[]⟩]) (ps := [(0, 1), (1, 1)]) (cs := [S ([98] : List UInt8), S ([49] : List UInt8)]) (by kernel_rfl) rfl rfl) <| zR rfl (dz (E := (ab Enc.str Enc.str)) (bytes := 32) (zs := [.string ⟨#[]⟩, .string ⟨#[]⟩]) (l := ([(([98] : List UInt8), ([49] : List UInt8))] : List ((List UInt8) × List UInt8))) aL (by kernel_rfl) (by kernel_rfl) rfl rfl rfl rfl rfl) <| zS rfl (eX (zs := [.int .i64 0, .string ⟨#[]⟩, .string ⟨#[]⟩, .slice none 0 0]) (ps := [(0, 1), (1, 1), (2, 1), (3, 1)]) (cs := [i64 0, S ([97] : List UInt8), S ([] : List UInt8), slE (ab Enc.str Enc.str) ([(([98] : List UInt8), ([49] : List UInt8))] : List ((List UInt8) × List UInt8)) none]) (by kernel_rfl) rfl rfl) <| zS rfl (eX (zs := [.int .i64 0, .string ⟨#[]⟩, .string ⟨#[]⟩, .slice none 0 0]) (ps := [(0, 1), (1, 1), (2, 1), (3, 1)]) (cs := [i64 2, S ([] : List UInt8), S ([120, 38] : List UInt8), fW]) (by kernel_rfl) rfl rfl) <| zS rfl (eX (zs := [.int .i64 0, .string ⟨#[]⟩, .string ⟨#[]⟩, .slice none 0 0]) (ps := [(0, 1), (1, 1), (2, 1), (3, 1)]) (cs := [i64 0, S ([99] : List UInt8), S ([] : List UInt8), fW]) (by kernel_rfl) rfl rfl) <| zS rfl (eX (zs := [.int .i64 0, .string ⟨#[]⟩, .string ⟨#[]⟩, .slice none 0 0]) (ps := [(0, 1), (1, 1), (2, 1), (3, 1)]) (cs := [i64 1, S ([99] : List UInt8), S ([] : List UInt8), fW]) (by kernel_rfl) rfl rfl) <| zS rfl (eX (zs := [.int .i64 0, .string ⟨#[]⟩, .string ⟨#[]⟩, .slice none 0 0]) (ps := [(0, 1), (1, 1), (2, 1), (3, 1)]) (cs := [i64 1, S ([97] : List UInt8), S ([] : List UInt8), fW]) (by kernel_rfl) rfl rfl) <| zR rfl (dV (ds := [i64 2, S ([] : List UInt8), S ([120, 38] : List UInt8), slE (ab Enc.str Enc.str) ([] : List ((List UInt8) × List UInt8)) none]) 14 (.cons (.refl _) (.cons (.refl _) (.cons (.refl _) (.cons (.nil _) (.nil))))) (hc := rfl) <| dV (ds := [i64 0, S ([99] : List UInt8), S ([] : List UInt8), slE (ab Enc.str Enc.str) ([] : List ((List UInt8) × List UInt8)) none]) 15 (.cons (.refl _) (.cons (.refl _) (.cons (.refl _) (.cons (.nil _) (.nil))))) (hc := rfl) <| dV (ds := [i64 1, S ([99] : List UInt8), S ([] : List UInt8), slE (ab Enc.str Enc.str) ([] : List ((List UInt8) × List UInt8)) none]) 16 (.cons (.refl _) (.cons (.refl _) (.cons (.refl _) (.cons (.nil _) (.nil))))) (hc := rfl) <| dV (ds := [i64 1, S ([97] : List UInt8), S ([] : List UInt8), slE (ab Enc.str Enc.str) ([] : List ((List UInt8) × List UInt8)) none]) 17 (.cons (.refl _) (.cons (.refl _) (.cons (.refl _) (.cons (.nil _) (.nil))))) (hc := rfl) <| dz (E := (ab Enc.int (ab Enc.str (ab Enc.str (Enc.sl (ab Enc.str Enc.str)))))) (bytes := 64) (zs := [.int .i64 0, .string ⟨#[]⟩, .string ⟨#[]⟩, .slice none 0 0]) (l := ([(0, ([97] : List UInt8), ([] : List UInt8), ([(([98] : List UInt8), ([49] : List UInt8))] : List ((List UInt8) × List UInt8))), (2, ([] : List UInt8), ([120, 38] : List UInt8), ([] : List ((List UInt8) × List UInt8))), (0, ([99] : List UInt8), ([] : List UInt8), ([] : List ((List UInt8) × List UInt8))), (1, ([99] : List UInt8), ([] : List UInt8), ([] : List ((List UInt8) × List UInt8))), (1, ([97] : List UInt8), ([] : List UInt8), ([] : List ((List UInt8) × List UInt8)))] : List (Int × (List UInt8) × (List UInt8) × List ((List UInt8) × List UInt8)))) aw (by kernel_rfl) (by kernel_rfl) rfl rfl rfl rfl rfl) <| zS rfl (aK (av := slE _ _ _) rfl) <| ai <| ac ?_
 obtain ⟨x6, e7, H⟩ := eD H;refine aa ?_;show AR _ _ _ _ _ [0, 1, 2, 3] _;refine zS rfl (af (av := slE _ _ _) rfl) <| zS rfl (af (av := slE _ _ _) rfl) <| am rfl rfl (aG rfl tB rfl (pz F x3 none ([(0, ([97] : List UInt8), ([] : List UInt8), ([(([98] : List UInt8), ([49] : List UInt8))] : List ((List UInt8) × List UInt8))), (2, ([] : List UInt8), ([120, 38] : List UInt8), ([] : List ((List UInt8) × List UInt8))), (0, ([99] : List UInt8), ([] : List UInt8), ([] : List ((List UInt8) × List UInt8))), (1, ([99] : List UInt8), ([] : List UInt8), ([] : List ((List UInt8) × List UInt8))), (1, ([97] : List UInt8), ([] : List UInt8), ([] : List ((List UInt8) × List UInt8)))] : List (Int × (List UInt8) × (List UInt8) × List ((List UInt8) × List UInt8))) none x6 e7) ?_);refine za rfl <| ai <| ac ?_;obtain ⟨x10, e11, H⟩ := eC H;obtain ⟨x13, e14, H⟩ := eC H;obtain ⟨x16, e17, H⟩ := eC H;refine aa ?_;show AR _ _ _ _ _ [0, 1, 2, 3, 4, 5, 6, 7, 8, 9, 10, 11, 12, 13, 14, 15, 16, 17] _;refine zm rfl <| zS rfl (bW rfl rfl) <| zm rfl <| aX (l := [5, 6, 7, 8, 9, 10, 11, 12, 13, 14, 15, 16, 17]) 26 (B ((decide (x4 = 0)) && x6)) (fun K => ?_) ?_
 ·rcases ak (decide (x4 = 0)) with h8 | h8
  ·refine zM h8 rfl <| zS rfl (aE (av := .v _) rfl h8 rfl) ?_;exact K _ 1 _ (ay (cA h8)) rfl rfl
  ·refine zF h8 rfl <| zS rfl (aF (av := .v _) rfl h8 rfl) ?_;exact K _ 1 _ (ay (cB h8)) rfl rfl
 refine zm rfl <| aX (l := [8, 9, 10, 11, 12, 13, 14, 15, 16, 17]) 29 (B (((decide (x4 = 0)) && x6) && x10)) (fun K => ?_) ?_
 ·rcases ak ((decide (x4 = 0)) && x6) with h9 | h9
  ·refine zT h9 rfl (aG rfl tr rfl (lV F ([97, 58, 98] : List UInt8) x10 (e11 h9)) ?_);refine zS rfl (aE (av := .v _) rfl h9 rfl) ?_;exact K _ 1 _ (ay (cA h9)) rfl rfl
  ·refine zF h9 rfl <| zS rfl (aF (av := .v _) rfl h9 rfl) ?_;exact K _ 1 _ (ay (cB h9)) rfl rfl
 refine zm rfl <| aX (l := [12, 13, 14, 15, 16, 17]) 33 (B ((((decide (x4 = 0)) && x6) && x10) && (decide (x13 = ([98] : List UInt8))))) (fun K => ?_) ?_
 ·rcases ak (((decide (x4 = 0)) && x6) && x10) with h12 | h12
  ·refine zT h12 rfl (aG rfl tq rfl (rl F ([97, 58, 98] : List UInt8) x13 (e14 h12)) ?_);refine zU h12 rfl (eV rfl rfl) <| zS rfl (aE (av := .v _) rfl h12 rfl) ?_;exact K _ 2 _ (ay (cA h12)) rfl rfl
  ·refine zF h12 rfl <| zF h12 rfl <| zS rfl (aF (av := .v _) rfl h12 rfl) ?_;exact K _ 2 _ (ay (cB h12)) rfl rfl
 refine zm rfl <| aX (l := [17]) 38 (B (((((decide (x4 = 0)) && x6) && x10) && (decide (x13 = ([98] : List UInt8)))) && x16)) (fun K => ?_) ?_
 ·rcases ak ((((decide (x4 = 0)) && x6) && x10) && (decide (x13 = ([98] : List UInt8)))) with h15 | h15
  ·refine zU h15 rfl (af (av := slE _ _ _) rfl) <| zU h15 rfl (af (av := slE _ _ _) rfl) <| zT h15 rfl (aG rfl tz rfl (oz F x3 none ([(0, ([97] : List UInt8), ([] : List UInt8), ([(([98] : List UInt8), ([49] : List UInt8))] : List ((List UInt8) × List UInt8))), (2, ([] : List UInt8), ([120, 38] : List UInt8), ([] : List ((List UInt8) × List UInt8))), (0, ([99] : List UInt8), ([] : List UInt8), ([] : List ((List UInt8) × List UInt8))), (1, ([99] : List UInt8), ([] : List UInt8), ([] : List ((List UInt8) × List UInt8))), (1, ([97] : List UInt8), ([] : List UInt8), ([] : List ((List UInt8) × List UInt8)))] : List (Int × (List UInt8) × (List UInt8) × List ((List UInt8) × List UInt8))) none x16 (e17 h15)) ?_);refine zS rfl (aE (av := .v _) rfl h15 rfl) ?_;exact K _ 3 _ (ay (cA h15)) rfl rfl
  ·refine zF h15 rfl <| zF h15 rfl <| zF h15 rfl <| zS rfl (aF (av := .v _) rfl h15 rfl) ?_;exact K _ 3 _ (ay (cB h15)) rfl rfl
 refine za rfl <| ai <| aJ ?_;obtain rfl := al H;exact And.intro rfl (Exists.intro _ (Exists.intro _ ⟨aC rfl (.refl _), aH [] rfl, rfl, rfl⟩))
end Go.Proofs.YteokdkimegepoaaGreatDoor
namespace Go.Pv
def ej : List UInt8 := [60, 63, 120, 109, 108, 32, 118, 101, 114, 115, 105, 111, 110, 61, 39, 49, 46, 48, 39, 63, 62, 10, 60, 33, 68, 79, 67, 84, 89, 80, 69, 32, 97, 62]
def eb (F : Nat) (a1 : List UInt8) (a3 : Int) (a4 : Int) : Option Bool :=
bnd (gA F) fun x6 =>
bif (((((!x6) || (decide (1000 < (a1.length : Int)))) || (decide (a3 < 0))) || (decide (3 < a3))) || (decide (a4 < 0))) || (decide (3 < a4)) then
  some x6
else
  gJ (gj F a1) fun x14 x15 =>
  grd (cy a3 ([([] : List UInt8), ([10, 32] : List UInt8), ([60, 33, 45, 45, 32, 60, 97, 62, 32, 45, 45, 62] : List UInt8), ej] : List (List UInt8)).length) <|
  lt (at_ ([([] : List UInt8), ([10, 32] : List UInt8), ([60, 33, 45, 45, 32, 60, 97, 62, 32, 45, 45, 62] : List UInt8), ej] : List (List UInt8)) a3) fun x18 =>
  grd (gS (x18.length + a1.length)) <|
  lt (x18 ++ a1) fun x21 =>
  grd (cy a4 ([([] : List UInt8), ([10, 32] : List UInt8), ([60, 33, 45, 45, 32, 60, 97, 62, 32, 45, 45, 62] : List UInt8), ej] : List (List UInt8)).length) <|
  lt (at_ ([([] : List UInt8), ([10, 32] : List UInt8), ([60, 33, 45, 45, 32, 60, 97, 62, 32, 45, 45, 62] : List UInt8), ej] : List (List UInt8)) a4) fun x24 =>
  grd (gS (x21.length + x24.length)) <|
  lt (x21 ++ x24) fun x27 =>
  grd (gS x27.length) <|
  gJ (gj F x27) fun x31 x32 =>
  bif !decide (x15 = 0) then
    some true
  else
    iY (decide (x32 = 0)) (kv F x14 x31) fun x36 =>
    some ((decide (x32 = 0)) && x36)
end Go.Pv
namespace Go.Proofs.YteokdkimegepoaaGreatDoor
open Go.RowKit Go.Av Go.Pv
theorem nh : ∀ (args : Array Value) (w : World), (callFunc 9 args).run Tryz.prog w = .ok (.enter 9 args) w := fun _ _ => by kernel_rfl
theorem jC : ∀ (args : Array Value) (w : World), (callFunc 10 args).run Tryz.prog w = .ok (.enter 10 args) w := fun _ _ => by kernel_rfl
theorem mK : ∀ (args : Array Value) (w : World), (callFunc 13 args).run Tryz.prog w = .ok (.enter 13 args) w := fun _ _ => by kernel_rfl
set_option maxRecDepth 100000 in
set_option maxHeartbeats 1000000 in
theorem lf (F : Nat) (a1 : List UInt8) (q2 : Option Nat) (a3 : Int) (a4 : Int) (r5 : Bool) (H : eb F a1 a3 a4 = some r5) : ACalls Tryz.prog 6 [slE Enc.byte a1 q2, i64 a3, i64 a4] [] (Ret (B r5) []) := by
 unfold eb at H
 refine au Tryz.func6 rfl rfl ?_;show AW _ _ 70 _ _ _;refine ac <| aa ?_;show AR _ _ _ _ _ [0] _;refine za rfl <| ai <| ac ?_;obtain ⟨x6, e7, H⟩ := eD H;refine aa ?_;show AR _ _ _ _ _ [0, 1] _;refine am rfl rfl (aG rfl nh rfl (nT F x6 e7) ?_);refine za rfl <| ai <| ac <| ac <| aa ?_;show AR _ _ _ _ _ [0, 1, 2, 3, 4, 5, 6, 7, 8, 9, 10, 11, 12, 13, 14, 15, 16, 17, 18, 19, 20, 21, 22] _;refine zm rfl <| zS rfl (ce rfl) <| zm rfl <| aX (l := [7, 8, 9, 10, 11, 12, 13, 14, 15, 16, 17, 18, 19, 20, 21, 22]) 20 (B ((!x6) || (decide (1000 < (a1.length : Int))))) (fun K => ?_) ?_
 ·rcases ak (!x6) with h8 | h8
  ·refine zF h8 rfl <| zF h8 rfl <| zF h8 rfl <| zS rfl (aE (av := .v _) rfl h8 rfl) ?_;exact K _ 3 _ (ay (jI h8)) rfl rfl
  ·refine zU h8 rfl (af (av := slE _ _ _) rfl) <| zU h8 rfl (be aj rfl) <| zU h8 rfl (fZ rfl rfl) <| zS rfl (aF (av := .v _) rfl h8 rfl) ?_;exact K _ 3 _ (ay (jJ h8)) rfl rfl
 refine zm rfl <| aX (l := [11, 12, 13, 14, 15, 16, 17, 18, 19, 20, 21, 22]) 24 (B (((!x6) || (decide (1000 < (a1.length : Int)))) || (decide (a3 < 0)))) (fun K => ?_) ?_
 ·rcases ak ((!x6) || (decide (1000 < (a1.length : Int)))) with h9 | h9
  ·refine zF h9 rfl <| zF h9 rfl <| zS rfl (aE (av := .v _) rfl h9 rfl) ?_;exact K _ 2 _ (ay (jI h9)) rfl rfl
  ·refine zM h9 rfl <| zU h9 rfl (bU rfl rfl) <| zS rfl (aF (av := .v _) rfl h9 rfl) ?_;exact K _ 2 _ (ay (jJ h9)) rfl rfl
 refine zm rfl <| aX (l := [15, 16, 17, 18, 19, 20, 21, 22]) 28 (B ((((!x6) || (decide (1000 < (a1.length : Int)))) || (decide (a3 < 0))) || (decide (3 < a3)))) (fun K => ?_) ?_
 ·rcases ak (((!x6) || (decide (1000 < (a1.length : Int)))) || (decide (a3 < 0))) with h10 | h10
  ·refine zF h10 rfl <| zF h10 rfl <| zS rfl (aE (av := .v _) rfl h10 rfl) ?_;exact K _ 2 _ (ay (jI h10)) rfl rfl
  ·refine zM h10 rfl <| zU h10 rfl (fZ rfl rfl) <| zS rfl (aF (av := .v _) rfl h10 rfl) ?_;exact K _ 2 _ (ay (jJ h10)) rfl rfl
 refine zm rfl <| aX (l := [19, 20, 21, 22]) 32 (B (((((!x6) || (decide (1000 < (a1.length : Int)))) || (decide (a3 < 0))) || (decide (3 < a3))) || (decide (a4 < 0)))) (fun K => ?_) ?_
 ·rcases ak ((((!x6) || (decide (1000 < (a1.length : Int)))) || (decide (a3 < 0))) || (decide (3 < a3))) with h11 | h11
  ·refine zF h11 rfl <| zF h11 rfl <| zS rfl (aE (av := .v _) rfl h11 rfl) ?_;exact K _ 2 _ (ay (jI h11)) rfl rfl
  ·refine zM h11 rfl <| zU h11 rfl (bU rfl rfl) <| zS rfl (aF (av := .v _) rfl h11 rfl) ?_;exact K _ 2 _ (ay (jJ h11)) rfl rfl
 refine zm rfl <| aX (l := []) 36 (B ((((((!x6) || (decide (1000 < (a1.length : Int)))) || (decide (a3 < 0))) || (decide (3 < a3))) || (decide (a4 < 0))) || (decide (3 < a4)))) (fun K => ?_) ?_
 ·rcases ak (((((!x6) || (decide (1000 < (a1.length : Int)))) || (decide (a3 < 0))) || (decide (3 < a3))) || (decide (a4 < 0))) with h12 | h12
  ·refine zF h12 rfl <| zF h12 rfl <| zS rfl (aE (av := .v _) rfl h12 rfl) ?_;exact K _ 2 _ (ay (jI h12)) rfl rfl
  ·refine zM h12 rfl <| zU h12 rfl (fZ rfl rfl) <| zS rfl (aF (av := .v _) rfl h12 rfl) ?_;exact K _ 2 _ (ay (jJ h12)) rfl rfl
 refine ai <| ax rfl (fun c13 => ?_) (fun c13 => ?_)
 ·replace H := aY c13 H;refine ac <| aa ?_;show AR _ _ _ _ _ [0, 1] _;refine zm rfl <| za rfl <| ai <| aJ ?_;obtain rfl := al H;exact And.intro rfl (Exists.intro _ (Exists.intro _ ⟨aC rfl (.refl _), aH [] rfl, rfl, rfl⟩))
 ·replace H := aZ c13 H;refine aB <| ac <| aa ?_;show AR _ _ _ _ _ [0, 1] _;refine zR rfl (gf (E := Enc.str) (bytes := 16) (xs := [.const _, .const _, .const _, .const _]) (l := ([([] : List UInt8), ([10, 32] : List UInt8), ([60, 33, 45, 45, 32, 60, 97, 62, 32, 45, 45, 62] : List UInt8), ej] : List (List UInt8))) ar (by kernel_rfl) rfl rfl (by decide) rfl rfl) <| zS rfl (aK (av := slE _ _ _) rfl) <| ai <| ac ?_;obtain ⟨x14, x15, e16, H⟩ := cT H;refine aa ?_;show AR _ _ _ _ _ [0, 1, 2, 3, 4, 5, 6] _;refine zS rfl (af (av := slE _ _ _) rfl) <| am rfl rfl (aG rfl jC rfl (jU F a1 q2 x14 x15 e16) ?_);refine zS rfl (af (av := .tup _) rfl) <| zS rfl (aI (av := slE _ _ _) rfl rfl) <| zS rfl (aI (av := .v _) rfl rfl) <| zS rfl (aK (av := slE _ _ _) rfl) <| za rfl <| ai <| ac ?_;obtain ⟨g17, H⟩ := aW H;obtain ⟨x18, e19, H⟩ := bM H;obtain ⟨g20, H⟩ := aW H;obtain ⟨x21, e22, H⟩ := bM H;obtain ⟨g23, H⟩ := aW H;obtain ⟨x24, e25, H⟩ := bM H;obtain ⟨g26, H⟩ := aW H;obtain ⟨x27, e28, H⟩ := bM H;obtain ⟨g29, H⟩ := aW H;obtain ⟨x31, x32, e33, H⟩ := cT H;refine bE (by kernel_rfl) ?_;show AI _ _ _ _ _ 19 (Array.replicate 19 false) _;refine zk 0 rfl (af (av := slE _ _ _) rfl) ?_;show AI _ _ _ _ _ _ #[true, false, false, false, false, false, false, false, false, false, false, false, false, false, false, false, false, false, false] _;refine zk 1 rfl (mv rfl) ?_
  show AI _ _ _ _ _ _ #[true, true, false, false, false, false, false, false, false, false, false, false, false, false, false, false, false, false, false] _;refine zk 2 rfl (bw (E := Enc.str) ar (by kernel_rfl) rfl rfl g17 e19) ?_;show AI _ _ _ _ _ _ #[true, true, true, false, false, false, false, false, false, false, false, false, false, false, false, false, false, false, false] _;refine zk 3 rfl (aM ag rfl rfl) ?_;show AI _ _ _ _ _ _ #[true, true, true, true, false, false, false, false, false, false, false, false, false, false, false, false, false, false, false] _;refine zk 4 rfl (af (av := slE _ _ _) rfl) ?_;show AI _ _ _ _ _ _ #[true, true, true, true, true, false, false, false, false, false, false, false, false, false, false, false, false, false, false] _;refine zk 5 rfl (hH aj cn ag rfl) ?_;show AI _ _ _ _ _ _ #[true, true, true, true, true, true, false, false, false, false, false, false, false, false, false, false, false, false, false] _;refine zk 6 rfl (g_cat rfl rfl g20 e22) ?_;show AI _ _ _ _ _ _ #[true, true, true, true, true, true, true, false, false, false, false, false, false, false, false, false, false, false, false] _;refine zk 7 rfl (af (av := slE _ _ _) rfl) ?_;show AI _ _ _ _ _ _ #[true, true, true, true, true, true, true, true, false, false, false, false, false, false, false, false, false, false, false] _;refine zk 8 rfl (mv rfl) ?_
  show AI _ _ _ _ _ _ #[true, true, true, true, true, true, true, true, true, false, false, false, false, false, false, false, false, false, false] _;refine zk 9 rfl (bw (E := Enc.str) ar (by kernel_rfl) rfl rfl g23 e25) ?_;show AI _ _ _ _ _ _ #[true, true, true, true, true, true, true, true, true, true, false, false, false, false, false, false, false, false, false] _;refine zk 10 rfl (aM ag rfl rfl) ?_;show AI _ _ _ _ _ _ #[true, true, true, true, true, true, true, true, true, true, true, false, false, false, false, false, false, false, false] _;refine zk 11 rfl (g_cat rfl rfl g26 e28) ?_;show AI _ _ _ _ _ _ #[true, true, true, true, true, true, true, true, true, true, true, true, false, false, false, false, false, false, false] _;refine bI (i := 12) (by kernel_rfl) rfl rfl <| AIO.opx rfl (iU (bytes := 1) ag aj cn rfl g29) ?_;rintro _ _ ⟨t30, rfl, rfl⟩;show AI _ _ _ _ _ _ #[true, true, true, true, true, true, true, true, true, true, true, true, true, false, false, false, false, false, false] _;refine bI (i := 13) (by kernel_rfl) rfl rfl <| AIO.callp rfl jC rfl (jU F x27 (some t30) x31 x32 e33) ?_;show AI _ _ _ _ _ _ #[true, true, true, true, true, true, true, true, true, true, true, true, true, true, false, false, false, false, false] _;refine zk 14 rfl (af (av := .tup _) rfl) ?_;show AI _ _ _ _ _ _ #[true, true, true, true, true, true, true, true, true, true, true, true, true, true, true, false, false, false, false] _
  refine zk 15 rfl (aI (av := slE _ _ _) rfl rfl) ?_;show AI _ _ _ _ _ _ #[true, true, true, true, true, true, true, true, true, true, true, true, true, true, true, true, false, false, false] _;refine zk 16 rfl (aI (av := .v _) rfl rfl) ?_;show AI _ _ _ _ _ _ #[true, true, true, true, true, true, true, true, true, true, true, true, true, true, true, true, true, false, false] _;refine zk 17 rfl (aK (av := slE _ _ _) rfl) ?_;show AI _ _ _ _ _ _ #[true, true, true, true, true, true, true, true, true, true, true, true, true, true, true, true, true, true, false] _;refine zk 18 rfl (asg rfl) ?_;show AI _ _ _ _ _ _ #[true, true, true, true, true, true, true, true, true, true, true, true, true, true, true, true, true, true, true] _;refine cl rfl <| ac <| ac <| aa ?_;show AR _ _ _ _ _ [0, 1] _;refine zm rfl <| zS rfl (hO rfl rfl) <| ai <| ax rfl (fun c34 => ?_) (fun c34 => ?_)
  ·replace H := aY c34 H;refine ac <| aa ?_;show AR _ _ _ _ _ [0] _;refine za rfl <| ai <| aJ ?_;obtain rfl := al H;exact And.intro rfl (Exists.intro _ (Exists.intro _ ⟨aC rfl (.refl _), aH [] rfl, rfl, rfl⟩))
  ·replace H := aZ c34 H;refine aB <| ac ?_;obtain ⟨x36, e37, H⟩ := eC H;refine aa ?_;show AR _ _ _ _ _ [0, 1, 2, 3, 4, 5, 6, 7] _;refine zm rfl <| zS rfl (bW rfl rfl) <| zm rfl <| aX (l := [7]) 69 (B ((decide (x32 = 0)) && x36)) (fun K => ?_) ?_
   ·rcases ak (decide (x32 = 0)) with h35 | h35
    ·refine zU h35 rfl (af (av := slE _ _ _) rfl) <| zU h35 rfl (af (av := slE _ _ _) rfl) <| zT h35 rfl (aG rfl mK rfl (oz F x14 none x31 none x36 (e37 h35)) ?_);refine zS rfl (aE (av := .v _) rfl h35 rfl) ?_;exact K _ 3 _ (ay (cA h35)) rfl rfl
    ·refine zF h35 rfl <| zF h35 rfl <| zF h35 rfl <| zS rfl (aF (av := .v _) rfl h35 rfl) ?_;exact K _ 3 _ (ay (cB h35)) rfl rfl
   refine za rfl <| ai <| aJ ?_;obtain rfl := al H;exact And.intro rfl (Exists.intro _ (Exists.intro _ ⟨aC rfl (.refl _), aH [] rfl, rfl, rfl⟩))
end Go.Proofs.YteokdkimegepoaaGreatDoor
namespace Go.Xm
abbrev Bs := List UInt8
abbrev At := Bs × Bs
abbrev Tok := Int × Bs × Bs × List At
def letB (c : UInt8) : Bool := ((decide (65 ≤ c.toNat) && decide (c.toNat ≤ 90)) || (decide (97 ≤ c.toNat) && decide (c.toNat ≤ 122))) || decide (c = 95)
def ii (c : UInt8) : Bool := letB c || ((((decide (48 ≤ c.toNat) && decide (c.toNat ≤ 57)) || decide (c = 45)) || decide (c = 46)) || decide (c = 58))
def cF (c : UInt8) : Bool := decide (c = 9) || decide (c = 10) || decide (c = 13) || decide (c = 32)
def nL (s : Bs) : Bool := (match s with | [] => false | c :: _ => letB c) && (s.all ii && decide (s.length ≤ 60))
def dK (s : Bs) : Option (Bs × Bs) := if nL (s.takeWhile ii) = true then some (s.takeWhile ii, s.dropWhile ii) else none
def fC (p : Bs) : Bs → Option (Bs × Bs)
  | [] => if p = [] then some ([], []) else none
  | c :: r => if p.isPrefixOf (c :: r) = true then some ([], (c :: r).drop p.length) else match fC p r with | none => none | some (a, b) => some (c :: a, b)
section
variable (dec : Bs → Option Bs)
def lU (n : Bs) (q : UInt8) (s : Bs) : Option (At × Bs) := match fC [q] s with
  | none => none
  | some (raw, r) => if 60 ∈ raw then none else match dec raw with | none => none | some t => some ((n, t), r)
def gW (s : Bs) : Option (At × Bs) := match dK s with
  | none => none
  | some (n, r) => if ([61, 34] : Bs).isPrefixOf r = true then lU dec n 34 (r.drop 2) else if ([61, 39] : Bs).isPrefixOf r = true then lU dec n 39 (r.drop 2) else none
def ew : Nat → List At → Bs → Option (List At × Bool × Bs)
  | 0, _, _ => none
  | k + 1, as_, s =>
    if ([62] : Bs).isPrefixOf (s.dropWhile cF) = true then some (as_, false, (s.dropWhile cF).drop 1)
    else if ([47, 62] : Bs).isPrefixOf (s.dropWhile cF) = true then some (as_, true, (s.dropWhile cF).drop 2)
    else if (s.dropWhile cF).length = s.length then none
    else match gW dec (s.dropWhile cF) with
      | none => none
      | some (a, r) => if as_.any (fun x => decide (x.1 = a.1)) = true then none else ew k (as_ ++ [a]) r
abbrev Sx := Bs × List Bs × Nat × List Tok
inductive Rx
  | ok (x : Sx)
  | no (e : Int)
def mN (t : Bs) (l : List Tok) : List Tok := if t = [] then l else l ++ [(2, [], t, [])]
def jM (n s : Bs) (open_ : List Bs) (k : Nat) (l : List Tok) : Rx := if open_.getLast? = some n then .ok (s, open_.dropLast, k, l ++ [(1, n, [], [])]) else .no 2
def eB (s : Bs) (o : List Bs) (k : Nat) (l : List Tok) : Rx :=
  match dec (s.takeWhile fun c => decide (c ≠ 60)) with
  | none => .no 2
  | some t => if o = [] then (if (s.takeWhile fun c => decide (c ≠ 60)).all cF = true then .ok (s.dropWhile (fun c => decide (c ≠ 60)), o, k, l) else .no 2)
      else .ok (s.dropWhile (fun c => decide (c ≠ 60)), o, k, mN t l)
def eZ (p s : Bs) (o : List Bs) (k : Nat) (l : List Tok) : Rx := match fC p s with | none => .no 2 | some (_, r) => .ok (r, o, k, l)
def kE (s : Bs) (o : List Bs) (k : Nat) (l : List Tok) : Rx := match fC [93, 93, 62] s with | none => .no 2 | some (t, r) => if o = [] then .no 2 else .ok (r, o, k, mN t l)
def om (s : Bs) (o : List Bs) (k : Nat) (l : List Tok) : Rx := match dK s with
  | none => .no 2
  | some (n, r) => if ([62] : Bs).isPrefixOf (r.dropWhile cF) = true then jM n ((r.dropWhile cF).drop 1) o k l else .no 2
def lT (n : Bs) (as_ : List At) (empty : Bool) (r : Bs) (o : List Bs) (k : Nat) (l : List Tok) : Rx :=
  if o = [] ∧ k ≠ 0 then .no 2 else if 20 ≤ o.length then .no 5
  else if empty = true then .ok (r, o, (if o = [] then k + 1 else k), (l ++ [(0, n, [], as_)]) ++ [(1, n, [], [])]) else .ok (r, o ++ [n], (if o = [] then k + 1 else k), l ++ [(0, n, [], as_)])
def jO (s : Bs) (o : List Bs) (k : Nat) (l : List Tok) : Rx := match dK s with
  | none => .no 2
  | some (n, r) => match ew dec (r.length + 1) [] r with
    | none => .no 2
    | some (as_, empty, r') => lT n as_ empty r' o k l
def cJ (s : Bs) (o : List Bs) (k : Nat) (l : List Tok) : Rx :=
  if ([60] : Bs).isPrefixOf s = false then eB dec s o k l
  else if ([60, 33, 45, 45] : Bs).isPrefixOf s = true then eZ [45, 45, 62] (s.drop 4) o k l
  else if ([60, 63] : Bs).isPrefixOf s = true then eZ [63, 62] (s.drop 2) o k l
  else if ([60, 33, 91, 67, 68, 65, 84, 65, 91] : Bs).isPrefixOf s = true then kE (s.drop 9) o k l
  else if ([60, 33] : Bs).isPrefixOf s = true then eZ [62] (s.drop 2) o k l
  else if ([60, 47] : Bs).isPrefixOf s = true then om (s.drop 2) o k l
  else jO dec (s.drop 1) o k l
def eO : Nat → Sx → Rx
  | 0, x => .no 2
  | n + 1, (s, o, k, l) => if s = [] then .ok (s, o, k, l) else match cJ dec s o k l with
    | .ok y => eO n y
    | .no e => .no e
def kZ (s : Bs) : List Tok × Int := match eO dec (s.length + 1) (s, [], 0, []) with
  | .ok (_, o, k, l) => if o = [] ∧ 0 < k then (l, 0) else ([], 2)
  | .no e => ([], e)
end
theorem jk {p : Bs} (hp : p ≠ []) : ∀ {s a b : Bs}, fC p s = some (a, b) → s = a ++ p ++ b
  | [], a, b, h => by
    unfold fC at h
    rw [if_neg hp] at h; cases h
  | c :: r, a, b, h => by
    unfold fC at h
    by_cases g : p.isPrefixOf (c :: r) = true
    · rw [if_pos g] at h
      cases h
      obtain ⟨t, ht⟩ := List.isPrefixOf_iff_prefix.1 g
      rw [← ht, List.drop_left' rfl]; rfl
    · rw [if_neg g] at h
      cases e : fC p r with
      | none => rw [e] at h; cases h
      | some x =>
        obtain ⟨a', b'⟩ := x
        rw [e] at h
        cases h
        rw [jk hp e]
        simp
theorem cU {p s : Bs} (h : p.isPrefixOf s = true) : s = p ++ s.drop p.length := by
  obtain ⟨t, ht⟩ := List.isPrefixOf_iff_prefix.1 h
  rw [← ht, List.drop_left' rfl]
theorem pN (f : UInt8 → Bool) (s : Bs) : (s.dropWhile f).length ≤ s.length := by
  induction s with
  | nil => simp
  | cons c r ih => rw [List.dropWhile_cons]; split <;> simp at * <;> omega
theorem kz {s n r : Bs} (h : dK s = some (n, r)) : s = n ++ r ∧ nL n = true := by
  unfold dK at h
  split at h
  · rename_i g
    cases h
    exact ⟨(List.takeWhile_append_dropWhile).symm, g⟩
  · cases h
theorem name_pos {n : Bs} (h : nL n = true) : 0 < n.length := by
  cases n with
  | nil => cases h
  | cons c r => simp
section
variable {dec : Bs → Option Bs}
theorem pp {n s : Bs} {q : UInt8} {a : At} {r : Bs} (h : lU dec n q s = some (a, r)) : r.length < s.length := by
  unfold lU at h
  cases e : fC [q] s with
  | none => rw [e] at h; cases h
  | some x =>
    obtain ⟨raw, r'⟩ := x
    rw [e] at h
    simp only at h
    split at h
    · cases h
    · split at h
      · cases h
      · cases h
        have := jk (by simp) e
        rw [this]; simp; omega
theorem ji {s : Bs} {a : At} {r : Bs} (h : gW dec s = some (a, r)) : r.length < s.length := by
  unfold gW at h
  cases e : dK s with
  | none => rw [e] at h; cases h
  | some x =>
    obtain ⟨n, r'⟩ := x
    rw [e] at h
    obtain ⟨rfl, hn⟩ := kz e
    have hp := name_pos hn
    simp only at h
    split at h
    · have := pp h
      rw [List.length_drop] at this; rw [List.length_append]; omega
    · split at h
      · have := pp h
        rw [List.length_drop] at this; rw [List.length_append]; omega
      · cases h
theorem ny : ∀ {k : Nat} {as_ : List At} {s : Bs} {bs : List At} {e : Bool} {r : Bs}, ew dec k as_ s = some (bs, e, r) → r.length < s.length
  | 0, _, _, _, _, _, h => by cases h
  | k + 1, as_, s, bs, e, r, h => by
    have hd := pN cF s
    unfold ew at h
    split at h
    · rename_i g
      cases h
      have := congrArg List.length (cU g)
      rw [List.length_append] at this
      simp at this ⊢
      omega
    · split at h
      · rename_i g
        cases h
        have := congrArg List.length (cU g)
        rw [List.length_append] at this
        simp at this ⊢
        omega
      · split at h
        · cases h
        · cases ea : gW dec (s.dropWhile cF) with
          | none => rw [ea] at h; cases h
          | some x =>
            obtain ⟨a, r'⟩ := x
            rw [ea] at h
            simp only at h
            have h1 := ji ea
            split at h
            · cases h
            · have := ny h
              omega
theorem ka : ∀ {k m : Nat} {as_ : List At} {s : Bs}, s.length < k → s.length < m → ew dec k as_ s = ew dec m as_ s
  | 0, _, _, _, h, _ => by omega
  | _, 0, _, _, _, h => by omega
  | k + 1, m + 1, as_, s, hk, hm => by
    have hd := pN cF s
    unfold ew
    split
    · rfl
    · split
      · rfl
      · split
        · rfl
        · rename_i g
          cases ea : gW dec (s.dropWhile cF) with
          | none => rfl
          | some x =>
            obtain ⟨a, r'⟩ := x
            have h1 := ji ea
            simp only
            split
            · rfl
            · exact ka (by omega) (by omega)
theorem nA {p s : Bs} (hp : p ≠ []) {o : List Bs} {k : Nat} {l : List Tok} {x : Sx} (h : eZ p s o k l = .ok x) : x.1.length ≤ s.length ∧ x.2 = (o, k, l) := by
  unfold eZ at h
  cases e : fC p s with
  | none => rw [e] at h; cases h
  | some y =>
    obtain ⟨a, b⟩ := y
    rw [e] at h
    cases h
    have := congrArg List.length (jk hp e)
    simp at this ⊢
    omega
theorem kd {s : Bs} {o : List Bs} {k : Nat} {l : List Tok} {x : Sx} (hs : s ≠ []) (h : cJ dec s o k l = .ok x) : x.1.length < s.length := by
  have hpos := List.length_pos_iff.2 hs
  have pl : ∀ p : Bs, p.isPrefixOf s = true → p.length ≤ s.length := fun p g => by
    have := congrArg List.length (cU g)
    rw [List.length_append] at this
    omega
  unfold cJ at h
  split at h
  · rename_i g
    have hc : ∃ c r, s = c :: r ∧ c ≠ 60 := by
      cases s with
      | nil => exact absurd rfl hs
      | cons c r =>
        refine ⟨c, r, rfl, fun e => ?_⟩
        rw [e] at g
        simp at g
    obtain ⟨c, r, rfl, hc⟩ := hc
    have hd : ((c :: r).dropWhile fun c => decide (c ≠ 60)).length < (c :: r).length := by
      rw [List.dropWhile_cons, if_pos (by simpa using hc)]
      have := pN (fun c => decide (c ≠ 60)) r
      rw [List.length_cons]; omega
    unfold eB at h
    split at h
    · cases h
    · split at h
      · split at h
        · cases h; exact hd
        · cases h
      · cases h; exact hd
  split at h
  · rename_i g
    have := (nA (by simp) h).1
    have := pl _ g
    rw [List.length_drop] at *
    simp at *; omega
  split at h
  · rename_i g
    have := (nA (by simp) h).1
    have := pl _ g
    rw [List.length_drop] at *
    simp at *; omega
  split at h
  · rename_i g
    have h9 := pl _ g
    unfold kE at h
    cases e : fC [93, 93, 62] (s.drop 9) with
    | none => rw [e] at h; cases h
    | some y =>
      obtain ⟨a, b⟩ := y
      rw [e] at h
      simp only at h
      have := congrArg List.length (jk (by simp) e)
      simp at this h9
      split at h
      · cases h
      · cases h
        simp only
        omega
  split at h
  · rename_i g
    have := (nA (by simp) h).1
    have := pl _ g
    rw [List.length_drop] at *
    simp at *; omega
  split at h
  · rename_i g
    have h2 := pl _ g
    unfold om at h
    cases e : dK (s.drop 2) with
    | none => rw [e] at h; cases h
    | some y =>
      obtain ⟨n, r⟩ := y
      rw [e] at h
      simp only at h
      have := congrArg List.length (kz e).1
      have hd := pN cF r
      simp at this h2
      split at h
      · unfold jM at h
        split at h
        · cases h
          simp only [List.length_drop]
          omega
        · cases h
      · cases h
  · unfold jO at h
    cases e : dK (s.drop 1) with
    | none => rw [e] at h; cases h
    | some y =>
      obtain ⟨n, r⟩ := y
      rw [e] at h
      simp only at h
      have := congrArg List.length (kz e).1
      simp at this
      cases ea : ew dec (r.length + 1) [] r with
      | none => rw [ea] at h; cases h
      | some z =>
        obtain ⟨as_, em, r'⟩ := z
        rw [ea] at h
        simp only at h
        have hl := ny ea
        unfold lT at h
        split at h
        · cases h
        · split at h
          · cases h
          · split at h <;> (cases h; simp only; omega)
theorem kf : ∀ {n m : Nat} {x : Sx}, x.1.length < n → x.1.length < m → eO dec n x = eO dec m x
  | 0, _, _, h, _ => by omega
  | _, 0, _, _, h => by omega
  | n + 1, m + 1, (s, o, k, l), hn, hm => by
    unfold eO
    split
    · rfl
    · rename_i g
      cases e : cJ dec s o k l with
      | no e => rfl
      | ok y =>
        have := kd g e
        simp only at hn hm ⊢
        exact kf (by omega) (by omega)
end
end Go.Xm
namespace Go.Pv
def dU (F : Nat) (a1 : Int) : Option ((List UInt8) × Bool) :=
bif ((!((((decide (a1 = 9)) || (decide (a1 = 10))) || (decide (a1 = 13))) || ((decide (32 ≤ a1)) && (decide (a1 ≤ 55295))))) && (!((decide (57344 ≤ a1)) && (decide (a1 ≤ 65533))))) && (!((decide (65536 ≤ a1)) && (decide (a1 ≤ 1114111)))) then
  some (([] : List UInt8), false)
else
  bif decide (a1 < 128) then
    some (([Go.Av.toB a1] : List UInt8), true)
  else
    bif decide (a1 < 2048) then
      grd (je a1 64) <|
      grd (okI (192 + (a1 / 64))) <|
      grd (je a1 64) <|
      grd (okI (128 + (a1 % 64))) <|
      some (([Go.Av.toB (192 + (a1 / 64)), Go.Av.toB (128 + (a1 % 64))] : List UInt8), true)
    else
      bif decide (a1 < 65536) then
        grd (je a1 4096) <|
        grd (okI (224 + (a1 / 4096))) <|
        grd (je a1 64) <|
        grd (je (a1 / 64) 64) <|
        grd (okI (128 + ((a1 / 64) % 64))) <|
        grd (je a1 64) <|
        grd (okI (128 + (a1 % 64))) <|
        some (([Go.Av.toB (224 + (a1 / 4096)), Go.Av.toB (128 + ((a1 / 64) % 64)), Go.Av.toB (128 + (a1 % 64))] : List UInt8), true)
      else
        grd (je a1 262144) <|
        grd (okI (240 + (a1 / 262144))) <|
        grd (je a1 4096) <|
        grd (je (a1 / 4096) 64) <|
        grd (okI (128 + ((a1 / 4096) % 64))) <|
        grd (je a1 64) <|
        grd (je (a1 / 64) 64) <|
        grd (okI (128 + ((a1 / 64) % 64))) <|
        grd (je a1 64) <|
        grd (okI (128 + (a1 % 64))) <|
        some (([Go.Av.toB (240 + (a1 / 262144)), Go.Av.toB (128 + ((a1 / 4096) % 64)), Go.Av.toB (128 + ((a1 / 64) % 64)), Go.Av.toB (128 + (a1 % 64))] : List UInt8), true)
def iv (F : Nat) (a1 : UInt8) : Option Int :=
bif (decide (48 ≤ (a1.toNat : Int))) && (decide ((a1.toNat : Int) ≤ 57)) then
  some ((a1 - 48).toNat : Int)
else
  bif (decide (97 ≤ (a1.toNat : Int))) && (decide ((a1.toNat : Int) ≤ 102)) then
    grd (okI (((a1 - 97).toNat : Int) + 10)) <|
    some (((a1 - 97).toNat : Int) + 10)
  else
    bif (decide (65 ≤ (a1.toNat : Int))) && (decide ((a1.toNat : Int) ≤ 70)) then
      grd (okI (((a1 - 65).toNat : Int) + 10)) <|
      some (((a1 - 65).toNat : Int) + 10)
    else
      some 99
def jz (a1 : List UInt8) (y21 : Int) : Option Int :=
bif decide ((a1.length : Int) = 0) then
  some (-1)
else
  some y21
def gL (y5 : Int) (rec6 : (Int × Int) → Option Int) (y18 : Int) : Option Int :=
grd (okI (y5 + 1)) <|
rec6 (y18, y5 + 1)
def gN (F : Nat) (a1 : List UInt8) (a2 : Int) (rec6 : (Int × Int) → Option Int) (y4 : Int) (y5 : Int) : Option Int :=
bif decide (y5 < (a1.length : Int)) then
  grd (cy y5 a1.length) <|
  lt (at_ a1 y5) fun x10 =>
  bnd (iv F x10) fun x12 =>
  bif decide (a2 ≤ x12) then
    some (-1)
  else
    grd (okI (a2 * y4)) <|
    grd (okI ((a2 * y4) + x12)) <|
    bif decide (1114111 < (a2 * y4) + x12) then
      gL y5 rec6 1114112
    else
      gL y5 rec6 ((a2 * y4) + x12)
else
  jz a1 y4
def gM (F : Nat) (a1 : List UInt8) (a2 : Int) (n : Nat) : (Int × Int) → Option Int :=
  loop (fun rec x => gN F a1 a2 rec x.1 x.2) n
def eP (F : Nat) (a1 : List UInt8) (a2 : Int) : Option Int :=
gM F a1 a2 F (0, 0)
def iE (F : Nat) (y28 : Int) : Option ((List UInt8) × Bool) :=
gJ (dU F y28) fun x30 x31 =>
some (x30, x31)
def ic (F : Nat) (a1 : List UInt8) : Option ((List UInt8) × Bool) :=
bif decide (a1 = ([97, 109, 112] : List UInt8)) then
  some (([38] : List UInt8), true)
else
  bif decide (a1 = ([108, 116] : List UInt8)) then
    some (([60] : List UInt8), true)
  else
    bif decide (a1 = ([103, 116] : List UInt8)) then
      some (([62] : List UInt8), true)
    else
      bif decide (a1 = ([113, 117, 111, 116] : List UInt8)) then
        some (([34] : List UInt8), true)
      else
        bif decide (a1 = ([97, 112, 111, 115] : List UInt8)) then
          some (([39] : List UInt8), true)
        else
          eE (!(decide ((a1.length : Int) < 2))) (cy 0 a1.length) <|
          lt (at_ a1 0) fun x11 =>
          bif (decide ((a1.length : Int) < 2)) || (!decide (x11 = 35)) then
            some (([] : List UInt8), false)
          else
            grd (iW 1 a1.length) <|
            lt (ez a1 1) fun x15 =>
            bnd (eP F x15 10) fun x17 =>
            grd (cy 1 a1.length) <|
            lt (at_ a1 1) fun x20 =>
            bif decide (x20 = 120) then
              grd (iW 2 a1.length) <|
              lt (ez a1 2) fun x24 =>
              bnd (eP F x24 16) fun x26 =>
              iE F x26
            else
              iE F x17
end Go.Pv
namespace Go.Pn
open Go.Pv Go.Av
abbrev Bs := List UInt8
def bl (c : UInt8) : Bool := (((decide (c = 9)) || (decide (c = 10))) || (decide (c = 13))) || (decide (c = 32))
mutual
/-- Behind a sign. -/
def T1 : Bs → Bs
  | [] => []
  | c :: r => bif bl c then T2 r else c :: T1 r
/-- In a gap behind a sign. -/
def T2 : Bs → Bs
  | [] => []
  | c :: r => bif bl c then T2 r else 32 :: c :: T1 r
end
def trim : Bs → Bs
  | [] => []
  | c :: r => bif bl c then trim r else c :: T1 r
def tl (out : Bs) (gap : Bool) (r : Bs) : Bs := if out = [] then trim r else bif gap then T2 r else T1 r
def wgo (cur : Bs) : Bs → List Bs
  | [] => if cur = [] then [] else [cur]
  | c :: r => bif bl c then (if cur = [] then wgo [] r else cur :: wgo [] r) else wgo (cur ++ [c]) r
theorem rest_wgo (s : Bs) : (∀ cur : Bs, cur ≠ [] → Str.join [32] (wgo cur s) = cur ++ T1 s) ∧ Str.join [32] (wgo [] s) = trim s ∧ Str.rest [32] (wgo [] s) = T2 s := by
  induction s with
  | nil => exact ⟨fun cur h => by simp [wgo, h, Str.join, Str.rest, T1], by simp [wgo, Str.join, trim], by simp [wgo, Str.rest, T2]⟩
  | cons c r ih =>
    obtain ⟨h1, h2, h3⟩ := ih
    cases hb : bl c with
    | true =>
      refine ⟨fun cur h => ?_, ?_, ?_⟩
      · simp [wgo, hb, h, Str.join, T1, h3]
      · simp [wgo, hb, trim, h2]
      · simp [wgo, hb, T2, h3]
    | false =>
      have h4 := h1 [c] (by simp)
      refine ⟨fun cur h => ?_, ?_, ?_⟩
      · simp only [wgo, hb, cond_false, T1]
        rw [h1 _ (by simp)]; simp
      · simp only [wgo, hb, cond_false, trim, List.nil_append]
        rw [h4]; rfl
      · simp only [wgo, hb, cond_false, T2, List.nil_append]
        have : Str.rest [32] (wgo [c] r) = 32 :: Str.join [32] (wgo [c] r) := by
          cases hw : wgo [c] r with
          | nil => rw [hw] at h4; simp [Str.join] at h4
          | cons w ws => simp [Str.rest, Str.join]
        rw [this, h4]; rfl
theorem join_wgo (s : Bs) : Str.join [32] (wgo [] s) = trim s := (rest_wgo s).2.1
theorem sD (s : Bs) : ∀ cur : Bs, Str.total (wgo cur s) + (wgo cur s).length ≤ cur.length + s.length + 1 := by
  induction s with
  | nil => intro cur; by_cases h : cur = [] <;> simp [wgo, h, Str.total]
  | cons c r ih =>
    intro cur
    cases hb : bl c with
    | true =>
      have := ih []
      by_cases h : cur = []
      · simp [wgo, hb, h] at this ⊢; omega
      · simp [wgo, hb, h, Str.total] at this ⊢; omega
    | false =>
      have := ih (cur ++ [c])
      simp [wgo, hb] at this ⊢; omega
theorem lw (F : Nat) (c : UInt8) : jh F c = some (bl c) := by
  have : ∀ n : Nat, n < 256 → decide (0 ≤ Go.Lib.indexByte ([9, 10, 13, 32] : List UInt8) (UInt8.ofNat n)) = bl (UInt8.ofNat n) := by decide +kernel
  have h := this c.toNat c.toNat_lt
  rw [UInt8.ofNat_toNat] at h
  unfold jh
  simp only [bx]
  rw [h]
theorem ent_end (F : Nat) (s : Bs) (hs : s.length ≤ 1000000) (n : Nat) (l : List Bs) (hl : l.length + Str.total l ≤ 100000000) (hn1 : n ≥ 1) : cZ F s n (l, (-1), ((s.length + 1 : Nat) : Int)) = some (Str.join [32] l) := by
  obtain ⟨m, rfl⟩ : ∃ m, n = m + 1 := ⟨n - 1, by omega⟩;show eJ F s (cZ F s m) l (-1) ((s.length + 1 : Nat) : Int) = _
  unfold eJ gD
  have h1 : ¬ (((s.length + 1 : Nat) : Int) ≤ (s.length : Int)) := by omega
  rw [bF h1, grd_Join (by simp; omega), bx]
theorem ent_loop (F : Nat) (s : Bs) (hs : s.length ≤ 1000000) : ∀ (n : Nat) (l : List Bs) (fr : Int) (cur : Bs) (i : Nat), s.length + 1 - i < n → i ≤ s.length → l.length ≤ i →
    ((fr = -1 ∧ cur = []) ∨ ∃ f : Nat, fr = (f : Int) ∧ f < i ∧ cur = (s.take i).drop f) → (l ++ wgo cur (s.drop i)).length + Str.total (l ++ wgo cur (s.drop i)) ≤ 100000000 →
    cZ F s n (l, fr, (i : Int)) = some (Str.join [32] (l ++ wgo cur (s.drop i))) := by
  intro n
  induction n with
  | zero => intro l fr cur i h; omega
  | succ n ih =>
    intro l fr cur i hn hi hl hf hJ;show eJ F s (cZ F s n) l fr (i : Int) = _
    unfold eJ eI
    have hend : ∀ l : List Bs, l.length + Str.total l ≤ 100000000 → n ≥ 1 → cZ F s n (l, (-1), ((s.length + 1 : Nat) : Int)) = some (Str.join [32] l) := ent_end F s hs n
    by_cases h : i < s.length
    · have hd : s.drop i = s[i] :: s.drop (i + 1) := aN h
      have hne : decide ((i : Int) = (s.length : Int)) = false := decide_eq_false (by omega)
      simp (disch := omega) only [bT, hne, Bool.not_false, kq, cX, bx, gb h, lw, bndc_t, bD, Bool.false_or]
      rw [hd] at hJ ⊢
      cases hb : bl s[i] with
      | true =>
        simp only [wgo, hb, cond_true] at hJ ⊢
        rcases hf with ⟨rfl, rfl⟩ | ⟨f, rfl, hfi, rfl⟩
        · simp only [if_true] at hJ ⊢
          simp (disch := omega) only [Bool.not_true, Bool.false_and, cond_false, Bool.true_and, bF, da, cH]
          exact ih l (-1) [] (i + 1) (by omega) (by omega) (by omega) (.inl ⟨rfl, rfl⟩) hJ
        · have hc : (s.take i).drop f ≠ [] := by
            intro h2; have := congrArg List.length h2; simp at this; omega
          simp only [hc, if_false] at hJ ⊢
          simp (disch := (first | omega | (simp; omega))) only [Bool.not_true, Bool.false_and, cond_false, Bool.true_and, bT, mT, eA, pQ, da, cH]
          rw [ih (l ++ [(s.take i).drop f]) (-1) [] (i + 1) (by omega) (by omega) (by simp; omega) (.inl ⟨rfl, rfl⟩) (by simpa using hJ)]
          simp
      | false =>
        simp only [wgo, hb, cond_false] at hJ ⊢
        rcases hf with ⟨rfl, rfl⟩ | ⟨f, rfl, hfi, rfl⟩
        · simp (disch := omega) only [Bool.not_false, Bool.true_and, bT, da, cH]
          have hc : ([] : Bs) ++ [s[i]] = (s.take (i + 1)).drop i := by
            rw [List.take_succ_eq_append_getElem h, List.drop_append_of_le_length (by simp; omega), aO (by simp; omega)]
          rw [hc] at hJ ⊢
          exact ih l (i : Int) _ (i + 1) (by omega) (by omega) (by omega) (.inr ⟨i, rfl, by omega, rfl⟩) hJ
        · simp (disch := omega) only [Bool.not_false, Bool.true_and, bF, Bool.false_and, cond_false, da, cH]
          have hc : (s.take i).drop f ++ [s[i]] = (s.take (i + 1)).drop f := by
            rw [List.take_succ_eq_append_getElem h, List.drop_append_of_le_length (by simp; omega)]
          rw [hc] at hJ ⊢
          exact ih l (f : Int) _ (i + 1) (by omega) (by omega) (by omega) (.inr ⟨f, rfl, by omega, rfl⟩) hJ
    · have hi2 : i = s.length := by omega
      subst hi2
      have hyes : decide ((s.length : Int) = (s.length : Int)) = true := decide_eq_true rfl
      simp (disch := omega) only [bT, hyes, Bool.not_true, fO, bx, lw, jc, Bool.true_or, List.drop_length] at hJ ⊢
      rcases hf with ⟨rfl, rfl⟩ | ⟨f, rfl, hfi, rfl⟩
      · simp (disch := omega) only [Bool.false_and, cond_false, Bool.true_and, bF, da, cH]
        rw [hend l (by simpa [wgo] using hJ) (by omega)]
        simp [wgo, fO, jc]
      · have hc : (s.take s.length).drop f ≠ [] := by
          intro h2; have := congrArg List.length h2; simp at this; omega
        simp only [wgo, hc, if_false] at hJ ⊢
        simp (disch := (first | omega | (simp; omega))) only [Bool.false_and, cond_false, Bool.true_and, bT, mT, eA, pQ, da, cH]
        exact hend _ hJ (by omega)
theorem ent_Trim_eq (F : Nat) (s : Bs) (hs : s.length ≤ 1000000) (hF : s.length + 1 < F) : kg F s = some (trim s) := by
  have h1 := sD s []
  have := ent_loop F s hs F [] (-1) [] 0 (by omega) (by omega) (by simp) (.inl ⟨rfl, rfl⟩) (by simp at h1 ⊢; omega)
  rw [← join_wgo]
  simpa [kg] using this
end Go.Pn
namespace Go.Pn
open Go.Pv Go.Av
theorem lu {c : UInt8} {s : Bs} (h : ∀ b ∈ s, b ≠ c) : Go.Lib.indexByte s c = -1 := by
  induction s with
  | nil => rfl
  | cons b r ih => simp [Go.Lib.indexByte, h b (by simp), ih (fun x hx => h x (by simp [hx]))]
end Go.Pn
namespace Go.Pn
open Go.Pv Go.Av
theorem rb (s : Bs) (p : Nat) : 1 ≤ (jK s p).2 := by
  unfold jK Utf8.decode
  simp only
  repeat' split
  all_goals simp
theorem iu (n : Int) : (ca n).length ≤ 4 := by
  unfold ca Utf8.encode
  simp only
  repeat' split
  all_goals simp
theorem mn (n : Int) (h : 128 ≤ n) : 2 ≤ (ca n).length ∧ ((ca n).length = 2 → ¬ (59 : UInt8) = at_ (ca n) 1) := by
  have hc : ¬ (if Utf8.valid n = true then n.toNat else Utf8.runeError) < 128 := by
    split
    · omega
    · decide
  unfold ca Utf8.encode
  simp only
  generalize (if Utf8.valid n = true then n.toNat else Utf8.runeError) = c at hc ⊢
  rw [if_neg hc]
  by_cases h2 : c < 2048
  · rw [if_pos h2]
    refine ⟨by simp, fun _ => ?_⟩;show ¬ (59 : UInt8) = UInt8.ofNat (128 + c % 64);intro e
    have := congrArg UInt8.toNat e
    rw [UInt8.toNat_ofNat'] at this
    have e59 : (59 : UInt8).toNat = 59 := rfl
    omega
  · rw [if_neg h2]
    split <;> simp
theorem qz (F : Nat) (hF : 5 ≤ F) (r : Int) : ∃ j, fF F [38, 59] r = some j := by
  unfold fF
  by_cases h1 : 0 ≤ r ∧ r < 128
  · simp only [h1, decide_true, Bool.and_self, cond_true]; exact ⟨_, rfl⟩
  · have hf : ((decide (0 ≤ r)) && (decide (r < 128))) = false := by
      cases h : (decide (0 ≤ r)) && (decide (r < 128)) with
      | false => rfl
      | true => exact absurd (by simpa using h) h1
    rw [hf, cond_false]
    by_cases h2 : r = 65533
    · rw [bT h2]
      obtain ⟨m, rfl⟩ : ∃ m, F = m + 3 := ⟨F - 3, by omega⟩
      have e0 : jK [38, 59] 0 = (38, 1) := by decide +kernel
      have e1 : jK [38, 59] 1 = (59, 1) := by decide +kernel
      refine ⟨-1, ?_⟩;show dm [38, 59] (fv [38, 59] (m + 2)) 0 = _
      unfold dm
      simp only [e0]
      show dm [38, 59] (fv [38, 59] (m + 1)) 1 = _
      unfold dm
      simp only [e1]
      rfl
    · rw [bF h2]
      have hv : ∃ b, gm F r = some b ∧ (b = true → 0 ≤ r) := by
        unfold gm
        by_cases ha : 0 ≤ r ∧ r < 55296
        · refine ⟨true, ?_, fun _ => ha.1⟩; simp [ha]
        · by_cases hb : 57343 < r ∧ r ≤ 1114111
          · refine ⟨true, ?_, fun _ => by omega⟩; simp [hb]
          · refine ⟨false, ?_, fun h => by cases h⟩
            have e1 : ((decide (0 ≤ r)) && (decide (r < 55296))) = false := by
              cases h : (decide (0 ≤ r)) && (decide (r < 55296)) with
              | false => rfl
              | true => exact absurd (by simpa using h) ha
            have e2 : ((decide (57343 < r)) && (decide (r ≤ 1114111))) = false := by
              cases h : (decide (57343 < r)) && (decide (r ≤ 1114111)) with
              | false => rfl
              | true => exact absurd (by simpa using h) hb
            rw [e1, e2]; rfl
      obtain ⟨b, hb, hp⟩ := hv
      rw [hb, bD]
      cases b with
      | false => exact ⟨-1, rfl⟩
      | true =>
        have hr : 128 ≤ r := by have := hp rfl; omega
        obtain ⟨k1, k2⟩ := mn r hr
        have k3 := iu r
        obtain ⟨m, rfl⟩ : ∃ m, F = m + 1 := ⟨F - 1, by omega⟩;refine ⟨-1, ?_⟩
        simp (disch := omega) only [Bool.not_true, cond_false, bx, da]
        show fw [38, 59] (ca r) (ie [38, 59] (ca r) m) = _
        unfold fw gg
        by_cases h3 : (ca r).length = 2
        · have e1 : ((ca r).length : Int) - 1 = 1 := by omega
          have e2 : at_ ([38, 59] : Bs) 1 = 59 := rfl
          have e3 : ez ([38, 59] : Bs) (1 + 1) = [] := rfl
          rw [e1]
          simp (disch := (first | omega | (simp; done) | (simp; omega))) only [bT, cX, bx, e2, decide_eq_false (k2 h3), Bool.not_false, kC, da, ga, e3]
          rfl
        · have : ¬ ((ca r).length : Int) - 1 < (([38, 59] : Bs).length : Int) := by simp; omega
          rw [bF this]
theorem jX (s : Bs) (c : UInt8) : -1 ≤ Go.Lib.indexByte s c ∧ Go.Lib.indexByte s c < s.length := by
  induction s with
  | nil => simp [Go.Lib.indexByte]
  | cons b r ih =>
    unfold Go.Lib.indexByte
    split
    · first | (simp; done) | (simp; omega)
    · split
      · first | (simp; done) | (simp; omega)
      · rename_i h
        have h' : ¬ Go.Lib.indexByte r c = -1 := by simpa using h
        simp; omega
theorem jt (s cs : Bs) : -1 ≤ Go.Lib.indexAny s cs ∧ Go.Lib.indexAny s cs < s.length := by
  induction s with
  | nil => simp [Go.Lib.indexAny]
  | cons b r ih =>
    unfold Go.Lib.indexAny
    split
    · first | (simp; done) | (simp; omega)
    · split
      · first | (simp; done) | (simp; omega)
      · rename_i h
        have h' : ¬ Go.Lib.indexAny r cs = -1 := by simpa using h
        simp; omega
theorem pH (F : Nat) (hF : 5 ≤ F) (s : Bs) : ∀ (n y : Nat), s.length - y < n → ∃ j, fy F s [38, 59] n y = some j ∧ -1 ≤ j ∧ j < s.length := by
  intro n
  induction n with
  | zero => intro y h; omega
  | succ n ih =>
    intro y hy;show ∃ j, fA F s [38, 59] (fy F s [38, 59] n) y = some j ∧ _
    unfold fA gi
    by_cases h : y < s.length
    · rw [bT h]
      obtain ⟨j, hj⟩ := qz F hF ((jK s y).1 : Int)
      rw [hj, bD]
      by_cases h0 : 0 ≤ j
      · rw [bT h0]; exact ⟨_, rfl, by omega, by omega⟩
      · rw [bF h0]
        have := rb s y
        exact ih _ (by omega)
    · rw [bF h]; exact ⟨-1, rfl, by omega, by omega⟩
theorem rD (F : Nat) (s : Bs) (hF : 20 ≤ F) : ∃ j, ja F s [38, 59] = some j ∧ -1 ≤ j ∧ j < s.length := by
  unfold ja
  by_cases h : 8 < s.length
  · obtain ⟨h1, h2⟩ := jt s [38, 59]
    refine ⟨Go.Lib.indexAny s [38, 59], ?_, h1, h2⟩
    simp [h]
  · have e : ((decide (8 < s.length)) && (decide (2 ≤ ([38, 59] : Bs).length))) = false := by simp [h]
    rw [e, cond_false]
    unfold jH nG gh
    have e3 : decide ((8 : Int) < (s.length : Int)) = false := decide_eq_false (by omega)
    simp (disch := (first | omega | (simp; done) | (simp; omega))) only [bF, bD, e3, Bool.not_false, kC]
    exact pH F (by omega) s F 0 (by omega)
theorem pJ (F : Nat) (s : Bs) (hs : s.length ≤ 100000) : ∃ b, eK F s [95] = some b := by
  unfold eK ja jH fx fF
  have e : ((decide (8 < s.length)) && (decide (2 ≤ ([95] : Bs).length))) = false := by simp
  have e2 : at_ ([95] : Bs) 0 = 95 := rfl
  have e3 : fP [95] = true := by decide
  have e4 : ((95 : UInt8).toNat : Int) = 95 := rfl
  rw [e, cond_false]
  simp (disch := (first | omega | (simp; done) | (simp; omega))) only [e3, kC, kD, bF, bT, cX, bx, e2, e4, grd_J]
  exact ⟨_, rfl⟩
theorem lK (x : Int) : 0 ≤ IntKind.u64.wrap x := by
  have : IntKind.u64.wrap x = x % 18446744073709551616 := rfl
  rw [this]; omega
def Ok3 (r : Option (Int × Int)) : Prop := ∃ v e, r = some (v, e) ∧ 0 ≤ v ∧ (e = 0 ∨ e = 1 ∨ e = 2)
theorem sF (F : Nat) (s : Bs) (b c : Int) (hb : b = 10 ∨ b = 16) (hs : s.length ≤ 100000) : ∀ (n i : Nat) (v : Int), s.length - i < n → 0 ≤ v → Ok3 (bC F s b c n (false, v, (i : Int))) := by
  intro n
  induction n with
  | zero => intro i v h; omega
  | succ n ih =>
    intro i v hn hv;show Ok3 (cR F s b c (bC F s b c n) false v (i : Int))
    unfold cR dv dM
    by_cases h : i < s.length
    · have key : ∀ d : UInt8, Ok3 (ci b c false v (i : Int) (bC F s b c n) d) := by
        intro d
        unfold ci cQ
        cases decide (((Go.Av.toB b).toNat : Int) ≤ (d.toNat : Int)) with
        | true => exact ⟨0, 2, rfl, by omega, by omega⟩
        | false =>
          rw [cond_false]
          cases decide (c ≤ v) with
          | true => exact ⟨_, 1, rfl, lK _, by omega⟩
          | false =>
            rw [cond_false]
            generalize ((decide (IntKind.u64.wrap ((IntKind.u64.wrap (v * (IntKind.u64.wrap b))) + (IntKind.u64.wrap (d.toNat : Int))) < IntKind.u64.wrap (v * (IntKind.u64.wrap b)))) || (decide (IntKind.u64.wrap ((IntKind.u64.wrap (1 * 2 ^ min (Int.toNat (IntKind.u64.wrap 64)) IntKind.u64.bits)) - 1) < IntKind.u64.wrap ((IntKind.u64.wrap (v * (IntKind.u64.wrap b))) + (IntKind.u64.wrap (d.toNat : Int)))))) = q
            cases q with
            | true => exact ⟨_, 1, rfl, lK _, by omega⟩
            | false =>
              rw [cond_false, da (by omega), cH]
              exact ih _ _ (by omega) (lK _)
      have hb0 : decide (b = 0) = false := decide_eq_false (by omega)
      simp (disch := omega) only [bT, cX, bx, gb h, hb0, Bool.and_false, cond_false, bD, fN]
      generalize ((decide (48 ≤ ((s[i]).toNat : Int))) && (decide (((s[i]).toNat : Int) ≤ 57))) = q1
      cases q1 with
      | true => exact key _
      | false =>
        rw [cond_false]
        generalize ((decide (97 ≤ ((s[i] ||| 32).toNat : Int))) && (decide ((((bif decide (97 ≤ ((s[i] ||| 32).toNat : Int)) then (s[i] ||| 32) else default) : UInt8).toNat : Int) ≤ 122))) = q2
        cases q2 with
        | true => exact key _
        | false => exact ⟨0, 2, rfl, by omega, by omega⟩
    · rw [bF (by omega), jc]
      exact ⟨v, 0, rfl, hv, by omega⟩
theorem uint_tot (F : Nat) (s : Bs) (b : Int) (hb : b = 10 ∨ b = 16) (hs : s.length ≤ 100000) (hF : s.length < F) : Ok3 (dS F s b 0) := by
  unfold dS dt du cu
  by_cases h0 : s = []
  · rw [bT h0]; exact ⟨0, 2, rfl, by omega, by omega⟩
  · rw [bF h0]
    have h2 : ((decide (2 ≤ b)) && (decide (b ≤ 36))) = true := by rcases hb with rfl | rfl <;> rfl
    have hw := lK 64
    rw [h2, kC, jN rfl]
    have go := fun c => sF F s b c hb hs F 0 0 (by omega) (by omega)
    rcases hb with rfl | rfl
    · rw [bT rfl, jN hw, eA (by omega)]; exact go _
    · rw [bF (by omega), bT rfl, jN hw, eA (by omega)]; exact go _
theorem int_tot (F : Nat) (s : Bs) (b : Int) (hb : b = 10 ∨ b = 16) (hs : s.length ≤ 100000) (hF : s.length < F) (h43 : at_ s 0 ≠ 43) (h45 : at_ s 0 ≠ 45) : ∃ v e, cE F s b 0 = some (v, e) := by
  have hi : ∃ v e, eF F s b 0 = some (v, e) ∧ (e = 0 ∨ e = 1 ∨ e = 2) := by
    unfold eF cK dI dj
    by_cases h0 : s = []
    · rw [bT h0]; exact ⟨0, 2, rfl, by omega⟩
    · have hp : 0 < s.length := List.length_pos_iff.2 h0
      obtain ⟨v, e, hv, hv0, he⟩ := uint_tot F s b hb hs hF
      have e1 : IntKind.u64.wrap (1 * 2 ^ min (Int.toNat (IntKind.u64.wrap 63)) IntKind.u64.bits) = 9223372036854775808 := by decide +kernel
      have e2 : (0 : Int) ≤ IntKind.u64.wrap 63 := by decide +kernel
      have e3 : IntKind.u64.wrap (9223372036854775808 - 1) = 9223372036854775807 := by decide +kernel
      simp (disch := omega) only [bF, cX, bx, hv, aQ, e1, e3, jN e2, da, jN, Bool.not_false, Bool.true_and, Bool.false_and, cond_false]
      rcases he with rfl | rfl | rfl
      · rw [show ((!decide ((0 : Int) = 0)) && (!decide ((0 : Int) = 1))) = false by rfl, cond_false]
        by_cases hb : (9223372036854775808 : Int) ≤ v
        · rw [bT hb]; exact ⟨_, 1, rfl, by omega⟩
        · rw [bF hb, da (by omega)]; exact ⟨_, 0, rfl, by omega⟩
      · rw [show ((!decide ((1 : Int) = 0)) && (!decide ((1 : Int) = 1))) = false by rfl, cond_false]
        by_cases hb : (9223372036854775808 : Int) ≤ v
        · rw [bT hb]; exact ⟨_, 1, rfl, by omega⟩
        · rw [bF hb, da (by omega)]; exact ⟨_, 0, rfl, by omega⟩
      · rw [show ((!decide ((2 : Int) = 0)) && (!decide ((2 : Int) = 1))) = true by rfl, cond_true]
        exact ⟨_, 2, rfl, by omega⟩
  obtain ⟨v, e, hv, he⟩ := hi
  unfold cE
  rw [hv, aQ]
  rcases he with rfl | rfl | rfl
  · exact ⟨_, _, rfl⟩
  · rw [show (!decide ((1 : Int) = 0)) = true by rfl, cond_true, kD (by omega), jN (by omega)]; exact ⟨_, _, rfl⟩
  · rw [show (!decide ((2 : Int) = 0)) = true by rfl, cond_true, kD (by omega), jN (by omega)]; exact ⟨_, _, rfl⟩
theorem rune_tot (F : Nat) (r : Int) : ∃ o b, fY F r = some (o, b) ∧ o.length ≤ 4 := by
  have fin : -2147483648 ≤ r ∧ r ≤ 2147483647 → ∃ o b, grd (okJ r) (lt (ca r) fun x17 => some (x17, true)) = some (o, b) ∧ o.length ≤ 4 := by
    intro h; rw [grd_J h]; exact ⟨_, _, rfl, iu r⟩
  unfold fY jb
  simp only [fN]
  cases hA : ((decide (r = 9)) || (decide (r = 10))) || (decide (r = 13)) with
  | true =>
    have : r = 9 ∨ r = 10 ∨ r = 13 := by simpa [or_assoc] using hA
    simp only [Bool.not_true, Bool.false_and, cond_false]
    exact fin (by omega)
  | false =>
    simp only [Bool.not_false, Bool.true_and, cond_true]
    cases h7 : (decide (32 ≤ r)) && (decide (r ≤ 55295)) with
    | true =>
      have : 32 ≤ r ∧ r ≤ 55295 := by simpa using h7
      simp only [Bool.not_true, Bool.false_and, cond_false]
      exact fin (by omega)
    | false =>
      simp only [Bool.not_false, Bool.true_and, cond_true]
      cases h10 : (decide (57344 ≤ r)) && (decide (r ≤ 65533)) with
      | true =>
        have : 57344 ≤ r ∧ r ≤ 65533 := by simpa using h10
        simp only [Bool.not_true, Bool.false_and, cond_false]
        exact fin (by omega)
      | false =>
        simp only [Bool.not_false, Bool.true_and, cond_true]
        cases h13 : (decide (65536 ≤ r)) && (decide (r ≤ 1114111)) with
        | true =>
          have : 65536 ≤ r ∧ r ≤ 1114111 := by simpa using h13
          simp only [Bool.not_true, Bool.false_and, cond_false]
          exact fin (by omega)
        | false => exact ⟨[], false, rfl, by simp⟩
theorem nr (F : Nat) (s : Bs) (b : Int) (hb : b = 10 ∨ b = 16) (hs : s.length ≤ 100000) (hF : s.length < F) : ∃ o k, cS F s b = some (o, k) ∧ o.length ≤ 4 := by
  obtain ⟨cb, hcb⟩ := pJ F s hs
  have no : ∃ o k, (some (([] : Bs), false) : Option (Bs × Bool)) = some (o, k) ∧ o.length ≤ 4 := ⟨[], false, rfl, by simp⟩
  unfold cS
  cases s with
  | nil => simp [fO, bx, jc]
  | cons c r =>
    have h0 : decide ((c :: r) = []) = false := decide_eq_false (by simp)
    have ha : at_ (c :: r) 0 = c := rfl
    have hg : ∀ (q : Bool) (k : Option (Bs × Bool)), eE q (cy 0 (c :: r).length) k = k := fun q k => pY (fun _ => by simp)
    simp only [hg, h0, bx, ha, hcb, fN, Bool.false_or]
    by_cases h1 : c = 43
    · simp [h1]
    · by_cases h2 : c = 45
      · simp [h2]
      · by_cases h3 : c = 95
        · simp [h3]
        · simp only [h1, h2, h3, decide_false, Bool.or_self, Bool.false_or, Bool.not_false, cond_true]
          cases cb with
          | true => exact no
          | false =>
            obtain ⟨v, e, hv⟩ := int_tot F (c :: r) b hb hs hF (by rw [ha]; exact h1) (by rw [ha]; exact h2)
            rw [cond_false, hv, aQ]
            cases hz : (!decide (e = 0)) with
            | true => exact no
            | false =>
              obtain ⟨o, k, ho, hl⟩ := rune_tot F v
              rw [cond_false, ho, aQ]
              exact ⟨o, k, rfl, hl⟩
theorem qO (F : Nat) (s : Bs) (hs : s.length ≤ 100000) (hF : s.length < F) : ∃ o k, fq F s = some (o, k) ∧ o.length ≤ 4 := by
  have htp : ∀ p, (Go.Lib.trimPrefix s p).length ≤ s.length := by
    intro p; unfold Go.Lib.trimPrefix; split <;> simp
  unfold fq hU
  simp only [bD, bx]
  generalize ([(([97, 109, 112] : List UInt8), (38 : Int)), (([108, 116] : List UInt8), 60), (([103, 116] : List UInt8), 62), (([113, 117, 111, 116] : List UInt8), 34), (([97, 112, 111, 115] : List UInt8), 39)] : List (List UInt8 × Int)) = m
  cases Go.Av.mhas m s with
  | true => exact ⟨_, _, rfl, iu _⟩
  | false =>
    rw [cond_false]
    cases Go.Lib.hasPrefix s [35, 120] with
    | true =>
      have := htp [35, 120]
      obtain ⟨o, k, ho, hl⟩ := nr F (Go.Lib.trimPrefix s [35, 120]) 16 (.inr rfl) (by omega) (by omega)
      rw [cond_true, ho, aQ]; exact ⟨o, k, rfl, hl⟩
    | false =>
      rw [cond_false]
      cases Go.Lib.hasPrefix s [35] with
      | true =>
        have := htp [35]
        obtain ⟨o, k, ho, hl⟩ := nr F (Go.Lib.trimPrefix s [35]) 10 (.inl rfl) (by omega) (by omega)
        rw [cond_true, ho, aQ]; exact ⟨o, k, rfl, hl⟩
      | false => exact ⟨[], false, rfl, by simp⟩
theorem sQ (F : Nat) (s : Bs) (h1 : 1 ≤ s.length) (hs : s.length ≤ 100000) (hF : s.length + 20 < F) : ∃ o k, gl F s = some (o, k) ∧ (k = 0 ∨ (3 ≤ k ∧ k ≤ s.length ∧ o.length ≤ 4)) := by
  have no : ∃ o k, (some (([] : Bs), (0 : Int)) : Option (Bs × Int)) = some (o, k) ∧ (k = 0 ∨ (3 ≤ k ∧ k ≤ s.length ∧ o.length ≤ 4)) := ⟨[], 0, rfl, .inl rfl⟩
  have hl : (ez s 1).length = s.length - 1 := by simp [ez]
  obtain ⟨j, hj, hj1, hj2⟩ := rD F (ez s 1) (by omega)
  have ha : fP [38, 59] = true := by decide
  unfold gl jb
  simp (disch := (first | omega | (simp; done) | (simp; omega))) only [ga, bx, ha, kC, kD, hj, bD]
  by_cases h : 1 ≤ j ∧ j ≤ 10
  · have hx : ((decide (1 ≤ j)) && (decide (j ≤ 10))) = true := by simp [h]
    simp (disch := (first | omega | (simp; done) | (simp; omega))) only [hx, Bool.not_true, Bool.not_false, kq, da, cX, Bool.false_or]
    cases decide (at_ s (j + 1) = 38) with
    | true => exact no
    | false =>
      have hsub : (sub s 1 (j + 1)).length ≤ s.length := by simp [sub]; omega
      obtain ⟨o, k, ho, hol⟩ := qO F (sub s 1 (j + 1)) (by omega) (by omega)
      simp (disch := (first | omega | (simp; done) | (simp; omega))) only [cond_false, mT, bx, ho, aQ]
      cases k with
      | false => exact no
      | true =>
        simp (disch := (first | omega | (simp; done) | (simp; omega))) only [Bool.not_true, cond_false, da]
        exact ⟨o, j + 2, rfl, .inr ⟨by omega, by omega, hol⟩⟩
  · have hx : ((decide (1 ≤ j)) && (decide (j ≤ 10))) = false := by
      cases hq : (decide (1 ≤ j)) && (decide (j ≤ 10)) with
      | false => rfl
      | true => exact absurd (by simpa using hq) h
    simp only [hx, Bool.not_false, Bool.not_true, fO, Bool.true_or, cond_true]
    exact no
end Go.Pn
namespace Go.Pn
open Go.Pv Go.Av
def dg (c : UInt8) : Nat := if 48 ≤ c.toNat ∧ c.toNat ≤ 57 then c.toNat - 48 else if 97 ≤ c.toNat ∧ c.toNat ≤ 102 then c.toNat - 87 else if 65 ≤ c.toNat ∧ c.toNat ≤ 70 then c.toNat - 55 else 99
theorem ql {p : UInt8 → Prop} (h : ∀ n : Nat, n < 256 → p (UInt8.ofNat n)) (c : UInt8) : p c := by
  have := h c.toNat (UInt8.toNat_lt c)
  rwa [UInt8.ofNat_toNat] at this
theorem digit_eq (F : Nat) (c : UInt8) : iv F c = some (dg c : Int) := by
  show iv 0 c = _;exact ql (p := fun c => iv 0 c = some (dg c : Int)) (by decide +kernel) c
def isD (x : UInt8) : Bool := (decide (48 ≤ (x.toNat : Int))) && (decide ((x.toNat : Int) ≤ 57))
def isL (x : UInt8) : Bool := (decide (97 ≤ ((x ||| 32).toNat : Int))) && (decide (((x ||| 32).toNat : Int) ≤ 122))
theorem dig_D (b : Nat) (hb : b = 10 ∨ b = 16) (x : UInt8) (h : isD x = true) : (b ≤ (x - 48).toNat ↔ b ≤ dg x) ∧ ((x - 48).toNat < b → (x - 48).toNat = dg x) := by
  revert h
  refine ql (p := fun x => isD x = true → (b ≤ (x - 48).toNat ↔ b ≤ dg x) ∧ ((x - 48).toNat < b → (x - 48).toNat = dg x)) ?_ x
  rcases hb with rfl | rfl <;> decide +kernel
theorem dig_L (b : Nat) (hb : b = 10 ∨ b = 16) (x : UInt8) (h0 : isD x = false) (h : isL x = true) : (b ≤ ((x ||| 32) - 97 + 10).toNat ↔ b ≤ dg x) ∧ (((x ||| 32) - 97 + 10).toNat < b → ((x ||| 32) - 97 + 10).toNat = dg x) := by
  revert h0 h
  refine ql (p := fun x => isD x = false → isL x = true → (b ≤ ((x ||| 32) - 97 + 10).toNat ↔ b ≤ dg x) ∧ (((x ||| 32) - 97 + 10).toNat < b → ((x ||| 32) - 97 + 10).toNat = dg x)) ?_ x
  rcases hb with rfl | rfl <;> decide +kernel
theorem dig_no (x : UInt8) (h0 : isD x = false) (h : isL x = false) : dg x = 99 := by
  revert h0 h
  exact ql (p := fun x => isD x = false → isL x = false → dg x = 99) (by decide +kernel) x
def num (b : Nat) : Nat → Bs → Option Nat
  | v, [] => some v
  | v, c :: r => if b ≤ dg c then none else num b (b * v + dg c) r
theorem qe (x : Int) (h0 : 0 ≤ x) (h1 : x < 18446744073709551616) : IntKind.u64.wrap x = x := by
  have : IntKind.u64.wrap x = x % 18446744073709551616 := rfl
  rw [this]; omega
theorem pB (F : Nat) (s : Bs) (b : Nat) (hb : b = 10 ∨ b = 16) (c : Int) (hc : 1152921504606846976 ≤ c) (hs : s.length ≤ 10) : ∀ (n i v : Nat), s.length - i < n → v < 16 ^ i → i ≤ s.length →
    bC F s (b : Int) c n (false, (v : Int), (i : Int)) = match num b v (s.drop i) with | none => some (0, 2) | some w => some ((w : Int), 0) := by
  intro n
  induction n with
  | zero => intro i v h; omega
  | succ n ih =>
    intro i v hn hv hi;show cR F s (b : Int) c (bC F s (b : Int) c n) false (v : Int) (i : Int) = _
    unfold cR dv dM
    by_cases h : i < s.length
    · have hd : s.drop i = s[i] :: s.drop (i + 1) := aN h
      have hp : (16 : Nat) ^ i ≤ 16 ^ 9 := Nat.pow_le_pow_right (by omega) (by omega)
      have hp2 : (16 : Nat) ^ 9 = 68719476736 := rfl
      have hp3 : (16 : Nat) ^ (i + 1) = 16 ^ i * 16 := Nat.pow_succ _ _
      have key : ∀ d : UInt8, ((b ≤ d.toNat ↔ b ≤ dg s[i]) ∧ (d.toNat < b → d.toNat = dg s[i])) → ci (b : Int) c false (v : Int) (i : Int) (bC F s (b : Int) c n) d = match num b v (s.drop i) with | none => some (0, 2) | some w => some ((w : Int), 0) := by
        intro d ⟨h1, h2⟩
        rw [hd]
        unfold ci cQ
        have hB : ((Go.Av.toB (b : Int)).toNat : Int) = (b : Int) := by rcases hb with rfl | rfl <;> rfl
        rw [hB]
        by_cases hbd : b ≤ d.toNat
        · rw [bT (by omega)]
          simp [num, h1.1 hbd]
        · have hd2 := h2 (by omega)
          have hbd' : ¬ b ≤ dg s[i] := fun e => hbd (h1.2 e)
          have hlt : d.toNat < 16 := by rcases hb with rfl | rfl <;> omega
          have hbv : b * v ≤ 16 * v := Nat.mul_le_mul_right v (by rcases hb with rfl | rfl <;> omega)
          have hmul : (v : Int) * (b : Int) = ((b * v : Nat) : Int) := by rw [Nat.mul_comm]; simp
          have wb : IntKind.u64.wrap (b : Int) = (b : Int) := qe _ (by omega) (by rcases hb with rfl | rfl <;> omega)
          have wd : IntKind.u64.wrap (d.toNat : Int) = (d.toNat : Int) := qe _ (by omega) (by omega)
          have wm : IntKind.u64.wrap ((b * v : Nat) : Int) = ((b * v : Nat) : Int) := qe _ (by omega) (by omega)
          have ws : IntKind.u64.wrap (((b * v : Nat) : Int) + (d.toNat : Int)) = ((b * v + d.toNat : Nat) : Int) := by rw [qe _ (by omega) (by omega)]; simp
          have wc : IntKind.u64.wrap ((IntKind.u64.wrap (1 * 2 ^ min (Int.toNat (IntKind.u64.wrap 64)) IntKind.u64.bits)) - 1) = 18446744073709551615 := by decide +kernel
          rw [wb, wd, hmul, wm, ws, wc, bF (by omega), bF (by omega), decide_eq_false (by omega : ¬ ((b * v + d.toNat : Nat) : Int) < ((b * v : Nat) : Int)), decide_eq_false (by omega : ¬ (18446744073709551615 : Int) < ((b * v + d.toNat : Nat) : Int))]
          rw [Bool.or_self, cond_false, da (by omega), cH, ih (i + 1) (b * v + d.toNat) (by omega) (by rw [hp3]; rcases hb with rfl | rfl <;> omega) (by omega)]
          simp only [num, hbd', if_false, hd2]
      have hb0 : decide ((b : Int) = 0) = false := decide_eq_false (by rcases hb with rfl | rfl <;> omega)
      simp (disch := omega) only [bT, cX, bx, gb h, hb0, Bool.and_false, cond_false, bD, fN]
      cases hD : isD s[i] with
      | true =>
        have e : ((decide (48 ≤ ((s[i]).toNat : Int))) && (decide (((s[i]).toNat : Int) ≤ 57))) = true := hD
        rw [e, cond_true]
        exact key _ (dig_D b hb _ hD)
      | false =>
        have e : ((decide (48 ≤ ((s[i]).toNat : Int))) && (decide (((s[i]).toNat : Int) ≤ 57))) = false := hD
        rw [e, cond_false]
        have el : ((decide (97 ≤ ((s[i] ||| 32).toNat : Int))) && (decide ((((bif decide (97 ≤ ((s[i] ||| 32).toNat : Int)) then (s[i] ||| 32) else default) : UInt8).toNat : Int) ≤ 122))) = isL s[i] := by
          unfold isL
          cases decide (97 ≤ ((s[i] ||| 32).toNat : Int)) <;> rfl
        rw [el]
        cases hL : isL s[i] with
        | true =>
          rw [cond_true]
          exact key _ (dig_L b hb _ hD hL)
        | false =>
          rw [cond_false, hd]
          have := dig_no _ hD hL
          have : b ≤ dg s[i] := by rw [this]; rcases hb with rfl | rfl <;> omega
          simp [num, this]
    · rw [bF (by omega), jc]
      have hi2 : s.length ≤ i := by omega
      rw [aO hi2]
      rfl
theorem int_eq (F : Nat) (s : Bs) (b : Nat) (hb : b = 10 ∨ b = 16) (h0 : s ≠ []) (hs : s.length ≤ 10) (hF : 20 < F) (h43 : at_ s 0 ≠ 43) (h45 : at_ s 0 ≠ 45) :
    cE F s (b : Int) 0 = match num b 0 s with | none => some (0, 1) | some w => some ((w : Int), 0) := by
  have hp : 0 < s.length := List.length_pos_iff.2 h0
  have hw : ∀ (t : Bs) (v w : Nat), num b v t = some w → t.length ≤ 10 → v < 16 ^ (10 - t.length) → w < 16 ^ 10 := by
    intro t
    induction t with
    | nil => intro v w h _ hv; have : v = w := by simpa [num] using h
             subst this; exact hv
    | cons c r ih =>
      intro v w h hl hv
      simp only [num] at h
      split at h
      · cases h
      · rename_i hd
        simp only [List.length_cons] at hl hv
        refine ih _ _ h (by omega) ?_
        have e : 10 - r.length = (10 - (r.length + 1)) + 1 := by omega
        rw [e, Nat.pow_succ]
        rcases hb with rfl | rfl <;> omega
  have hu : dS F s (b : Int) 0 = match num b 0 s with | none => some (0, 2) | some w => some ((w : Int), 0) := by
    unfold dS dt du cu
    have h2 : ((decide (2 ≤ (b : Int))) && (decide ((b : Int) ≤ 36))) = true := by rcases hb with rfl | rfl <;> rfl
    rw [bF h0, h2, kC, jN rfl]
    have hwr := lK 64
    have go := fun c hc => pB F s b hb c hc hs F 0 0 (by omega) (by omega) (by omega)
    rcases hb with rfl | rfl
    · rw [bT (show ((10 : Nat) : Int) = 10 from rfl), jN hwr, eA (by omega)]; exact go _ (by omega)
    · rw [bF (show ¬ ((16 : Nat) : Int) = 10 by decide), bT (show ((16 : Nat) : Int) = 16 from rfl), jN hwr, eA (by omega)]; exact go _ (by omega)
  have hi : eF F s (b : Int) 0 = match num b 0 s with | none => some (0, 2) | some w => some ((w : Int), 0) := by
    unfold eF cK dI dj
    have e1 : IntKind.u64.wrap (1 * 2 ^ min (Int.toNat (IntKind.u64.wrap 63)) IntKind.u64.bits) = 9223372036854775808 := by decide +kernel
    have e2 : (0 : Int) ≤ IntKind.u64.wrap 63 := by decide +kernel
    rw [hu]
    cases hn : num b 0 s with
    | none => simp (disch := omega) only [bF h0, bF, cX, bx, aQ]; rfl
    | some w =>
      have hwb : w < 16 ^ 10 := hw s 0 w hn hs (Nat.pow_pos (by omega))
      have hp2 : (16 : Nat) ^ 10 = 1099511627776 := rfl
      simp (disch := omega) only [bF h0, bF, cX, bx, aQ, e1, jN e2, da, jN, Bool.not_false, Bool.true_and, Bool.false_and, cond_false]
      rfl
  unfold cE
  rw [hi]
  cases hn : num b 0 s with
  | none =>
    simp only [aQ]
    rw [show (!decide ((2 : Int) = 0)) = true by rfl, cond_true, kD (by omega)]; rfl
  | some w => rfl
theorem lL (n : Int) (c : Nat) (h : n = c) : toB n = UInt8.ofNat c := by
  subst h
  unfold toB
  apply UInt8.toNat.inj
  rw [UInt8.toNat_ofNat', UInt8.toNat_ofNat']
  omega
theorem lI (F : Nat) (r : Int) : fY F r = if (r = 9 ∨ r = 10 ∨ r = 13) ∨ (32 ≤ r ∧ r ≤ 55295) ∨ (57344 ≤ r ∧ r ≤ 65533) ∨ (65536 ≤ r ∧ r ≤ 1114111) then some (ca r, true) else some ([], false) := by
  have fin : -2147483648 ≤ r ∧ r ≤ 2147483647 → (grd (okJ r) (lt (ca r) fun x17 => some (x17, true))) = some (ca r, true) := fun h => by rw [grd_J h]; rfl
  unfold fY jb
  simp only [fN]
  cases hA : ((decide (r = 9)) || (decide (r = 10))) || (decide (r = 13)) with
  | true =>
    have : r = 9 ∨ r = 10 ∨ r = 13 := by simpa [or_assoc] using hA
    simp only [Bool.not_true, Bool.false_and, cond_false]
    rw [if_pos (.inl this)]; exact fin (by omega)
  | false =>
    have hA' : ¬ (r = 9 ∨ r = 10 ∨ r = 13) := by simp at hA; omega
    simp only [Bool.not_false, Bool.true_and, cond_true]
    cases h7 : (decide (32 ≤ r)) && (decide (r ≤ 55295)) with
    | true =>
      have : 32 ≤ r ∧ r ≤ 55295 := by simpa using h7
      simp only [Bool.not_true, Bool.false_and, cond_false]
      rw [if_pos (by omega)]; exact fin (by omega)
    | false =>
      have h7' : ¬ (32 ≤ r ∧ r ≤ 55295) := fun e => by simp [e] at h7
      simp only [Bool.not_false, Bool.true_and, cond_true]
      cases h10 : (decide (57344 ≤ r)) && (decide (r ≤ 65533)) with
      | true =>
        have : 57344 ≤ r ∧ r ≤ 65533 := by simpa using h10
        simp only [Bool.not_true, Bool.false_and, cond_false]
        rw [if_pos (by omega)]; exact fin (by omega)
      | false =>
        have h10' : ¬ (57344 ≤ r ∧ r ≤ 65533) := fun e => by simp [e] at h10
        simp only [Bool.not_false, Bool.true_and, cond_true]
        cases h13 : (decide (65536 ≤ r)) && (decide (r ≤ 1114111)) with
        | true =>
          have : 65536 ≤ r ∧ r ≤ 1114111 := by simpa using h13
          simp only [Bool.not_true, Bool.false_and, cond_false]
          rw [if_pos (by omega)]; exact fin (by omega)
        | false =>
          have h13' : ¬ (65536 ≤ r ∧ r ≤ 1114111) := fun e => by simp [e] at h13
          rw [if_neg (by omega)]; rfl
theorem cond9 (p q s a b c d e f : Prop) [Decidable p] [Decidable q] [Decidable s] [Decidable a] [Decidable b] [Decidable c] [Decidable d] [Decidable e] [Decidable f] :
    (((!((((decide p) || (decide q)) || (decide s)) || ((decide a) && (decide b)))) && (!((decide c) && (decide d)))) && (!((decide e) && (decide f)))) = !decide ((p ∨ q ∨ s) ∨ (a ∧ b) ∨ (c ∧ d) ∨ (e ∧ f)) := by
  simp only [Bool.decide_or, Bool.decide_and, Bool.not_or, Bool.and_assoc, Bool.or_assoc]
theorem sH (r : Int) : (((!((((decide (r = 9)) || (decide (r = 10))) || (decide (r = 13))) || ((decide (32 ≤ r)) && (decide (r ≤ 55295))))) && (!((decide (57344 ≤ r)) && (decide (r ≤ 65533))))) && (!((decide (65536 ≤ r)) && (decide (r ≤ 1114111))))) = !decide ((r = 9 ∨ r = 10 ∨ r = 13) ∨ (32 ≤ r ∧ r ≤ 55295) ∨ (57344 ≤ r ∧ r ≤ 65533) ∨ (65536 ≤ r ∧ r ≤ 1114111)) := cond9 _ _ _ _ _ _ _ _ _
theorem rX (k m c : Nat) : toB ((k : Int) + (c : Int) / (m : Int)) = UInt8.ofNat (k + c / m) := lL _ _ (by rw [Int.natCast_add, Int.natCast_ediv])
theorem tb_mod (k m c : Nat) : toB ((k : Int) + (c : Int) % (m : Int)) = UInt8.ofNat (k + c % m) := lL _ _ (by rw [Int.natCast_add, Int.natCast_emod])
theorem sf (k m n c : Nat) : toB ((k : Int) + (c : Int) / (m : Int) % (n : Int)) = UInt8.ofNat (k + c / m % n) := lL _ _ (by rw [Int.natCast_add, Int.natCast_emod, Int.natCast_ediv])
theorem enc1 (c : Nat) (hc : Utf8.valid (c : Int) = true) : Utf8.encode (c : Int) = if c < 128 then ⟨#[UInt8.ofNat c]⟩ else if c < 2048 then ⟨#[UInt8.ofNat (192 + c / 64), UInt8.ofNat (128 + c % 64)]⟩
    else if c < 65536 then ⟨#[UInt8.ofNat (224 + c / 4096), UInt8.ofNat (128 + c / 64 % 64), UInt8.ofNat (128 + c % 64)]⟩ else ⟨#[UInt8.ofNat (240 + c / 262144), UInt8.ofNat (128 + c / 4096 % 64), UInt8.ofNat (128 + c / 64 % 64), UInt8.ofNat (128 + c % 64)]⟩ := by
  have hcc : (if Utf8.valid (c : Int) = true then ((c : Int)).toNat else Utf8.runeError) = c := by rw [if_pos hc, Int.toNat_natCast]
  unfold Utf8.encode
  rw [hcc]
theorem qs (n : Int) : ca n = (Utf8.encode n).data.toList := rfl
theorem rx (c : Nat) (hc : Utf8.valid (c : Int) = true) : ca (c : Int) = if c < 128 then [toB c] else if c < 2048 then [toB (192 + (c : Int) / 64), toB (128 + (c : Int) % 64)]
    else if c < 65536 then [toB (224 + (c : Int) / 4096), toB (128 + (c : Int) / 64 % 64), toB (128 + (c : Int) % 64)] else [toB (240 + (c : Int) / 262144), toB (128 + (c : Int) / 4096 % 64), toB (128 + (c : Int) / 64 % 64), toB (128 + (c : Int) % 64)] := by
  have t1 : toB (c : Int) = UInt8.ofNat c := lL (c : Int) c rfl
  have t2 : toB (192 + (c : Int) / 64) = UInt8.ofNat (192 + c / 64) := rX 192 64 c
  have t3 : toB (128 + (c : Int) % 64) = UInt8.ofNat (128 + c % 64) := tb_mod 128 64 c
  have t4 : toB (224 + (c : Int) / 4096) = UInt8.ofNat (224 + c / 4096) := rX 224 4096 c
  have t5 : toB (128 + (c : Int) / 64 % 64) = UInt8.ofNat (128 + c / 64 % 64) := sf 128 64 64 c
  have t6 : toB (240 + (c : Int) / 262144) = UInt8.ofNat (240 + c / 262144) := rX 240 262144 c
  have t7 : toB (128 + (c : Int) / 4096 % 64) = UInt8.ofNat (128 + c / 4096 % 64) := sf 128 4096 64 c
  rw [t1, t2, t3, t4, t5, t6, t7, qs, enc1 c hc]
  by_cases h1 : c < 128
  · rw [if_pos h1, if_pos h1]
  · rw [if_neg h1, if_neg h1]
    by_cases h2 : c < 2048
    · rw [if_pos h2, if_pos h2]
    · rw [if_neg h2, if_neg h2]
      by_cases h3 : c < 65536
      · rw [if_pos h3, if_pos h3]
      · rw [if_neg h3, if_neg h3]
theorem ru (c : Nat) (h : ((c : Int) = 9 ∨ (c : Int) = 10 ∨ (c : Int) = 13) ∨ (32 ≤ (c : Int) ∧ (c : Int) ≤ 55295) ∨ (57344 ≤ (c : Int) ∧ (c : Int) ≤ 65533) ∨ (65536 ≤ (c : Int) ∧ (c : Int) ≤ 1114111)) : Utf8.valid (c : Int) = true := by
  unfold Utf8.valid
  by_cases h1 : (c : Int) < 55296
  · have : (0 : Int) ≤ (c : Int) := by omega
    rw [decide_eq_true this, decide_eq_true h1]; rfl
  · have h2 : (57344 : Int) ≤ (c : Int) := by omega
    have h3 : (c : Int) ≤ 1114111 := by omega
    rw [decide_eq_true h2, decide_eq_true h3, Bool.and_self, Bool.or_true]
theorem mQ (F : Nat) (r : Int) : fY F r = dU F r := by
  rw [lI]
  unfold dU
  rw [sH]
  by_cases h : (r = 9 ∨ r = 10 ∨ r = 13) ∨ (32 ≤ r ∧ r ≤ 55295) ∨ (57344 ≤ r ∧ r ≤ 65533) ∨ (65536 ≤ r ∧ r ≤ 1114111)
  · rw [if_pos h, decide_eq_true h, Bool.not_true, cond_false]
    obtain ⟨c, rfl⟩ : ∃ c : Nat, r = c := ⟨r.toNat, by omega⟩
    rw [rx c (ru c h)]
    by_cases h1 : c < 128
    · rw [if_pos h1, bT (by omega)]
    · rw [if_neg h1, bF (by omega)]
      by_cases h2 : c < 2048
      · rw [if_pos h2, bT (by omega)]
        simp (disch := omega) only [pZ, da]
      · rw [if_neg h2, bF (by omega)]
        by_cases h3 : c < 65536
        · rw [if_pos h3, bT (by omega)]
          simp (disch := omega) only [pZ, da]
        · rw [if_neg h3, bF (by omega)]
          simp (disch := omega) only [pZ, da]
  · rw [if_neg h, decide_eq_false h]; rfl
def cap (w : Nat) : Nat := if 1114111 < w then 1114112 else w
theorem qu (F : Nat) (s : Bs) (b : Nat) (hb : b = 10 ∨ b = 16) (hs : s.length ≤ 100000) : ∀ (n i v : Nat), s.length - i < n → i ≤ s.length →
    gM F s (b : Int) n ((cap v : Int), (i : Int)) = match num b v (s.drop i) with | none => some (-1) | some w => some (if s.length = 0 then -1 else (cap w : Int)) := by
  intro n
  induction n with
  | zero => intro i v h; omega
  | succ n ih =>
    intro i v hn hi;show gN F s (b : Int) (gM F s (b : Int) n) (cap v : Int) (i : Int) = _
    unfold gN gL jz
    have hcv : cap v ≤ 1114112 := by unfold cap; split <;> omega
    by_cases h : i < s.length
    · have hd : s.drop i = s[i] :: s.drop (i + 1) := aN h
      simp (disch := omega) only [bT, cX, bx, gb h, digit_eq, bD]
      rw [hd]
      by_cases hbd : b ≤ dg s[i]
      · rw [bT (by omega)]; simp [num, hbd]
      · have hdb : dg s[i] < 16 := by rcases hb with rfl | rfl <;> omega
        have hbc : b * cap v ≤ 16 * cap v := Nat.mul_le_mul_right _ (by rcases hb with rfl | rfl <;> omega)
        have e1 : (b : Int) * (cap v : Int) = ((b * cap v : Nat) : Int) := by simp
        have e2 : ((b * cap v : Nat) : Int) + (dg s[i] : Int) = ((b * cap v + dg s[i] : Nat) : Int) := by simp
        have e3 : cap (b * v + dg s[i]) = if 1114111 < b * cap v + dg s[i] then 1114112 else b * cap v + dg s[i] := by
          unfold cap
          rcases hb with rfl | rfl <;> (split <;> split <;> (try split) <;> omega)
        rw [bF (by omega), e1, e2, da (by omega), da (by omega)]
        simp only [num, hbd, if_false]
        have := ih (i + 1) (b * v + dg s[i]) (by omega) (by omega)
        rw [e3] at this
        by_cases hc : 1114111 < b * cap v + dg s[i]
        · rw [bT (by omega), da (by omega), cH]
          rw [if_pos hc] at this
          exact this
        · rw [bF (by omega), da (by omega), cH]
          rw [if_neg hc] at this
          exact this
    · have hi2 : s.length ≤ i := by omega
      rw [bF (by omega), aO hi2]
      simp only [num]
      by_cases h0 : s.length = 0
      · rw [bT (by omega), if_pos h0]
      · rw [bF (by omega), if_neg h0]
theorem sK (F : Nat) (s : Bs) (b : Nat) (hb : b = 10 ∨ b = 16) (hs : s.length ≤ 100000) (hF : s.length < F) :
    eP F s (b : Int) = match num b 0 s with | none => some (-1) | some w => some (if s.length = 0 then -1 else (cap w : Int)) := by
  have := qu F s b hb hs F 0 0 (by omega) (by omega)
  have hc : cap 0 = 0 := rfl
  rw [hc, List.drop_zero] at this
  exact this
theorem qj {s : Bs} {b v : Nat} (hb : b = 10 ∨ b = 16) {c : UInt8} (hc : dg c = 99) (h : c ∈ s) : num b v s = none := by
  induction s generalizing v with
  | nil => cases h
  | cons d r ih =>
    simp only [num]
    rcases List.mem_cons.1 h with rfl | h
    · rw [if_pos (by rcases hb with rfl | rfl <;> omega)]
    · split
      · rfl
      · exact ih h
end Go.Pn
namespace Go.Pn
open Go.Pv Go.Av
theorem jj (F : Nat) : dU F (-1) = some ([], false) := by rw [← mQ, lI, if_neg (by omega)]
theorem rune_cap (F w : Nat) : dU F (cap w : Int) = dU F (w : Int) := by
  unfold cap
  split
  · rw [← mQ, ← mQ, lI, lI, if_neg (by omega), if_neg (by omega)]
  · rfl
theorem og (F : Nat) (s : Bs) (hs : s.length ≤ 100000) : eK F s [95] = some (decide (0 ≤ Go.Lib.indexByte s 95)) := by
  unfold eK ja jH fx fF
  have e : ((decide (8 < s.length)) && (decide (2 ≤ ([95] : Bs).length))) = false := by simp
  have e2 : at_ ([95] : Bs) 0 = 95 := rfl
  have e3 : fP [95] = true := by decide
  have e4 : ((95 : UInt8).toNat : Int) = 95 := rfl
  have e5 : toB 95 = 95 := rfl
  rw [e, cond_false]
  simp (disch := (first | omega | (simp; done) | (simp; omega))) only [e3, kC, kD, bF, bT, cX, bx, e2, e4, grd_J]
  rfl
theorem jW (F : Nat) (s : Bs) (b : Nat) (hb : b = 10 ∨ b = 16) (hs : s.length ≤ 10) (hF : 20 < F) : ∃ v, eP F s (b : Int) = some v ∧ cS F s (b : Int) = dU F v := by
  rw [sK F s b hb (by omega) (by omega)]
  unfold cS
  cases s with
  | nil =>
    refine ⟨-1, rfl, ?_⟩
    rw [jj]
    simp [fO, bx, jc]
  | cons c r =>
    have h0 : decide ((c :: r) = []) = false := decide_eq_false (by simp)
    have ha : at_ (c :: r) 0 = c := rfl
    have hg : ∀ (q : Bool) (k : Option (Bs × Bool)), eE q (cy 0 (c :: r).length) k = k := fun q k => pY (fun _ => by simp)
    have hlen : ¬ (c :: r).length = 0 := by simp
    rw [og F (c :: r) (by omega)]
    simp only [hg, h0, bx, ha, fN, Bool.false_or]
    by_cases h1 : c = 43
    · rw [qj hb (c := 43) (by decide) (by simp [h1])]
      refine ⟨-1, rfl, ?_⟩
      rw [jj]; simp [h1]
    · by_cases h2 : c = 45
      · rw [qj hb (c := 45) (by decide) (by simp [h2])]
        refine ⟨-1, rfl, ?_⟩
        rw [jj]; simp [h2]
      · by_cases h3 : c = 95
        · rw [qj hb (c := 95) (by decide) (by simp [h3])]
          refine ⟨-1, rfl, ?_⟩
          rw [jj]; simp [h3]
        · simp only [h1, h2, h3, decide_false, Bool.or_self, Bool.false_or, Bool.not_false, cond_true]
          by_cases h4 : 0 ≤ Go.Lib.indexByte (c :: r) 95
          · rw [bT h4]
            have hmem : (95 : UInt8) ∈ c :: r := by
              by_cases hm : (95 : UInt8) ∈ c :: r
              · exact hm
              · have := lu (c := 95) (s := c :: r) (fun x hx e => hm (e ▸ hx))
                omega
            rw [qj hb (c := 95) (by decide) hmem]
            exact ⟨-1, rfl, (jj F).symm⟩
          · rw [bF h4, int_eq F (c :: r) b hb (by simp) hs hF (by rw [ha]; exact h1) (by rw [ha]; exact h2)]
            cases hn : num b 0 (c :: r) with
            | none => exact ⟨-1, rfl, by rw [jj]; rfl⟩
            | some w =>
              refine ⟨(cap w : Int), by simp only [hlen, if_false], ?_⟩
              rw [rune_cap, ← mQ]
              simp only [aQ]
              simp only [decide_true, Bool.not_true, cond_false]
              cases he : fY F (w : Int) with
              | none => rfl
              | some p => rfl
theorem sG (F : Nat) (b : Bs) (hb : b.length ≤ 10) (hF : 20 < F) : fq F b = ic F b := by
  have fallback : mhas [(([97, 109, 112] : List UInt8), (38 : Int)), (([108, 116] : List UInt8), 60), (([103, 116] : List UInt8), 62), (([113, 117, 111, 116] : List UInt8), 34), (([97, 112, 111, 115] : List UInt8), 39)] b = false →
      ¬ b = [97, 109, 112] → ¬ b = [108, 116] → ¬ b = [103, 116] → ¬ b = [113, 117, 111, 116] → ¬ b = [97, 112, 111, 115] → fq F b = ic F b := by
    intro hm n1 n2 n3 n4 n5
    unfold fq hU ic iE
    simp only [bD, bx, hm, cond_false, bF n1, bF n2, bF n3, bF n4, bF n5]
    cases b with
    | nil => simp [Go.Lib.hasPrefix, fO]
    | cons c r =>
      cases r with
      | nil =>
        obtain ⟨v, _, hv⟩ := jW F [] 10 (.inl rfl) (by simp) hF
        have e0 : cS F [] 10 = some ([], false) := by unfold cS; simp [fO, bx, jc]
        by_cases h : c = 35
        · subst h
          have e1 : Go.Lib.hasPrefix [35] [35, 120] = false := by decide
          have e2 : Go.Lib.hasPrefix [35] [35] = true := by decide
          have e3 : Go.Lib.trimPrefix [35] [35] = [] := by decide
          rw [e1, e2, e3, cond_false, cond_true, e0]
          simp [aQ, fO]
        · have e1 : Go.Lib.hasPrefix [c] [35, 120] = false := by simp [Go.Lib.hasPrefix, List.isPrefixOf]
          have e2 : Go.Lib.hasPrefix [c] [35] = false := by simp [Go.Lib.hasPrefix, List.isPrefixOf, Ne.symm h]
          rw [e1, e2, cond_false, cond_false]
          simp [fO]
      | cons d r =>
        have ha : at_ (c :: d :: r) 0 = c := rfl
        have hb1 : at_ (c :: d :: r) 1 = d := rfl
        have hl : decide (((c :: d :: r).length : Int) < 2) = false := decide_eq_false (by simp only [List.length_cons]; omega)
        have f1 : ez (c :: d :: r) 1 = d :: r := rfl
        have f2 : ez (c :: d :: r) 2 = r := rfl
        have hg : ∀ (q : Bool) (k : Option (Bs × Bool)), eE q (cy 0 (c :: d :: r).length) k = k := fun q k => pY (fun _ => by simp only [List.length_cons]; omega)
        simp only [hg, hl, ha, hb1, f1, f2, Bool.false_or]
        by_cases h : c = 35
        · subst h
          rw [show (!decide ((35 : UInt8) = 35)) = false by rfl, cond_false]
          obtain ⟨v, hv1, hv2⟩ := jW F (d :: r) 10 (.inl rfl) (by simp at hb ⊢; omega) hF
          have hv1' : eP F (d :: r) 10 = some v := hv1
          have hv2' : cS F (d :: r) 10 = dU F v := hv2
          simp (disch := (first | omega | (simp; done) | (simp; omega))) only [ga, cX, hv1', bD]
          by_cases hx : d = 120
          · subst hx
            obtain ⟨u, hu1, hu2⟩ := jW F r 16 (.inr rfl) (by simp at hb ⊢; omega) hF
            have hu1' : eP F r 16 = some u := hu1
            have hu2' : cS F r 16 = dU F u := hu2
            have e1 : Go.Lib.hasPrefix (35 :: 120 :: r) [35, 120] = true := by simp [Go.Lib.hasPrefix, List.isPrefixOf]
            have e3 : Go.Lib.trimPrefix (35 :: 120 :: r) [35, 120] = r := by simp [Go.Lib.trimPrefix, Go.Lib.hasPrefix, List.isPrefixOf]
            rw [e1, e3, cond_true, bT rfl, hu1', bD, hu2']
          · have e1 : Go.Lib.hasPrefix (35 :: d :: r) [35, 120] = false := by simp [Go.Lib.hasPrefix, List.isPrefixOf, Ne.symm hx]
            have e2 : Go.Lib.hasPrefix (35 :: d :: r) [35] = true := by simp [Go.Lib.hasPrefix, List.isPrefixOf]
            have e3 : Go.Lib.trimPrefix (35 :: d :: r) [35] = d :: r := by simp [Go.Lib.trimPrefix, Go.Lib.hasPrefix, List.isPrefixOf]
            rw [e1, e2, e3, cond_false, cond_true, bF hx, hv2']
        · have e1 : Go.Lib.hasPrefix (c :: d :: r) [35, 120] = false := by simp [Go.Lib.hasPrefix, List.isPrefixOf, Ne.symm h]
          have e2 : Go.Lib.hasPrefix (c :: d :: r) [35] = false := by simp [Go.Lib.hasPrefix, List.isPrefixOf, Ne.symm h]
          rw [e1, e2, cond_false, cond_false, decide_eq_false h]; rfl
  have named : ∀ (n : Bs) (k : Int) (x : Bs), (mhas [(([97, 109, 112] : List UInt8), (38 : Int)), (([108, 116] : List UInt8), 60), (([103, 116] : List UInt8), 62), (([113, 117, 111, 116] : List UInt8), 34), (([97, 112, 111, 115] : List UInt8), 39)] n = true) →
      ca (mget [(([97, 109, 112] : List UInt8), (38 : Int)), (([108, 116] : List UInt8), 60), (([103, 116] : List UInt8), 62), (([113, 117, 111, 116] : List UInt8), 34), (([97, 112, 111, 115] : List UInt8), 39)] n) = x → fq F n = some (x, true) := by
    intro n k x h1 h2
    unfold fq hU
    simp only [bD, bx, h1, h2, cond_true]
  by_cases n1 : b = [97, 109, 112]
  · subst n1; rw [named _ 38 [38] (by decide +kernel) (by decide +kernel)]; rfl
  by_cases n2 : b = [108, 116]
  · subst n2; rw [named _ 60 [60] (by decide +kernel) (by decide +kernel)]; rfl
  by_cases n3 : b = [103, 116]
  · subst n3; rw [named _ 62 [62] (by decide +kernel) (by decide +kernel)]; rfl
  by_cases n4 : b = [113, 117, 111, 116]
  · subst n4; rw [named _ 34 [34] (by decide +kernel) (by decide +kernel)]; rfl
  by_cases n5 : b = [97, 112, 111, 115]
  · subst n5; rw [named _ 39 [39] (by decide +kernel) (by decide +kernel)]; rfl
  refine fallback ?_ n1 n2 n3 n4 n5
  simp [mhas, List.lookup, beq_false_of_ne n1, beq_false_of_ne n2, beq_false_of_ne n3, beq_false_of_ne n4, beq_false_of_ne n5]
end Go.Pn
namespace Go.Pn
open Go.Pv Go.Av
theorem getD_at (s : Bs) (k : Nat) (h : k < s.length) : (⟨s.toArray⟩ : ByteArray).get! k = s[k] := by
  show (s.toArray)[k]! = _
  simp [h]
theorem tF (s : Bs) (p m : Nat) (hm : 0 < m) (hk : m < (jK s p).2) : ∃ h : p + m < s.length, 128 ≤ (s[p + m]).toNat := by
  have key : ∀ k, (decide (p + k < (⟨s.toArray⟩ : ByteArray).size) && ((⟨s.toArray⟩ : ByteArray).get! (p + k)).toNat / 64 == 2) = true → ∃ h : p + k < s.length, 128 ≤ (s[p + k]).toNat := by
    intro k hk
    simp only [Bool.and_eq_true, decide_eq_true_eq, beq_iff_eq] at hk
    obtain ⟨h1, h2⟩ := hk
    have h1' : p + k < s.length := h1
    rw [getD_at s (p + k) h1'] at h2
    exact ⟨h1', by omega⟩
  unfold jK Utf8.decode at hk
  simp only at hk
  split at hk
  · simp at hk; omega
  · split at hk
    · rename_i h2
      simp only [Bool.and_eq_true] at h2
      split at hk
      · have : m = 1 := by simp at hk; omega
        subst this;exact key 1 (by simpa using h2.2)
      · simp at hk; omega
    · split at hk
      · rename_i h2
        simp only [Bool.and_eq_true] at h2
        split at hk
        · have : m = 1 ∨ m = 2 := by simp at hk; omega
          rcases this with rfl | rfl
          · exact key 1 (by simpa using h2.1.2)
          · exact key 2 (by simpa using h2.2)
        · simp at hk; omega
      · split at hk
        · rename_i h2
          simp only [Bool.and_eq_true] at h2
          split at hk
          · have : m = 1 ∨ m = 2 ∨ m = 3 := by simp at hk; omega
            rcases this with rfl | rfl | rfl
            · exact key 1 (by simpa using h2.1.1.2)
            · exact key 2 (by simpa using h2.1.2)
            · exact key 3 (by simpa using h2.2)
          · simp at hk; omega
        · simp at hk; omega
theorem decR_low (s : Bs) (p : Nat) (h : p < s.length) (hb : (s[p]).toNat < 128) : jK s p = ((s[p]).toNat, 1) := decode_ascii (⟨s.toArray⟩ : ByteArray) p h hb
theorem tG (s : Bs) (p : Nat) (h : p < s.length) (hb : 128 ≤ (s[p]).toNat) : 128 ≤ (jK s p).1 := (decode_high (⟨s.toArray⟩ : ByteArray) p h hb).1
theorem rC (F : Nat) (hF : 5 ≤ F) (r : Int) (hr : 128 ≤ r) : fF F [38, 59] r = some (-1) := by
  obtain ⟨k1, k2⟩ := mn r hr
  have k3 := iu r
  unfold fF
  have hf : ((decide (0 ≤ r)) && (decide (r < 128))) = false := by rw [decide_eq_false (by omega : ¬ r < 128), Bool.and_false]
  rw [hf, cond_false]
  by_cases h2 : r = 65533
  · rw [bT h2]
    obtain ⟨m, rfl⟩ : ∃ m, F = m + 3 := ⟨F - 3, by omega⟩
    have e0 : jK [38, 59] 0 = (38, 1) := by decide +kernel
    have e1 : jK [38, 59] 1 = (59, 1) := by decide +kernel
    show dm [38, 59] (fv [38, 59] (m + 2)) 0 = _
    unfold dm
    simp only [e0]
    show dm [38, 59] (fv [38, 59] (m + 1)) 1 = _
    unfold dm
    simp only [e1]
    rfl
  · rw [bF h2]
    have hv : ∃ b, gm F r = some b := by
      unfold gm
      cases (decide (0 ≤ r)) && (decide (r < 55296)) with
      | true => exact ⟨true, rfl⟩
      | false =>
        rw [cond_false]
        cases (decide (57343 < r)) && (decide (r ≤ 1114111)) with
        | true => exact ⟨true, rfl⟩
        | false => exact ⟨false, rfl⟩
    obtain ⟨b, hb⟩ := hv
    rw [hb, bD]
    cases b with
    | false => rfl
    | true =>
      obtain ⟨m, rfl⟩ : ∃ m, F = m + 1 := ⟨F - 1, by omega⟩
      simp (disch := omega) only [Bool.not_true, cond_false, bx, da]
      show fw [38, 59] (ca r) (ie [38, 59] (ca r) m) = _
      unfold fw gg
      by_cases h3 : (ca r).length = 2
      · have e1 : ((ca r).length : Int) - 1 = 1 := by omega
        have e2 : at_ ([38, 59] : Bs) 1 = 59 := rfl
        have e3 : ez ([38, 59] : Bs) (1 + 1) = [] := rfl
        rw [e1]
        simp (disch := (first | omega | (simp; done) | (simp; omega))) only [bT, cX, bx, e2, decide_eq_false (k2 h3), Bool.not_false, kC, da, ga, e3]
        rfl
      · have : ¬ ((ca r).length : Int) - 1 < (([38, 59] : Bs).length : Int) := by simp; omega
        rw [bF this]
def nxt (s : Bs) (y : Nat) : Int := if Go.Lib.indexAny (s.drop y) [38, 59] = -1 then -1 else (y : Int) + Go.Lib.indexAny (s.drop y) [38, 59]
theorem qT (s : Bs) (y : Nat) (h : y < s.length) (hc : ([38, 59] : Bs).contains s[y] = false) : nxt s (y + 1) = nxt s y := by
  unfold nxt
  rw [aN h]
  simp only [Go.Lib.indexAny, hc]
  have := (jt (s.drop (y + 1)) [38, 59]).1
  by_cases e : Go.Lib.indexAny (s.drop (y + 1)) [38, 59] = -1
  · simp [e]
  · have e2 : (Go.Lib.indexAny (s.drop (y + 1)) [38, 59] == -1) = false := by simpa using e
    have e3 : ¬ Go.Lib.indexAny (s.drop (y + 1)) [38, 59] + 1 = -1 := by omega
    simp [e, e2, e3]; omega
theorem nxt_hi (s : Bs) (y : Nat) (h : y < s.length) (hb : 128 ≤ (s[y]).toNat) : nxt s (y + 1) = nxt s y := by
  refine qT s y h ?_
  have h1 : s[y] ≠ 38 := by intro e; rw [e] at hb; revert hb; decide
  have h2 : s[y] ≠ 59 := by intro e; rw [e] at hb; revert hb; decide
  simp [h1, h2]
theorem nxt_skip (s : Bs) (y : Nat) : ∀ k, (∀ m, m < k → ∃ h : y + m < s.length, 128 ≤ (s[y + m]).toNat) → nxt s (y + k) = nxt s y := by
  intro k
  induction k with
  | zero => intro _; rfl
  | succ k ih =>
    intro h;obtain ⟨h1, h2⟩ := h k (by omega)
    rw [show y + (k + 1) = y + k + 1 by omega, nxt_hi s (y + k) h1 h2]
    exact ih (fun m hm => h m (by omega))
theorem rE (F : Nat) (hF : 5 ≤ F) (s : Bs) : ∀ (n y : Nat), s.length - y < n → fy F s [38, 59] n y = some (nxt s y) := by
  intro n
  induction n with
  | zero => intro y h; omega
  | succ n ih =>
    intro y hy;show fA F s [38, 59] (fy F s [38, 59] n) y = _
    unfold fA gi
    by_cases h : y < s.length
    · rw [bT h]
      by_cases hb : (s[y]).toNat < 128
      · rw [decR_low s y h hb]
        have hi : fF F [38, 59] ((s[y]).toNat : Int) = some (Go.Lib.indexByte [38, 59] s[y]) := by
          unfold fF
          have e : ((decide ((0 : Int) ≤ ((s[y]).toNat : Int))) && (decide (((s[y]).toNat : Int) < 128))) = true := by
            rw [decide_eq_true (by omega : (0 : Int) ≤ ((s[y]).toNat : Int)), decide_eq_true (by omega : ((s[y]).toNat : Int) < 128)]; rfl
          rw [e, cond_true, bx, lL _ (s[y]).toNat rfl, UInt8.ofNat_toNat]
        simp only [hi, bD]
        by_cases hc : ([38, 59] : Bs).contains s[y] = true
        · have h0 : 0 ≤ Go.Lib.indexByte [38, 59] s[y] := by
            have : s[y] = 38 ∨ s[y] = 59 := by simpa using hc
            rcases this with e | e <;> rw [e] <;> decide
          rw [bT h0]
          unfold nxt
          rw [aN h]
          simp only [Go.Lib.indexAny, hc, if_true]
          simp
        · have hc' : ([38, 59] : Bs).contains s[y] = false := by simpa using hc
          have h0 : ¬ 0 ≤ Go.Lib.indexByte [38, 59] s[y] := by
            have hne : ¬ s[y] = 38 ∧ ¬ s[y] = 59 := by simpa using hc'
            have := lu (c := s[y]) (s := [38, 59]) (fun b hb e => by
              simp at hb
              rcases hb with rfl | rfl
              · exact hne.1 e.symm
              · exact hne.2 e.symm)
            omega
          rw [bF h0, ih (y + 1) (by omega), qT s y h hc']
      · have hh := tG s y h (by omega)
        have hp := rb s y
        rw [rC F hF _ (by omega), bD, bF (by omega), ih _ (by omega)]
        rw [nxt_skip s y (jK s y).2 (fun m hm => by
          cases m with
          | zero => exact ⟨h, by simpa using hb⟩
          | succ m => exact tF s y (m + 1) (by omega) hm)]
    · rw [bF h]
      unfold nxt
      rw [aO (by omega)]
      rfl
theorem sM (F : Nat) (s : Bs) (hF : 20 ≤ F) : ja F s [38, 59] = some (Go.Lib.indexAny s [38, 59]) := by
  unfold ja
  by_cases h : 8 < s.length
  · simp [h]
  · have e : ((decide (8 < s.length)) && (decide (2 ≤ ([38, 59] : Bs).length))) = false := by simp [h]
    rw [e, cond_false]
    unfold jH nG gh
    have e3 : decide ((8 : Int) < (s.length : Int)) = false := decide_eq_false (by omega)
    simp (disch := (first | omega | (simp; done) | (simp; omega))) only [bF, bD, e3, Bool.not_false, kC]
    rw [rE F (by omega) s F 0 (by omega)]
    unfold nxt
    rw [List.drop_zero]
    split
    · rename_i e; rw [e]
    · simp
end Go.Pn
namespace Go.Pn
open Go.Pv Go.Av
abbrev amp : Bs := [38, 59]
theorem any_cons (c : UInt8) (r : Bs) : Go.Lib.indexAny (c :: r) amp = if c = 38 ∨ c = 59 then 0 else if Go.Lib.indexAny r amp = -1 then -1 else Go.Lib.indexAny r amp + 1 := by
  simp [Go.Lib.indexAny]
theorem any_is (r : Bs) : ∀ (k : Nat) (h : k < r.length), Go.Lib.indexAny r amp = (k : Int) → r[k] = 38 ∨ r[k] = 59 := by
  induction r with
  | nil => intro k h; simp at h
  | cons c r ih =>
    intro k h hk
    rw [any_cons] at hk
    by_cases hc : c = 38 ∨ c = 59
    · rw [if_pos hc] at hk
      have : k = 0 := by omega
      subst this; simpa using hc
    · rw [if_neg hc] at hk
      split at hk
      · omega
      · cases k with
        | zero => have := (jt r amp).1; omega
        | succ k => simpa using ih k (by simpa using h) (by omega)
def cM (r : Bs) : Bs × Bool :=
  if 0 ≤ Go.Lib.indexAny r amp ∧ Go.Lib.indexAny r amp ≤ 10 ∧ r.getD (Go.Lib.indexAny r amp).toNat 0 = 59 then (r.take (Go.Lib.indexAny r amp).toNat, decide (0 < Go.Lib.indexAny r amp)) else ([], false)
theorem body_len (r : Bs) : (cM r).1.length ≤ 10 := by
  unfold cM
  split
  · rename_i h; simp; omega
  · simp
theorem first_eq (F : Nat) (r : Bs) (hs : r.length ≤ 100000) (hF : 150000 < F) : ∃ x k, ic F (cM r).1 = some (x, k) ∧ gl F (38 :: r) = some (if (cM r).2 = true ∧ k = true then (x, ((cM r).1.length : Int) + 2) else ([], 0)) := by
  have hbl := body_len r
  obtain ⟨x, k, hx, _⟩ := qO F (cM r).1 (by omega) (by omega);refine ⟨x, k, by rw [← sG F _ hbl (by omega)]; exact hx, ?_⟩;obtain ⟨hj1, hj2⟩ := jt r amp
  have h1 : ez (38 :: r) 1 = r := rfl
  have ha : fP [38, 59] = true := by decide
  have hl : ((38 :: r : Bs).length : Int) = (r.length : Int) + 1 := by simp
  unfold gl jb
  simp (disch := (first | omega | (simp; done) | (simp; omega))) only [ga, bx, ha, kC, kD, h1, sM F r (by omega), bD]
  by_cases h : 1 ≤ Go.Lib.indexAny r amp ∧ Go.Lib.indexAny r amp ≤ 10
  · obtain ⟨j, hj⟩ : ∃ j : Nat, Go.Lib.indexAny r amp = j := ⟨(Go.Lib.indexAny r amp).toNat, by omega⟩
    have hjl : j < r.length := by omega
    have hc := any_is r j hjl hj
    have hx' : ((decide (1 ≤ Go.Lib.indexAny r amp)) && (decide (Go.Lib.indexAny r amp ≤ 10))) = true := by simp [h]
    have hat : at_ (38 :: r) ((j : Int) + 1) = r[j] := by
      rw [show (j : Int) + 1 = ((j + 1 : Nat) : Int) from rfl, gb (by simp; omega)]; simp
    have hsub : sub (38 :: r) 1 ((j : Int) + 1) = r.take j := by
      rw [show (j : Int) + 1 = ((j + 1 : Nat) : Int) from rfl, show (1 : Int) = ((1 : Nat) : Int) from rfl, pQ]; simp
    rw [hj] at hx' h ⊢
    simp (disch := (first | omega | (simp; done) | (simp; omega))) only [hx', Bool.not_true, Bool.not_false, kq, da, cX, Bool.false_or, hat]
    have hget : r.getD (j : Int).toNat 0 = r[j] := by simp [hjl]
    rcases hc with hc | hc
    · have hb : cM r = ([], false) := by
        unfold cM
        rw [hj, hget, hc, if_neg (by simp)]
      rw [bT hc, hb]; simp
    · have hb : cM r = (r.take j, true) := by
        unfold cM
        rw [hj, hget, hc, if_pos ⟨by omega, by omega, rfl⟩, decide_eq_true (by omega)]
        simp
      rw [hb] at hx ⊢
      have hlt : ((r.take j).length : Int) = (j : Int) := by simp; omega
      rw [bF (by rw [hc]; decide)]
      simp (disch := (first | omega | (simp; done) | (simp; omega))) only [mT, bx, hsub, hx, aQ]
      cases k with
      | false => simp
      | true =>
        simp (disch := (first | omega | (simp; done) | (simp; omega))) only [Bool.not_true, cond_false, da]
        simp [hlt]; omega
  · have hx' : ((decide (1 ≤ Go.Lib.indexAny r amp)) && (decide (Go.Lib.indexAny r amp ≤ 10))) = false := by
      cases hq : (decide (1 ≤ Go.Lib.indexAny r amp)) && (decide (Go.Lib.indexAny r amp ≤ 10)) with
      | false => rfl
      | true => exact absurd (by simpa using hq) h
    simp only [hx', Bool.not_false, Bool.not_true, fO, Bool.true_or, cond_true]
    have hb : (cM r).2 = false := by
      unfold cM
      split
      · rename_i hh; simp; omega
      · rfl
    rw [hb]; simp
end Go.Pn
namespace Go.Pn
open Go.Pv Go.Av
def ent1 (F : Nat) (r : Bs) : Option (Bs × Nat) :=
  match ic F (cM r).1 with
  | some (x, true) => bif (cM r).2 then some (x, (cM r).1.length + 2) else none
  | _ => none
def G1 (F : Nat) : Nat → Bs → Bool → Bs → Bs × Bool
  | 0, _, ok, acc => (acc, ok)
  | _ + 1, [], ok, acc => (acc, ok)
  | m + 1, c :: r, ok, acc =>
    if c = 38 then
      match ent1 F r with
      | some (x, k) => G1 F m ((c :: r).drop k) ok (acc ++ x)
      | none => G1 F m r false (acc ++ [38])
    else G1 F m r ok (acc ++ [c])
theorem ent1_two {F : Nat} {r : Bs} {x : Bs} {k : Nat} (h : ent1 F r = some (x, k)) : 2 ≤ k := by
  unfold ent1 at h
  split at h
  · cases hb : (cM r).2 with
    | true => rw [hb] at h; simp at h; omega
    | false => rw [hb] at h; simp at h
  · cases h
theorem G1_fuel (F : Nat) : ∀ (m m' : Nat) (s : Bs) (ok : Bool) (acc : Bs), s.length < m → s.length < m' → G1 F m s ok acc = G1 F m' s ok acc := by
  intro m
  induction m with
  | zero => intro m' s ok acc h; omega
  | succ m ih =>
    intro m' s ok acc h h';obtain ⟨m'', rfl⟩ : ∃ m'', m' = m'' + 1 := ⟨m' - 1, by omega⟩
    cases s with
    | nil => rfl
    | cons c r =>
      simp only [List.length_cons] at h h'
      simp only [G1]
      by_cases hc : c = 38
      · rw [if_pos hc, if_pos hc]
        cases he : ent1 F r with
        | none => exact ih _ _ _ _ (by omega) (by omega)
        | some p =>
          have := ent1_two (x := p.1) (k := p.2) he
          exact ih _ _ _ _ (by simp; omega) (by simp; omega)
      · rw [if_neg hc, if_neg hc]
        exact ih _ _ _ _ (by omega) (by omega)
theorem qd (F : Nat) : ∀ (p t : Bs) (m : Nat) (ok : Bool) (acc : Bs), (∀ b ∈ p, b ≠ 38) → p.length + t.length < m → G1 F m (p ++ t) ok acc = G1 F m t ok (acc ++ p) := by
  intro p
  induction p with
  | nil => intro t m ok acc _ _; simp
  | cons c r ih =>
    intro t m ok acc hp hm;obtain ⟨m', rfl⟩ : ∃ m', m = m' + 1 := ⟨m - 1, by omega⟩
    simp only [List.length_cons] at hm
    simp only [List.cons_append, G1]
    rw [if_neg (hp c (by simp)), ih t m' ok _ (fun b hb => hp b (by simp [hb])) (by omega), G1_fuel F m' (m' + 1) t ok _ (by omega) (by omega)]
    simp
theorem mI (s : Bs) (i : Nat) (h : Go.Lib.indexByte s 38 = (i : Int)) : (∀ b ∈ s.take i, b ≠ 38) ∧ ∃ r, s.drop i = 38 :: r := by
  induction s generalizing i with
  | nil => simp [Go.Lib.indexByte] at h
  | cons c r ih =>
    unfold Go.Lib.indexByte at h
    by_cases hc : c = 38
    · subst hc
      have : i = 0 := by simp at h; omega
      subst this;exact ⟨by simp, r, rfl⟩
    · have hcb : (c == 38) = false := by simpa using hc
      rw [hcb] at h
      by_cases hn : Go.Lib.indexByte r 38 = -1
      · simp [hn] at h
      · have hnb : (Go.Lib.indexByte r 38 == -1) = false := by simpa using hn
        rw [hnb] at h
        have hr := jX r 38
        simp at h
        obtain ⟨j, rfl⟩ : ∃ j, i = j + 1 := ⟨i - 1, by omega⟩;obtain ⟨h1, t, h2⟩ := ih j (by omega);refine ⟨fun b hb => ?_, t, by simpa using h2⟩
        simp only [List.take_succ_cons, List.mem_cons] at hb
        rcases hb with rfl | hb
        · exact hc
        · exact h1 b hb
theorem oc (s : Bs) (h : Go.Lib.indexByte s 38 < 0) : ∀ b ∈ s, b ≠ 38 := by
  induction s with
  | nil => simp
  | cons c r ih =>
    have hr := jX r 38
    unfold Go.Lib.indexByte at h
    split at h
    · omega
    · rename_i hc
      have hc' : c ≠ 38 := by simpa using hc
      split at h
      · rename_i hn
        have hn' : Go.Lib.indexByte r 38 = -1 := by simpa using hn
        intro b hb
        rcases List.mem_cons.1 hb with rfl | hb
        · exact hc'
        · exact ih (by omega) b hb
      · rename_i hn
        have hn' : ¬ Go.Lib.indexByte r 38 = -1 := by simpa using hn
        omega
theorem qE (F : Nat) (hF : 200000 < F) : ∀ (n : Nat) (s : Bs) (ok : Bool) (acc : Bs) (m : Nat), s.length < n → s.length < m → s.length ≤ 100000 → acc.length + 4 * s.length ≤ 1000000 → eH F n (s, ok, acc) = some (G1 F m s ok acc) := by
  intro n
  induction n with
  | zero => intro s ok acc m h; omega
  | succ n ih =>
    intro s ok acc m hn hm hs ha;show gC F (eH F n) s ok acc = _
    unfold gC fI
    obtain ⟨hi1, hi2⟩ := jX s 38
    by_cases h : Go.Lib.indexByte s 38 < 0
    · simp (disch := (first | omega | (simp; done) | (simp; omega))) only [bx, bT, grd_W]
      have := qd F s [] m ok acc (oc s h) (by simpa using hm)
      rw [List.append_nil] at this
      rw [this]
      obtain ⟨m', rfl⟩ : ∃ m', m = m' + 1 := ⟨m - 1, by omega⟩
      rfl
    · obtain ⟨i, hi⟩ : ∃ i : Nat, Go.Lib.indexByte s 38 = i := ⟨(Go.Lib.indexByte s 38).toNat, by omega⟩
      obtain ⟨hp, r, hr⟩ := mI s i hi
      have il : i < s.length := by omega
      have l1 : (to_ s (i : Int)).length = i := by simp [nI]; omega
      have e2 : ez s (i : Int) = 38 :: r := by rw [lG, hr]
      have hsp : s = s.take i ++ 38 :: r := by rw [← hr, List.take_append_drop]
      have lr : r.length = s.length - i - 1 := by
        have := congrArg List.length hr
        simp at this; omega
      have e1 : to_ s (i : Int) = s.take i := nI
      obtain ⟨x, k, hx, hf⟩ := first_eq F r (by omega) (by omega);obtain ⟨o, kk, ho, hk⟩ := sQ F (38 :: r) (by simp) (by simp; omega) (by simp; omega)
      rw [hf] at ho
      have hG : G1 F m s ok acc = G1 F m (38 :: r) ok (acc ++ s.take i) := by
        have := qd F (s.take i) (38 :: r) m ok acc hp (by simp; omega)
        rw [← hsp] at this; exact this
      obtain ⟨m', rfl⟩ : ∃ m', m = m' + 1 := ⟨m - 1, by omega⟩
      have ltk : (s.take i).length = i := by simp; omega
      rw [hG]
      simp (disch := (first | omega | (simp; done) | (simp; omega))) only [bx, hi, bF, ga, grd_W, e2, hf]
      simp only [G1, if_true, ent1, hx]
      by_cases hb : (cM r).2 = true ∧ k = true
      · rw [if_pos hb] at ho ⊢
        obtain ⟨hb1, rfl⟩ := hb
        have ho' := al ho
        have hk1 : ((cM r).1.length : Int) + 2 = kk := (Prod.mk.inj ho').2
        have ho1 : x = o := (Prod.mk.inj ho').1
        subst ho1
        rcases hk with rfl | ⟨k3, kl, ol⟩
        · omega
        · simp only [List.length_cons] at kl
          have ef : ez (38 :: r) (((cM r).1.length : Int) + 2) = (38 :: r).drop ((cM r).1.length + 2) := by
            rw [show ((cM r).1.length : Int) + 2 = (((cM r).1.length + 2 : Nat) : Int) from rfl, lG]
          simp only [hb1, cond_true, aQ, ef]
          simp (disch := (first | omega | (simp; done) | (simp; omega))) only [bF, grd_W, bx, ga, e1]
          rw [ih _ ok _ m' (by simp; omega) (by simp; omega) (by simp; omega) (by simp; omega)]
      · rw [if_neg hb]
        have e0 : ez (38 :: r) 1 = r := rfl
        have hm1 : (match (some (x, k) : Option (Bs × Bool)) with | some (x, true) => bif (cM r).2 then some (x, (cM r).1.length + 2) else none | _ => none) = none := by
          cases k with
          | false => rfl
          | true =>
            have : (cM r).2 = false := by
              cases hq : (cM r).2 with
              | false => rfl
              | true => exact absurd ⟨hq, rfl⟩ hb
            rw [this]; rfl
        simp only [aQ]
        simp (disch := (first | omega | (simp; done) | (simp; omega))) only [decide_true, cond_true, grd_W, bx, ga, e0, e1]
        rw [ih r false _ m' (by omega) (by omega) (by omega) (by simp; omega)]
        have hm2 : ent1 F r = none := by unfold ent1; rw [hx]; exact hm1
        unfold ent1 at hm2; rw [hx] at hm2
        cases k with
        | false => rfl
        | true => 
          cases hq : (cM r).2 with
          | false => rfl
          | true => exact absurd ⟨hq, rfl⟩ hb
end Go.Pn
namespace Go.Pn
open Go.Pv Go.Av
theorem goneG (F : Nat) (hF : 200000 < F) (s : Bs) (hs : s.length ≤ 100000) : lJ F s = some (G1 F (s.length + 1) s true []) := qE F hF F s true [] (s.length + 1) (by omega) (by omega) hs (by simp; omega)
theorem decG (F : Nat) (hF : 200000 < F) (s : Bs) (hs : s.length ≤ 100000) : ig F s = some (bif (G1 F (s.length + 1) s true []).2 then ((G1 F (s.length + 1) s true []).1, 0) else ([], 2)) := by
  unfold ig; rw [goneG F hF s hs]
  obtain ⟨o, k⟩ := G1 F (s.length + 1) s true []
  rw [aQ]
  cases k <;> rfl
theorem no_amp (F : Nat) (a : Bs) (h : (a.any fun c => decide (c = 38)) = false) : G1 F (a.length + 1) a true [] = (a, true) := by
  have hn : ∀ b ∈ a, b ≠ 38 := by
    intro b hb e
    have := List.any_eq_false.mp h b hb
    exact this (decide_eq_true e)
  have := qd F a [] (a.length + 1) true [] hn (by simp)
  rw [List.append_nil, List.nil_append] at this
  rw [this]; rfl
end Go.Pn
namespace Go.Xm
open Go.Pv Go.Av
theorem jP {α : Type} {a b : α} : (bif true then a else b) = a := Eq.symm (Eq.symm rfl)
theorem eU {α : Type} {a b : α} : (bif false then a else b) = b := Eq.symm (Eq.symm rfl)
theorem bnT {α : Type} {a b : α} : (bif !true then a else b) = b := Eq.symm (Eq.symm rfl)
theorem bnF {α : Type} {a b : α} : (bif !false then a else b) = a := Eq.symm (Eq.symm rfl)
theorem notT : (!true) = false := Eq.symm (Eq.symm rfl)
theorem notF : (!false) = true := Eq.symm (Eq.symm rfl)
theorem ands {a b : Bool} (h : (a && b) = true) : a = true ∧ b = true := by cases a <;> cases b <;> first | exact ⟨rfl, rfl⟩ | cases h
theorem gcS {α : Type} {k : Option α} {c : Bool} {n : Nat} (h : n < 4294967281) : eE c (okS n) k = k := by
  cases c
  · exact fO
  · rw [kq, kD h]
theorem gcA {α : Type} {k : Option α} {c : Bool} : eE c (fP xmla_k1) k = k := by
  have : fP xmla_k1 = true := by decide +kernel
  rw [this]; cases c <;> rfl
theorem all8 (p : UInt8 → Bool) (h : ∀ k : Fin 256, p (UInt8.ofNat k.val) = true) (b : UInt8) : p b = true := by
  have := h ⟨b.toNat, b.toNat_lt⟩
  simpa using this
theorem qW (x : UInt8) (r u : Bs) : Go.Lib.index (x :: r) u = if u.isPrefixOf (x :: r) = true then 0 else if Go.Lib.index r u = -1 then -1 else Go.Lib.index r u + 1 := by
  by_cases h : u.isPrefixOf (x :: r) = true
  · simp [Go.Lib.index, h]
  · simp [Go.Lib.index, h]
def cutO : Option (Bs × Bs) → Bs → Bs × Bs × Bool
  | none, s => (s, [], false)
  | some (a, b), _ => (a, b, true)
theorem cut_eq {p : Bs} (hp : p ≠ []) : ∀ s : Bs, Go.Lib.cut s p = cutO (fC p s) s
  | [] => by
    have : p.isEmpty = false := by cases p with | nil => exact absurd rfl hp | cons a b => rfl
    unfold Go.Lib.cut fC
    rw [if_neg hp]
    simp [Go.Lib.index, this, cutO]
  | c :: r => by
    have ih := cut_eq hp r
    have hg := Go.Lib.index_ge r p
    unfold Go.Lib.cut at ih ⊢
    unfold fC
    rw [qW]
    by_cases h : p.isPrefixOf (c :: r) = true
    · rw [if_pos h, if_pos h, if_pos (Int.le_refl 0)]
      simp [cutO]
    · rw [if_neg h, if_neg h]
      by_cases h1 : Go.Lib.index r p = -1
      · rw [if_neg (by omega)] at ih
        rw [if_pos h1, if_neg (by omega)]
        cases e : fC p r with
        | none => rfl
        | some x => rw [e] at ih; obtain ⟨a, b⟩ := x; have := congrArg (fun x => x.2.2) ih; simp [cutO] at this
      · rw [if_pos (by omega)] at ih
        rw [if_neg h1, if_pos (by omega)]
        obtain ⟨n, hn⟩ : ∃ n : Nat, Go.Lib.index r p = (n : Int) := ⟨(Go.Lib.index r p).toNat, by omega⟩
        rw [hn] at ih ⊢
        cases e : fC p r with
        | none => rw [e] at ih; have := congrArg (fun x => x.2.2) ih; simp [cutO] at this
        | some x =>
          obtain ⟨a, b⟩ := x
          rw [e] at ih
          simp only [cutO, Prod.mk.injEq, Int.toNat_natCast, and_true] at ih ⊢
          have e1 : ((n : Int) + 1).toNat = n + 1 := by omega
          rw [e1]
          refine ⟨by rw [List.take_succ_cons, ih.1], ?_⟩
          rw [show n + 1 + p.length = (n + p.length) + 1 by omega, List.drop_succ_cons, ih.2]
theorem ss (s p : Bs) : Go.Lib.hasPrefix s p = p.isPrefixOf s := rfl
theorem iZ {F : Nat} {s p : Bs} {o : List Bs} {k : Int} {l : List Tok} (h : p.isPrefixOf s = false) : dF F s o k l p = some (false, s) := by
  unfold dF Go.Lib.trimPrefix
  rw [bx, ss, h]; rfl
theorem io {F : Nat} {s p : Bs} {o : List Bs} {k : Int} {l : List Tok} (h : p.isPrefixOf s = true) : dF F s o k l p = some (true, s.drop p.length) := by
  unfold dF Go.Lib.trimPrefix
  rw [bx, ss, h]; rfl
theorem mP {F : Nat} : cc F true = some (.ok ()) := Eq.symm (Eq.symm rfl)
theorem lS {F : Nat} : cc F false = some (.pan 2) := Eq.symm (Eq.symm rfl)
def cutR : Option (Bs × Bs) → Res (Bs × Bs)
  | none => .pan 2
  | some x => .ok x
theorem pO {F : Nat} {s p : Bs} {o : List Bs} {k : Int} {l : List Tok} (hp : p ≠ []) (hs : s.length ≤ 1000000) : fD F s o k l p = some (cutR (fC p s)) := by
  unfold fD
  rw [kD (by omega), bx, cut_eq hp]
  cases fC p s with
  | none => simp only [cutO]; rw [lS, bZ]; rfl
  | some x => obtain ⟨a, b⟩ := x; simp only [cutO]; rw [mP, bO]; rfl
theorem blk_c (c : UInt8) : ([9, 10, 13, 32] : Bs).contains c = cF c := by
  have := all8 (fun c => ([9, 10, 13, 32] : Bs).contains c == cF c) (by decide +kernel) c
  simpa using this
theorem oD {F : Nat} {s : Bs} {o : List Bs} {k : Int} {l : List Tok} : hP F s o k l = some (decide (((s.dropWhile cF).length : Int) < (s.length : Int)), s.dropWhile cF) := by
  have h : fP ([9, 10, 13, 32] : List UInt8) = true := by decide +kernel
  have e : (fun x => ([9, 10, 13, 32] : Bs).contains x) = cF := funext blk_c
  unfold hP Go.Lib.trimLeftS
  rw [kD (by simp), h, kC, bx, e]
theorem sgn_i (c : UInt8) : decide (0 ≤ Go.Lib.indexByte xmla_k1 c) = ii c := by
  have := all8 (fun c => decide (0 ≤ Go.Lib.indexByte xmla_k1 c) == ii c) (by decide +kernel) c
  simpa using this
theorem sgn_n (c : UInt8) : decide (Go.Lib.indexByte xmla_k1 c < 0) = !ii c := by
  rw [← sgn_i]
  by_cases h : 0 ≤ Go.Lib.indexByte xmla_k1 c
  · rw [decide_eq_true h, decide_eq_false (by omega)]; rfl
  · rw [decide_eq_false h, decide_eq_true (by omega)]; rfl
theorem sgn_c (c : UInt8) : xmla_k1.contains c = ii c := by
  have := all8 (fun c => xmla_k1.contains c == ii c) (by decide +kernel) c
  simpa using this
theorem let_c (c : UInt8) : Go.Lib.contains xmla_k2 [c] = letB c := by
  have := all8 (fun c => Go.Lib.contains xmla_k2 [c] == letB c) (by decide +kernel) c
  simpa using this
theorem tw_at {f : UInt8 → Bool} : ∀ {s : Bs} {i : Nat}, i ≤ s.length → (s.take i).all f = true → (∀ h : i < s.length, f s[i] = false) → s.takeWhile f = s.take i ∧ s.dropWhile f = s.drop i
  | [], i, h, _, _ => by simp
  | c :: s, 0, h, _, g => by
    have := g (by simp)
    rw [List.getElem_cons_zero] at this
    rw [List.takeWhile_cons, List.dropWhile_cons, this]; simp
  | c :: s, i + 1, h, ha, g => by
    rw [List.take_succ_cons, List.all_cons] at ha
    obtain ⟨h1, h2⟩ := ands ha
    have := tw_at (s := s) (i := i) (by simpa using h) h2 fun q => by
      have := g (by simpa using q)
      rw [List.getElem_cons_succ] at this; exact this
    rw [List.takeWhile_cons, List.dropWhile_cons, h1]
    simp [this.1, this.2]
theorem ns (s : Bs) (hs : s.length ≤ 1000000) : ∀ (n i : Nat), s.length - i < n → i ≤ s.length → gw s n (i : Int) = some ((s.drop i).all ii)
  | 0, i, h, _ => by omega
  | n + 1, i, h, hi => by
    show gx s (gw s n) (i : Int) = _
    unfold gx
    by_cases g : i < s.length
    · rw [bT (by omega), cX (by omega), bx, gb g, bx, sgn_n, aN g, List.all_cons]
      cases ii s[i] with
      | false => rw [notF, jP, Bool.false_and]
      | true =>
        rw [notT, eU, da (by omega), cH, ns s hs n (i + 1) (by omega) (by omega), Bool.true_and]
    · rw [bF (by omega), aO (by omega)]; rfl
theorem inner_eq (F : Nat) (s : Bs) (hs : s.length ≤ 1000000) (hF : s.length < F) : lx F s = some (s.all ii) := ns s hs F 0 (by omega) (by omega)
theorem qk (f : UInt8 → Bool) : ∀ l : Bs, l.dropWhile f = [] ↔ ∀ x ∈ l, f x = true
  | [] => by simp
  | c :: l => by
    have ih := qk f l
    cases h : f c with
    | true => simp [List.dropWhile_cons, h, ih]
    | false => simp [List.dropWhile_cons, h]
theorem trim_sgn (t : Bs) : decide (Go.Lib.trimS t xmla_k1 = []) = t.all ii := by
  unfold Go.Lib.trimS Go.Lib.trimLeftS Go.Lib.trimRightS
  have e : (fun x => xmla_k1.contains x) = ii := funext sgn_c
  rw [e]
  cases h : t.all ii with
  | true =>
    rw [List.all_eq_true] at h
    refine decide_eq_true ?_
    have : t.reverse.dropWhile ii = [] := by
      rw [qk]; intro x hx; exact h x (List.mem_reverse.1 hx)
    rw [this]; rfl
  | false =>
    rw [List.all_eq_false] at h
    obtain ⟨x, hx, hn⟩ := h
    refine decide_eq_false fun q => ?_
    rw [qk] at q
    have hne : t.reverse.dropWhile ii ≠ [] := by
      intro e
      rw [qk] at e
      exact hn (e x (List.mem_reverse.2 hx))
    have := List.head_dropWhile_not ii (l := t.reverse) hne
    have hm := q _ (List.mem_reverse.2 (List.head_mem hne))
    rw [hm] at this
    simp at this
theorem to1 (c : UInt8) (r : Bs) : to_ (c :: r) 1 = [c] := rfl
theorem rB (c : UInt8) (r : Bs) : nL (c :: r) = (letB c && ((c :: r).all ii && decide ((c :: r).length ≤ 60))) := Eq.symm (Eq.symm rfl)
theorem Name_eq (F : Nat) (s : Bs) (hs : s.length ≤ 1000000) (hF : 100 < F) : kw F s = some (nL s) := by
  unfold kw
  have l1 : xmla_k1.length < 4294967281 := by decide +kernel
  have l2 : xmla_k2.length < 4294967281 := by decide +kernel
  simp only [bx, gcS l1, gcS l2, gcS (n := s.length) (by omega), gcA]
  cases s with
  | nil => simp [eE, iY, nL]
  | cons c r =>
    rw [decide_eq_false (p := c :: r = ([] : List UInt8)) (by simp), notF, Bool.true_and, to1, let_c, trim_sgn]
    rw [rB]
    have hp : 0 < (c :: r).length := by simp
    by_cases h : (c :: r).length ≤ 60
    · rw [decide_eq_true h, decide_eq_true (p := (((c :: r).length : Nat) : Int) ≤ 60) (by omega), kq, ga (by omega), Bool.true_and]
      cases hc : letB c with
      | false => rw [Bool.false_and, jc, Bool.false_and, Bool.false_and]
      | true =>
        cases ha : (c :: r).all ii with
        | false => rw [Bool.and_false, jc, Bool.false_and, Bool.false_and, Bool.and_false]
        | true => rw [inner_eq F (c :: r) hs (by omega), ha, fN]; rfl
    · rw [decide_eq_false h, decide_eq_false (p := (((c :: r).length : Nat) : Int) ≤ 60) (by omega), fO, Bool.false_and, Bool.false_and, jc, Bool.false_and, Bool.and_false, Bool.and_false]
def kB : Option (Bs × Bs) → Res (Bs × Bs)
  | none => .pan 2
  | some x => .ok x
theorem oJ (F : Nat) (hF : 100 < F) (s : Bs) (hs : s.length ≤ 1000000) : ∀ (n i : Nat), s.length - i < n → i ≤ s.length → (s.take i).all ii = true → ia F s n (i : Int) = some (kB (dK s))
  | 0, i, h, _, _ => by omega
  | n + 1, i, h, hi, ha => by
    have fin : (∀ h : i < s.length, ii s[i] = false) → gd F s (i : Int) = some (kB (dK s)) := fun q => by
      obtain ⟨e1, e2⟩ := tw_at hi ha q
      unfold gd dK
      rw [ga (by omega), bx, nI, lG, Name_eq F _ (by rw [List.length_take]; omega) hF, bD, e1, e2]
      cases nL (s.take i) with
      | false => rw [lS, bZ]; rfl
      | true => rw [mP, bO, ga (by omega), bx]; rfl
    show ib F s (ia F s n) (i : Int) = _
    unfold ib
    by_cases g : i < s.length
    · rw [decide_eq_true (p := (i : Int) < (s.length : Int)) (by omega), kq, cX (by omega), bx, gb g, bx, sgn_i, Bool.true_and]
      cases hc : ii s[i] with
      | false => rw [eU]; exact fin fun _ => hc
      | true =>
        rw [jP, da (by omega), cH]
        refine oJ F hF s hs n (i + 1) (by omega) (by omega) ?_
        rw [List.take_succ_eq_append_getElem g, List.all_append, ha, List.all_cons, hc]; rfl
    · rw [decide_eq_false (p := (i : Int) < (s.length : Int)) (by omega), fO, bx, bx, Bool.false_and, eU]
      exact fin fun q => absurd q g
theorem pX {F : Nat} {s : Bs} {o : List Bs} {k : Int} {l : List Tok} (hF : 100 < F) (hs : s.length ≤ 1000000) (hl : s.length < F) : iL F s o k l = some (kB (dK s)) :=
  oJ F hF s hs F 0 (by omega) (by omega) (by simp)
end Go.Xm
namespace Go.Xm
open Go.Pv Go.Av
def dec (F : Nat) (s : Bs) : Option Bs := bif (Go.Pn.G1 F (s.length + 1) s true []).2 then some (Go.Pn.G1 F (s.length + 1) s true []).1 else none
def oR {α : Type} : Option α → Res α
  | none => .pan 2
  | some x => .ok x
section
variable {F : Nat} (hF : 1500000 < F)
include hF
theorem pm {s : Bs} (hs : s.length ≤ 100000) : fK F s = some (oR (dec F s)) := by
  unfold fK dec
  rw [Go.Pn.decG F (by omega) s hs]
  cases (Go.Pn.G1 F (s.length + 1) s true []).2 with
  | true => rw [jP, jP, aQ, decide_eq_true rfl, mP, bO]; rfl
  | false => rw [eU, eU, aQ, decide_eq_false (by decide), lS, bZ]; rfl
omit hF in
theorem se {s t : Bs} {o : List Bs} {k : Int} {l : List Tok} (hl : l.length ≤ 1000000) : ku F s o k l t = some (mN t l) := by
  unfold ku mN
  by_cases h : t = []
  · rw [decide_eq_true h, bnT, if_pos h]
  · rw [decide_eq_false h, bnF, if_neg h, eA (by simp; omega), bx]
omit hF in
theorem at_last {o : List Bs} (h : o ≠ []) : at_ o ((o.length : Int) - 1) = o.getLast h := by
  have hp := List.length_pos_iff.2 h
  rw [show (o.length : Int) - 1 = ((o.length - 1 : Nat) : Int) by omega, gb (by omega), List.getLast_eq_getElem]
def re : Rx → Res (List Tok × List Bs)
  | .ok x => .ok (x.2.2.2, x.2.1)
  | .no e => .pan e
omit hF in
theorem sj {s n : Bs} {o : List Bs} {k : Nat} {l : List Tok} (ho : o.length ≤ 100) (hl : l.length ≤ 1000000) : iK F s o (k : Int) l n = some (re (jM n s o k l)) := by
  unfold iK jM
  rw [da (by omega)]
  by_cases h : o = []
  · subst h
    rw [decide_eq_false (p := 0 ≤ ((([] : List Bs).length : Nat) : Int) - 1) (by simp), fO, fO, bx, Bool.false_and, lS, bZ, if_neg (by simp)]; rfl
  · have hp := List.length_pos_iff.2 h
    rw [decide_eq_true (p := 0 ≤ (o.length : Int) - 1) (by omega), kq, kq, cX (by omega), cX (by omega), bx, at_last h, Bool.true_and, List.getLast?_eq_some_getLast h]
    by_cases g : o.getLast h = n
    · rw [decide_eq_true g, mP, bO, ga (by omega), bx, eA (by simp; omega), bx, if_pos (by rw [g])]
      rw [show (o.length : Int) - 1 = ((o.length - 1 : Nat) : Int) by omega, nI, ← List.dropLast_eq_take]; rfl
    · rw [decide_eq_false g, lS, bZ, if_neg (by simpa using g)]; rfl
omit hF in
theorem ib_eq : ∀ s : Bs, (Go.Lib.indexByte s 60 = -1 ∧ (s.takeWhile fun c => decide (c ≠ 60)) = s ∧ (s.dropWhile fun c => decide (c ≠ 60)) = []) ∨
    ∃ i : Nat, Go.Lib.indexByte s 60 = (i : Int) ∧ i < s.length ∧ (s.takeWhile fun c => decide (c ≠ 60)) = s.take i ∧ (s.dropWhile fun c => decide (c ≠ 60)) = s.drop i
  | [] => .inl ⟨rfl, rfl, rfl⟩
  | c :: r => by
    by_cases h : c = 60
    · right; subst h; exact ⟨0, by simp [Go.Lib.indexByte], by simp, by simp, by simp⟩
    · have hb : (c == 60) = false := by simpa using h
      rcases ib_eq r with ⟨h1, h2, h3⟩ | ⟨i, h1, h2, h3, h4⟩
      · left
        refine ⟨by simp [Go.Lib.indexByte, hb, h1], ?_, ?_⟩
        · rw [List.takeWhile_cons, if_pos (by simpa using h), h2]
        · rw [List.dropWhile_cons, if_pos (by simpa using h), h3]
      · right
        refine ⟨i + 1, ?_, by simpa using h2, ?_, ?_⟩
        · have : ¬ ((i : Int) = -1) := by omega
          simp [Go.Lib.indexByte, hb, h1, this]
        · rw [List.takeWhile_cons, if_pos (by simpa using h), h3]; rfl
        · rw [List.dropWhile_cons, if_pos (by simpa using h), h4]; rfl
omit hF in
theorem bl_blk (c : UInt8) : Go.Pn.bl c = cF c := Eq.symm (Eq.symm rfl)
omit hF in
theorem qJ : ∀ s : Bs, decide (Go.Pn.trim s = []) = s.all cF
  | [] => rfl
  | c :: r => by
    rw [Go.Pn.trim, List.all_cons, bl_blk]
    cases cF c with
    | true => rw [jP, Bool.true_and, qJ r]
    | false => rw [eU, Bool.false_and]; simp
def rZ : Rx → Res (Bool × Bs × List Tok)
  | .ok x => .ok (true, x.1, x.2.2.2)
  | .no e => .pan e
theorem sn {s : Bs} {o : List Bs} {k : Nat} {l : List Tok} (i : Nat) (hs : s.length ≤ 100000) (hl : l.length ≤ 1000000) (hi : i ≤ s.length) (h0 : i ≠ 0)
    (e1 : (s.takeWhile fun c => decide (c ≠ 60)) = s.take i) (e2 : (s.dropWhile fun c => decide (c ≠ 60)) = s.drop i) : dR F s o (k : Int) l (i : Int) = some (rZ (eB (dec F) s o k l)) := by
  have h1 : (s.take i).length ≤ 100000 := by rw [List.length_take]; omega
  unfold dR eB
  rw [bF (by omega), ga (by omega), bx, ga (by omega), bx, nI, lG, pm hF h1, e1, e2]
  cases dec F (s.take i) with
  | none => simp only [oR]; rw [bZ]; rfl
  | some t =>
    simp only [oR]
    rw [bO]
    by_cases ho : o = []
    · subst ho
      rw [bT (by simp), Go.Pn.ent_Trim_eq F _ (by omega) (by omega), bD, qJ, if_pos rfl]
      cases (s.take i).all cF with
      | true => rw [mP, bO]; rfl
      | false => rw [lS, bZ]; rfl
    · have := List.length_pos_iff.2 ho
      rw [bF (by omega), se hl, bD, if_neg ho]; rfl
theorem plain_eq {s : Bs} {o : List Bs} {k : Nat} {l : List Tok} (hs : s.length ≤ 100000) (hl : l.length ≤ 1000000) (h0 : s ≠ []) (h : ([60] : Bs).isPrefixOf s = false) :
    fX F s o (k : Int) l = some (rZ (eB (dec F) s o k l)) := by
  have hp := List.length_pos_iff.2 h0
  unfold fX
  rw [bx]
  rcases ib_eq s with ⟨h1, h2, h3⟩ | ⟨i, h1, h2, h3, h4⟩
  · rw [h1, bT (by omega)]
    exact sn hF s.length hs hl (Nat.le_refl _) (by omega) (by rw [List.take_length]; exact h2) (by rw [List.drop_length]; exact h3)
  · rw [h1, bF (by omega)]
    refine sn hF i hs hl (by omega) (fun e => ?_) h3 h4;subst e
    cases s with
    | nil => exact h0 rfl
    | cons c r =>
      by_cases g : c = 60
      · subst g; simp at h
      · have hb : (c == 60) = false := by simpa using g
        have hg := Go.Lib.indexByte_ge r 60
        rw [Go.Lib.indexByte, hb] at h1
        simp only [Bool.false_eq_true, if_false] at h1
        by_cases q : Go.Lib.indexByte r 60 = -1
        · rw [q] at h1; simp at h1
        · simp only [beq_iff_eq, q, if_false] at h1; omega
omit hF in
theorem plain_no {s : Bs} {o : List Bs} {k : Int} {l : List Tok} (h : ([60] : Bs).isPrefixOf s = true) : fX F s o k l = some (.ok (false, s, l)) := by
  cases s with
  | nil => cases h
  | cons c r =>
    have hc : c = 60 := by
      by_cases g : c = 60
      · exact g
      · have : (60 == c) = false := by simpa using fun q => g q.symm
        simp [List.isPrefixOf, this] at h
    subst hc
    have : Go.Lib.indexByte (60 :: r) 60 = 0 := by simp [Go.Lib.indexByte]
    unfold fX
    rw [bx, this, bF (by omega)]
    unfold dR
    rw [bT rfl]
end
end Go.Xm
namespace Go.Xm
open Go.Pv Go.Av
theorem ib_ge (s : Bs) : -1 ≤ Go.Lib.index s [60] := Go.Lib.index_ge s [60]
theorem sv : ∀ s : Bs, Go.Lib.contains s [60] = decide (60 ∈ s)
  | [] => by simp [Go.Lib.contains, Go.Lib.index]
  | c :: r => by
    have ih := sv r
    have hg := ib_ge r
    unfold Go.Lib.contains at ih ⊢
    rw [qW]
    by_cases h : c = 60
    · subst h; simp
    · have hb : (60 == c) = false := by simpa using fun q => h q.symm
      have hm : (60 ∈ c :: r) ↔ 60 ∈ r := by rw [List.mem_cons]; exact ⟨fun q => q.elim (fun e => absurd e.symm h) id, .inr⟩
      rw [if_neg (by simp [List.isPrefixOf, hb]), decide_eq_decide.2 hm, ← ih]
      by_cases g : Go.Lib.index r [60] = -1
      · rw [if_pos g, g]
      · rw [if_neg g]; exact decide_eq_decide.2 (by omega)
def attrR : Option (At × Bs) → Res (Bs × Bs × Bs)
  | none => .pan 2
  | some (a, r) => .ok (a.1, a.2, r)
theorem oK (F : Nat) (as_ : List At) (n v : Bs) (hl : as_.length ≤ 1000000) : ∀ (m i : Nat), as_.length - i < m → i ≤ as_.length → ∃ j : Int, dq F as_ n v m (i : Int) = some j ∧ decide (0 ≤ j) = (as_.drop i).any fun x => decide (x.1 = n)
  | 0, i, h, _ => by omega
  | m + 1, i, h, hi => by
    show ∃ j : Int, dX F as_ n v (dq F as_ n v m) (i : Int) = some j ∧ _
    unfold dX
    by_cases g : i < as_.length
    · rw [bT (by omega), cX (by omega), bx, gb g, aN g, List.any_cons]
      unfold ly
      rw [bD]
      by_cases e : n = as_[i].1
      · rw [decide_eq_true e, jP, decide_eq_true e.symm, Bool.true_or]
        exact ⟨_, rfl, decide_eq_true (by omega)⟩
      · rw [decide_eq_false e, eU, da (by omega), cH, decide_eq_false (fun q => e q.symm), Bool.false_or]
        exact oK F as_ n v hl m (i + 1) (by omega) (by omega)
    · rw [bF (by omega), aO (by omega)]
      exact ⟨-1, rfl, rfl⟩
theorem cont_eq (F : Nat) (as_ : List At) (n v : Bs) (hl : as_.length ≤ 1000000) (hF : as_.length < F) : dZ F as_ n v = some (as_.any fun x => decide (x.1 = n)) := by
  obtain ⟨j, h1, h2⟩ := oK F as_ n v hl F 0 (by omega) (by omega)
  unfold dZ gX
  show bnd (dq F as_ n v F ((0 : Nat) : Int)) _ = _
  rw [h1, bD, h2, List.drop_zero]
section
variable {F : Nat} (hF : 1500000 < F)
include hF
theorem attr_j {s : Bs} {o : List Bs} {k : Int} {l : List Tok} {x : Bs × Bs} (q : UInt8) (hs : s.length ≤ 100000) : fu F o k l x [q] s = some (attrR (lU (dec F) x.1 q s)) := by
  unfold fu lU
  rw [pO (by simp) (by omega)]
  cases e : fC [q] s with
  | none => simp only [cutR]; rw [bZ]; rfl
  | some y =>
    obtain ⟨raw, r⟩ := y
    have hl := congrArg List.length (jk (by simp) e)
    simp only [List.length_append] at hl
    simp only [cutR]
    rw [bO, kD (by simp; omega), bx]
    simp only []
    rw [sv]
    by_cases g : 60 ∈ raw
    · rw [decide_eq_true g, notT, lS, bZ, if_pos g]; rfl
    · rw [decide_eq_false g, notF, mP, bO, if_neg g, pm hF (by omega)]
      cases dec F raw with
      | none => simp only [oR]; rw [bZ]; rfl
      | some t => simp only [oR]; rw [bO]; rfl
theorem attr_eq {s : Bs} {o : List Bs} {k : Int} {l : List Tok} (hs : s.length ≤ 100000) : jF F s o k l = some (attrR (gW (dec F) s)) := by
  unfold jF gW
  rw [pX (by omega) (by omega) (by omega)]
  cases e : dK s with
  | none => simp only [kB]; rw [bZ]; rfl
  | some y =>
    obtain ⟨n, r⟩ := y
    have hl := congrArg List.length (kz e).1
    rw [List.length_append] at hl
    simp only [kB]
    rw [bO]
    simp only []
    by_cases h1 : ([61, 34] : Bs).isPrefixOf r = true
    · rw [io h1, aQ, bnT, if_pos h1]
      exact attr_j hF 34 (by simp; omega)
    · rw [iZ (eq_false_of_ne_true h1), aQ, bnF, if_neg h1]
      by_cases h2 : ([61, 39] : Bs).isPrefixOf r = true
      · rw [io h2, aQ, mP, bO, if_pos h2]
        exact attr_j hF 39 (by simp; omega)
      · rw [iZ (eq_false_of_ne_true h2), aQ, lS, bZ, if_neg h2]; rfl
abbrev ER := Bool × Bs × Int × List Tok × List Bs
def rg : Rx → Res ER
  | .ok x => .ok (true, x.1, (x.2.2.1 : Int), x.2.2.2, x.2.1)
  | .no e => .pan e
omit hF in
theorem so {s n v : Bs} {as_ : List At} {em : Bool} {o : List Bs} {k : Nat} {l : List Tok} (ho : o.length ≤ 20) (hl : l.length ≤ 999000) :
    dC F o l (n, v) em s as_ (k : Int) = some (rg (if 20 ≤ o.length then .no 5 else if em = true then .ok (s, o, k, (l ++ [(0, n, [], as_)]) ++ [(1, n, [], [])]) else .ok (s, o ++ [n], k, l ++ [(0, n, [], as_)]))) := by
  have hn : (o ++ [n]).length = o.length + 1 := by simp
  unfold dC fb
  dsimp only
  rw [eA (by simp; omega), bx]
  by_cases h : 20 ≤ o.length
  · rw [bT (by omega), if_pos h]; rfl
  · rw [bF (by omega), if_neg h]
    unfold fc fe
    dsimp only
    rw [eA (by simp; omega), bx]
    cases em with
    | false => rw [eU, if_neg (by decide)]; rfl
    | true =>
      rw [jP, if_pos rfl, sj (by omega) (by simp; omega)]
      unfold jM
      rw [if_pos (by simp)]
      simp only [re]
      rw [bO]
      simp [eh, rg]
omit hF in
theorem sp {s n v : Bs} {as_ : List At} {em : Bool} {o : List Bs} {k : Nat} {l : List Tok} (ho : o.length ≤ 20) (hl : l.length ≤ 999000) (hk : k ≤ 1) :
    dB F o (k : Int) l (n, v) em s as_ = some (rg (lT n as_ em s o k l)) := by
  unfold dB lT
  by_cases h : o = []
  · subst h
    rw [bT (by simp), da (by omega)]
    by_cases g : k = 0
    · subst g
      rw [decide_eq_true (p := ((0 : Nat) : Int) + 1 = 1) (by omega), mP, bO, if_neg (by simp), if_pos rfl]
      exact so (k := 1) (by simp) hl
    · rw [decide_eq_false (p := (k : Int) + 1 = 1) (by omega), lS, bZ, if_pos ⟨rfl, g⟩]; rfl
  · have := List.length_pos_iff.2 h
    rw [bF (by omega), if_neg (fun q => h q.1), if_neg h]
    exact so ho hl
def elemP' (F : Nat) (n : Bs) (o : List Bs) (k : Nat) (l : List Tok) : Option (List At × Bool × Bs) → Rx
  | none => .no 2
  | some (as_, em, r) => lT n as_ em r o k l
theorem pk {n v : Bs} {o : List Bs} {k : Nat} {l : List Tok} (ho : o.length ≤ 20) (hl : l.length ≤ 999000) (hk : k ≤ 1) : ∀ (m : Nat) (as_ : List At) (s : Bs), s.length < m → as_.length + s.length ≤ 100000 →
    ff F o (k : Int) l (n, v) m (as_, s) = some (rg (elemP' F n o k l (ew (dec F) (s.length + 1) as_ s)))
  | 0, as_, s, h, _ => by omega
  | m + 1, as_, s, h, hs => by
    show fg F o (k : Int) l (n, v) (ff F o (k : Int) l (n, v) m) as_ s = _
    have hd := pN cF s
    unfold fg ew
    rw [oD, aQ]
    by_cases h1 : ([62] : Bs).isPrefixOf (s.dropWhile cF) = true
    · rw [io h1, aQ, jP, if_pos h1]
      exact sp ho hl hk
    · rw [iZ (eq_false_of_ne_true h1), aQ, eU, if_neg h1]
      by_cases h2 : ([47, 62] : Bs).isPrefixOf (s.dropWhile cF) = true
      · rw [io h2, aQ, jP, if_pos h2]
        exact sp ho hl hk
      · rw [iZ (eq_false_of_ne_true h2), aQ, eU, if_neg h2]
        by_cases h3 : (s.dropWhile cF).length = s.length
        · rw [if_pos h3, decide_eq_false (by omega), lS, bZ]; rfl
        · rw [if_neg h3, decide_eq_true (by omega), mP, bO, attr_eq hF (by omega)]
          cases e : gW (dec F) (s.dropWhile cF) with
          | none => simp only [attrR]; rw [bZ]; rfl
          | some y =>
            obtain ⟨a, r⟩ := y
            have hr := ji e
            simp only [attrR]
            rw [bO, cont_eq F as_ _ _ (by omega) (by omega), bD]
            cases hc : as_.any fun x => decide (x.1 = a.1) with
            | true => rw [notT, lS, bZ, if_pos rfl]; rfl
            | false =>
              rw [notF, mP, bO, if_neg (by decide), eA (by simp; omega), bx]
              have := pk (n := n) (v := v) ho hl hk m (as_ ++ [a]) r (by omega) (by simp; omega)
              rw [ka (k := s.length) (m := r.length + 1) (by omega) (by omega)]
              exact this
theorem tE {s : Bs} {o : List Bs} {k : Nat} {l : List Tok} (hs : s.length ≤ 100000) (ho : o.length ≤ 20) (hl : l.length ≤ 999000) (hk : k ≤ 1) (h : ([60] : Bs).isPrefixOf s = true) :
    ft F s o (k : Int) l = some (rg (jO (dec F) (s.drop 1) o k l)) := by
  unfold ft jO
  rw [io h, aQ, bnT, pX (by omega) (by simp; omega) (by simp; omega)]
  show ep (some (kB (dK (s.drop 1)))) _ = _
  cases e : dK (s.drop 1) with
  | none => simp only [kB]; rw [bZ]; rfl
  | some y =>
    obtain ⟨n, r⟩ := y
    have hr := congrArg List.length (kz e).1
    rw [List.length_append, List.length_drop] at hr
    simp only [kB]
    rw [bO]
    refine Eq.trans (pk hF ho hl hk F [] r (by omega) (by simp; omega)) ?_
    cases ew (dec F) (r.length + 1) [] r with
    | none => rfl
    | some z => rfl
def nK : Rx → Res (Bool × Bs)
  | .ok x => .ok (true, x.1)
  | .no e => .pan e
def endR : Rx → Res (Bool × Bs × List Tok × List Bs)
  | .ok x => .ok (true, x.1, x.2.2.2, x.2.1)
  | .no e => .pan e
omit hF in
theorem pT {s p q : Bs} {o : List Bs} {k : Nat} {l : List Tok} (hs : s.length ≤ 1000000) (hp : p ≠ []) : (ep (fD F s o (k : Int) l p) fun x14 => some (Res.ok (true, x14.2))) = some (nK (eZ p s o k l)) := by
  rw [pO hp hs]
  unfold eZ
  cases fC p s with
  | none => simp only [cutR]; rw [bZ]; rfl
  | some y => simp only [cutR]; rw [bO]; rfl
omit hF in
theorem data_eq {s : Bs} {o : List Bs} {k : Nat} {l : List Tok} (hs : s.length ≤ 1000000) (hl : l.length ≤ 1000000) (h : ([60, 33, 91, 67, 68, 65, 84, 65, 91] : Bs).isPrefixOf s = true) :
    iM F s o (k : Int) l = some (rZ (kE (s.drop 9) o k l)) := by
  unfold iM kE
  rw [io h, aQ, bnT, pO (by simp) (by simp; omega)]
  show ep (some (cutR (fC [93, 93, 62] (s.drop 9)))) _ = _
  cases fC [93, 93, 62] (s.drop 9) with
  | none => simp only [cutR]; rw [bZ]; rfl
  | some y =>
    obtain ⟨t, r⟩ := y
    simp only [cutR]
    rw [bO]
    by_cases ho : o = []
    · subst ho
      rw [decide_eq_false (by simp), lS, bZ, if_pos rfl]; rfl
    · have := List.length_pos_iff.2 ho
      rw [decide_eq_true (by omega), mP, bO, se hl, bD, if_neg ho]; rfl
theorem end_eq {s : Bs} {o : List Bs} {k : Nat} {l : List Tok} (hs : s.length ≤ 100000) (ho : o.length ≤ 20) (hl : l.length ≤ 999000) (h : ([60, 47] : Bs).isPrefixOf s = true) :
    fJ F s o (k : Int) l = some (endR (om (s.drop 2) o k l)) := by
  unfold fJ om
  rw [io h, aQ, bnT, pX (by omega) (by simp; omega) (by simp; omega)]
  show ep (some (kB (dK (s.drop 2)))) _ = _
  cases dK (s.drop 2) with
  | none => simp only [kB]; rw [bZ]; rfl
  | some y =>
    obtain ⟨n, r⟩ := y
    simp only [kB]
    rw [bO, oD, aQ]
    simp only []
    by_cases h1 : ([62] : Bs).isPrefixOf (r.dropWhile cF) = true
    · rw [io h1, aQ, mP, bO, if_pos h1, sj (by omega) (by omega)]
      show ep (some (re (jM n ((r.dropWhile cF).drop 1) o k l))) _ = _
      unfold jM
      by_cases g : o.getLast? = some n
      · rw [if_pos g]; simp only [re]; rw [bO]; rfl
      · rw [if_neg g]; simp only [re]; rw [bZ]; rfl
    · rw [iZ (eq_false_of_ne_true h1), aQ, lS, bZ, if_neg h1]; rfl
def stepR : Rx → Res (Bs × Int × List Tok × List Bs)
  | .ok x => .ok (x.1, (x.2.2.1 : Int), x.2.2.2, x.2.1)
  | .no e => .pan e
omit hF in
theorem ke {p s : Bs} {o : List Bs} {k : Nat} {l : List Tok} {x : Sx} (h : eZ p s o k l = .ok x) : x.2 = (o, k, l) := by
  unfold eZ at h
  split at h
  · cases h
  · cases h; rfl
theorem step_eq {s : Bs} {o : List Bs} {k : Nat} {l : List Tok} (h0 : s ≠ []) (hs : s.length ≤ 100000) (ho : o.length ≤ 20) (hl : l.length ≤ 999000) (hk : k ≤ 1) :
    jE F s o (k : Int) l = some (stepR (cJ (dec F) s o k l)) := by
  unfold jE cJ
  by_cases h1 : ([60] : Bs).isPrefixOf s = true
  · rw [plain_no h1, bO, eU, if_neg (by rw [h1]; decide)]
    simp only []
    unfold ge
    by_cases h2 : ([60, 33, 45, 45] : Bs).isPrefixOf s = true
    · rw [io h2, aQ, bnT, pT (q := []) (by simp; omega) (by simp), if_pos h2]
      show ep (some (nK (eZ [45, 45, 62] (s.drop 4) o k l))) _ = _
      cases e : eZ [45, 45, 62] (s.drop 4) o k l with
      | no e => rfl
      | ok x =>
        have := ke e
        obtain ⟨a, b⟩ := x
        simp only at this; subst this
        simp only [nK]; rw [bO]; rfl
    · rw [iZ (eq_false_of_ne_true h2), aQ, bnF, bO, eU, if_neg h2]
      simp only []
      unfold mD
      by_cases h3 : ([60, 63] : Bs).isPrefixOf s = true
      · rw [io h3, aQ, bnT, pT (q := []) (by simp; omega) (by simp), if_pos h3]
        show ep (some (nK (eZ [63, 62] (s.drop 2) o k l))) _ = _
        cases e : eZ [63, 62] (s.drop 2) o k l with
        | no e => rfl
        | ok x =>
          have := ke e
          obtain ⟨a, b⟩ := x
          simp only at this; subst this
          simp only [nK]; rw [bO]; rfl
      · rw [iZ (eq_false_of_ne_true h3), aQ, bnF, bO, eU, if_neg h3]
        simp only []
        by_cases h4 : ([60, 33, 91, 67, 68, 65, 84, 65, 91] : Bs).isPrefixOf s = true
        · rw [data_eq (by omega) (by omega) h4, if_pos h4]
          unfold kE
          cases fC [93, 93, 62] (s.drop 9) with
          | none => rfl
          | some y =>
            obtain ⟨t, r⟩ := y
            simp only []
            by_cases g : o = []
            · rw [if_pos g]; rfl
            · rw [if_neg g]; rfl
        · rw [if_neg h4]
          unfold iM
          rw [iZ (eq_false_of_ne_true h4), aQ, bnF, bO, eU]
          simp only []
          unfold mC
          by_cases h5 : ([60, 33] : Bs).isPrefixOf s = true
          · rw [io h5, aQ, bnT, pT (q := []) (by simp; omega) (by simp), if_pos h5]
            show ep (some (nK (eZ [62] (s.drop 2) o k l))) _ = _
            cases e : eZ [62] (s.drop 2) o k l with
            | no e => rfl
            | ok x =>
              have := ke e
              obtain ⟨a, b⟩ := x
              simp only at this; subst this
              simp only [nK]; rw [bO]; rfl
          · rw [iZ (eq_false_of_ne_true h5), aQ, bnF, bO, eU, if_neg h5]
            simp only []
            by_cases h6 : ([60, 47] : Bs).isPrefixOf s = true
            · rw [end_eq hF hs ho hl h6, if_pos h6]
              unfold om
              cases dK (s.drop 2) with
              | none => rfl
              | some y =>
                obtain ⟨n, r⟩ := y
                simp only []
                by_cases g : ([62] : Bs).isPrefixOf (r.dropWhile cF) = true
                · rw [if_pos g]
                  unfold jM
                  by_cases g2 : o.getLast? = some n
                  · rw [if_pos g2]; rfl
                  · rw [if_neg g2]; rfl
                · rw [if_neg g]; rfl
            · rw [if_neg h6]
              unfold fJ
              rw [iZ (eq_false_of_ne_true h6), aQ, bnF, bO, eU]
              simp only []
              rw [tE hF hs ho hl hk h1]
              cases jO (dec F) (s.drop 1) o k l with
              | no e => rfl
              | ok x => rfl
  · rw [plain_eq hF hs (by omega) h0 (eq_false_of_ne_true h1), if_pos (eq_false_of_ne_true h1)]
    unfold eB
    cases dec F (s.takeWhile fun c => decide (c ≠ 60)) with
    | none => rfl
    | some t =>
      simp only []
      by_cases g : o = []
      · rw [if_pos g]
        cases (s.takeWhile fun c => decide (c ≠ 60)).all cF with
        | true => rw [if_pos rfl]; rfl
        | false => rw [if_neg (by decide)]; rfl
      · rw [if_neg g]; rfl
end
end Go.Xm
namespace Go.Xm
open Go.Pv Go.Av
theorem oC (t : Bs) (l : List Tok) : (mN t l).length ≤ l.length + 1 := by
  unfold mN; split <;> simp
def Kp (o : List Bs) (k : Nat) (l : List Tok) (m : Nat) : Prop := o.length ≤ 20 ∧ k ≤ 1 ∧ l.length ≤ m
theorem pS {p s : Bs} {o : List Bs} {k : Nat} {l : List Tok} {m : Nat} {x : Sx} (h : Kp o k l m) (e : eZ p s o k l = .ok x) : Kp x.2.1 x.2.2.1 x.2.2.2 (m + 2) := by
  have := ke e
  obtain ⟨a, b⟩ := x
  simp only at this; subst this
  obtain ⟨h1, h2, h3⟩ := h;exact ⟨h1, h2, by simp only; omega⟩
theorem sh {d : Bs → Option Bs} {s : Bs} {o : List Bs} {k : Nat} {l : List Tok} {m : Nat} {x : Sx} (h : Kp o k l m) (e : cJ d s o k l = .ok x) : Kp x.2.1 x.2.2.1 x.2.2.2 (m + 2) := by
  obtain ⟨h1, h2, h3⟩ := id h
  unfold cJ at e
  split at e
  · unfold eB at e
    split at e
    · cases e
    · split at e
      · split at e
        · cases e; exact ⟨h1, h2, by simp only; omega⟩
        · cases e
      · rename_i t _ _
        cases e
        have := oC t l
        exact ⟨h1, h2, by simp only; omega⟩
  split at e
  · exact pS h e
  split at e
  · exact pS h e
  split at e
  · unfold kE at e
    split at e
    · cases e
    · split at e
      · cases e
      · rename_i t r _ _
        cases e
        have := oC t l
        exact ⟨h1, h2, by simp only; omega⟩
  split at e
  · exact pS h e
  split at e
  · unfold om at e
    split at e
    · cases e
    · split at e
      · unfold jM at e
        split at e
        · cases e; exact ⟨by simp only [List.length_dropLast]; omega, h2, by simp only [List.length_append, List.length_singleton]; omega⟩
        · cases e
      · cases e
  · unfold jO at e
    split at e
    · cases e
    · split at e
      · cases e
      · unfold lT at e
        split at e
        · cases e
        · rename_i g
          split at e
          · cases e
          · have hk : (if o = [] then k + 1 else k) ≤ 1 := by
              by_cases q : o = []
              · rw [if_pos q]
                have : k = 0 := Classical.byContradiction fun z => g ⟨q, z⟩
                omega
              · rw [if_neg q]; exact h2
            split at e
            · cases e; exact ⟨h1, hk, by simp; omega⟩
            · cases e; exact ⟨by simp; omega, hk, by simp; omega⟩
def tokE : Rx → List Tok × Int
  | .ok (_, o, k, l) => if o = [] ∧ 0 < k then (l, 0) else ([], 2)
  | .no e => ([], e)
theorem pP (d : Bs → Option Bs) (s : Bs) : kZ d s = tokE (eO d (s.length + 1) (s, [], 0, [])) := by
  unfold kZ
  cases eO d (s.length + 1) (s, [], 0, []) with
  | ok x => rfl
  | no e => rfl
theorem qK {F : Nat} (hF : 1500000 < F) : ∀ (n m : Nat) (s : Bs) (o : List Bs) (k : Nat) (l : List Tok), s.length < n → s.length < m → s.length ≤ 100000 → Kp o k l (900000 - 2 * s.length) →
    fT F n (s, o, (k : Int), l) = some (tokE (eO (dec F) m (s, o, k, l)))
  | 0, _, s, o, k, l, h, _, _, _ => by omega
  | _, 0, s, o, k, l, _, h, _, _ => by omega
  | n + 1, m + 1, s, o, k, l, hn, hm, hs, hk => by
    show fU F (fT F n) s o (k : Int) l = _
    unfold fU eO
    by_cases h0 : s = []
    · rw [decide_eq_true h0, bnT, if_pos h0]
      unfold fS tokE
      simp only []
      by_cases ho : o = []
      · subst ho
        by_cases g : 0 < k
        · rw [decide_eq_true (by simp), decide_eq_true (by omega), Bool.and_self, mP, sx, if_pos ⟨rfl, g⟩]
        · rw [decide_eq_true (by simp), decide_eq_false (p := (0 : Int) < (k : Int)) (by omega), Bool.and_false, lS, nE, if_neg fun q => g q.2]
      · have := List.length_pos_iff.2 ho
        rw [decide_eq_false (p := (o.length : Int) = 0) (by omega), Bool.false_and, lS, nE, if_neg fun q => ho q.1]
    · rw [decide_eq_false h0, bnF, if_neg h0, step_eq hF h0 hs hk.1 (by have := hk.2.2; omega) hk.2.1]
      cases e : cJ (dec F) s o k l with
      | no e => simp only [stepR]; rw [nE]; rfl
      | ok x =>
        obtain ⟨s', o', k', l'⟩ := x
        have h1 := kd h0 e
        have h2 := sh hk e
        simp only at h1 h2
        simp only [stepR]
        rw [sx]
        simp only []
        exact qK hF n m s' o' k' l' (by omega) (by omega) (by omega) ⟨h2.1, h2.2.1, by have := h2.2.2; omega⟩
theorem tok_eq {F : Nat} (hF : 1500000 < F) {s : Bs} (hs : s.length ≤ 100000) : gj F s = some (kZ (dec F) s) := by
  unfold gj
  rw [bF (by omega), pP]
  exact qK hF F (s.length + 1) s [] 0 [] (by omega) (by omega) hs ⟨by simp, by omega, by simp⟩
theorem run_kp {d : Bs → Option Bs} : ∀ {n : Nat} {s : Bs} {o : List Bs} {k : Nat} {l : List Tok} {m : Nat} {x : Sx}, s.length ≤ m → Kp o k l (900000 - 2 * m) → m ≤ 100000 → eO d n (s, o, k, l) = .ok x → x.2.2.2.length ≤ 900000
  | 0, s, o, k, l, m, x, _, _, _, h => by cases h
  | n + 1, s, o, k, l, m, x, hs, hk, hm, h => by
    unfold eO at h
    by_cases h0 : s = []
    · rw [if_pos h0] at h; cases h; have := hk.2.2; simp only; omega
    · rw [if_neg h0] at h
      cases e : cJ d s o k l with
      | no e' => rw [e] at h; cases h
      | ok y =>
        rw [e] at h
        obtain ⟨s', o', k', l'⟩ := y
        have h1 := kd h0 e
        have h2 := sh hk e
        have hp := List.length_pos_iff.2 h0
        simp only at h1 h2 h
        exact run_kp (m := m - 1) (by omega) ⟨h2.1, h2.2.1, by have := h2.2.2; omega⟩ (by omega) h
theorem tok_len {d : Bs → Option Bs} {s : Bs} (hs : s.length ≤ 100000) : (kZ d s).1.length ≤ 900000 := by
  rw [pP]
  cases e : eO d (s.length + 1) (s, [], 0, []) with
  | no e => simp [tokE]
  | ok x =>
    have := run_kp (m := s.length) (Nat.le_refl _) ⟨by simp, by omega, by simp⟩ hs e
    obtain ⟨s', o', k', l'⟩ := x;show (if o' = [] ∧ 0 < k' then (l', (0 : Int)) else ([], 2)).1.length ≤ _
    split
    · exact this
    · simp
end Go.Xm
namespace Go.Xm
open Go.Pv Go.Av
instance decBL : DecidableEq (Bs × List At) := instDecidableEqProd
instance decBBL : DecidableEq (Bs × Bs × List At) := instDecidableEqProd
instance decTok : DecidableEq Tok := instDecidableEqProd
theorem awake : gA 2000000 = some true := by decide +kernel
theorem pR {p s : Bs} {o : List Bs} {k : Nat} {l : List Tok} {e : Int} (h : eZ p s o k l = .no e) : e ≠ 0 := by
  unfold eZ at h
  split at h <;> (cases h; try decide)
theorem step_no {d : Bs → Option Bs} {s : Bs} {o : List Bs} {k : Nat} {l : List Tok} {e : Int} (h : cJ d s o k l = .no e) : e ≠ 0 := by
  unfold cJ at h
  split at h
  · unfold eB at h
    split at h
    · cases h; decide
    · split at h
      · split at h <;> (cases h; try decide)
      · cases h
  split at h
  · exact pR h
  split at h
  · exact pR h
  split at h
  · unfold kE at h
    split at h
    · cases h; decide
    · split at h <;> (cases h; try decide)
  split at h
  · exact pR h
  split at h
  · unfold om at h
    split at h
    · cases h; decide
    · split at h
      · unfold jM at h
        split at h <;> (cases h; try decide)
      · cases h; decide
  · unfold jO at h
    split at h
    · cases h; decide
    · split at h
      · cases h; decide
      · unfold lT at h
        split at h
        · cases h; decide
        · split at h
          · cases h; decide
          · split at h <;> cases h
theorem run_no {d : Bs → Option Bs} : ∀ {n : Nat} {x : Sx} {e : Int}, eO d n x = .no e → e ≠ 0
  | 0, x, e, h => by cases h; decide
  | n + 1, (s, o, k, l), e, h => by
    unfold eO at h
    split at h
    · cases h
    · cases g : cJ d s o k l with
      | no e' => rw [g] at h; cases h; exact step_no g
      | ok y => rw [g] at h; exact run_no h
theorem su {α : Type} [DecidableEq α] (a b : α) (l m : List α) : decide (a :: l = b :: m) = (decide (a = b) && decide (l = m)) := by
  by_cases h : a = b
  · by_cases g : l = m
    · rw [decide_eq_true h, decide_eq_true g, decide_eq_true (by rw [h, g])]; rfl
    · rw [decide_eq_true h, decide_eq_false g, decide_eq_false fun q => g (List.cons.inj q).2]; rfl
  · rw [decide_eq_false h, decide_eq_false fun q => h (List.cons.inj q).1]; rfl
theorem mV {α β : Type} [DecidableEq α] [DecidableEq β] (a b : α × β) : decide (a = b) = (decide (a.1 = b.1) && decide (a.2 = b.2)) := by
  obtain ⟨a1, a2⟩ := a;obtain ⟨b1, b2⟩ := b
  by_cases h : a1 = b1
  · by_cases g : a2 = b2
    · rw [decide_eq_true (by rw [h, g] : (a1, a2) = (b1, b2)), decide_eq_true (p := (a1, a2).1 = (b1, b2).1) h, decide_eq_true (p := (a1, a2).2 = (b1, b2).2) g]; rfl
    · rw [decide_eq_false (p := (a1, a2) = (b1, b2)) fun q => g (congrArg Prod.snd q), decide_eq_false (p := (a1, a2).2 = (b1, b2).2) g, Bool.and_false]
  · rw [decide_eq_false (p := (a1, a2) = (b1, b2)) fun q => h (congrArg Prod.fst q), decide_eq_false (p := (a1, a2).1 = (b1, b2).1) h, Bool.false_and]
theorem len_ne {α : Type} [DecidableEq α] {a b : List α} (h : a.length ≠ b.length) : decide (a = b) = false := decide_eq_false fun q => h (by rw [q])
theorem nv (a b : List At) (hl : a.length = b.length) (ha : a.length ≤ 1000000) : ∀ (n i : Nat), a.length - i < n → i ≤ a.length → gy a b n (i : Int) = some (decide (a.drop i = b.drop i))
  | 0, i, h, _ => by omega
  | n + 1, i, h, hi => by
    show gz a b (gy a b n) (i : Int) = _
    unfold gz
    by_cases g : i < a.length
    · rw [bT (by omega), cX (by omega), bx, cX (by omega), bx, gb g, gb (by omega : i < b.length), aN g, aN (by omega : i < b.length), su, mV]
      cases decide (a[i].1 = (b[i]'(by omega)).1) && decide (a[i].2 = (b[i]'(by omega)).2) with
      | false => rw [bnF, Bool.false_and]
      | true => rw [bnT, da (by omega), cH, nv a b hl ha n (i + 1) (by omega) (by omega), Bool.true_and]
    · rw [bF (by omega), aO (by omega), aO (by omega)]; rfl
theorem equal_eq (F : Nat) (a b : List At) (ha : a.length ≤ 1000000) (hF : a.length < F) : kc F a b = some (decide (a = b)) := by
  unfold kc
  by_cases h : a.length = b.length
  · rw [decide_eq_true (by omega), bnT]
    exact nv a b h ha F 0 (by omega) (by omega)
  · rw [decide_eq_false (by omega), bnF, len_ne h]
def AtS (l : List Tok) (m : Nat) : Prop := ∀ t ∈ l, t.2.2.2.length ≤ m
theorem eq_tok (a b : Tok) : decide (a = b) = (((decide (a.1 = b.1) && decide (a.2.1 = b.2.1)) && decide (a.2.2.1 = b.2.2.1)) && decide (a.2.2.2 = b.2.2.2)) := by
  rw [mV, mV a.2 b.2, mV a.2.2 b.2.2, Bool.and_assoc, Bool.and_assoc]
theorem oE (F : Nat) (a b : List Tok) (hl : a.length = b.length) (ha : a.length ≤ 1000000) (hm : AtS a 1000000) (hF : 1000000 < F) : ∀ (n i : Nat), a.length - i < n → i ≤ a.length → dr F a b n (i : Int) = some (decide (a.drop i = b.drop i))
  | 0, i, h, _ => by omega
  | n + 1, i, h, hi => by
    show dY F a b (dr F a b n) (i : Int) = _
    unfold dY
    by_cases g : i < a.length
    · have h1 := hm _ (List.getElem_mem g)
      rw [bT (by omega), cX (by omega), bx, cX (by omega), bx, gb g, gb (by omega : i < b.length), aN g, aN (by omega : i < b.length), su, eq_tok]
      unfold lz
      rw [equal_eq F _ _ h1 (by omega)]
      rw [fN, bD]
      generalize (((decide (a[i].1 = (b[i]'(by omega)).1)) && (decide (a[i].2.1 = (b[i]'(by omega)).2.1))) && (decide (a[i].2.2.1 = (b[i]'(by omega)).2.2.1))) = p
      generalize decide (a[i].2.2.2 = (b[i]'(by omega)).2.2.2) = q
      have go := oE F a b hl ha hm hF n (i + 1) (by omega) (by omega)
      cases p with
      | false => rw [Bool.false_and, bnF, Bool.false_and, Bool.false_and]
      | true =>
        cases q with
        | false => rw [jP, Bool.true_and, bnF, Bool.false_and]
        | true => rw [jP, Bool.true_and, bnT, da (by omega), cH, go, Bool.true_and]
    · rw [bF (by omega), aO (by omega), aO (by omega)]; rfl
theorem Same_eq (F : Nat) (a b : List Tok) (ha : a.length ≤ 1000000) (hm : AtS a 1000000) (hF : 1000000 < F) : kv F a b = some (decide (a = b)) := by
  unfold kv gY
  by_cases h : a.length = b.length
  · rw [decide_eq_true (by omega), bnT]
    have : dr F a b F 0 = _ := oE F a b h ha hm hF F 0 (by omega) (by omega)
    rw [this, bD, List.drop_zero, List.drop_zero]
  · rw [decide_eq_false (by omega), bnF, bD, len_ne h]
theorem mB {d : Bs → Option Bs} : ∀ {k : Nat} {as_ : List At} {s : Bs} {bs : List At} {e : Bool} {r : Bs}, ew d k as_ s = some (bs, e, r) → bs.length ≤ as_.length + s.length
  | 0, _, _, _, _, _, h => by cases h
  | k + 1, as_, s, bs, e, r, h => by
    have hd := pN cF s
    unfold ew at h
    split at h
    · cases h; omega
    · split at h
      · cases h; omega
      · split at h
        · cases h
        · cases ea : gW d (s.dropWhile cF) with
          | none => rw [ea] at h; cases h
          | some x =>
            obtain ⟨a, r'⟩ := x
            rw [ea] at h
            simp only at h
            have h1 := ji ea
            split at h
            · cases h
            · have := mB h
              rw [List.length_append, List.length_singleton] at this
              omega
theorem lN {l : List Tok} {m : Nat} (h : AtS l m) {t : Tok} (ht : t.2.2.2.length ≤ m) : AtS (l ++ [t]) m := fun x hx => by
  rcases List.mem_append.1 hx with hx | hx
  · exact h x hx
  · rw [List.mem_singleton.1 hx]; exact ht
theorem rd {l : List Tok} {m : Nat} (h : AtS l m) (t : Bs) : AtS (mN t l) m := by
  unfold mN
  split
  · exact h
  · exact lN h (by simp)
theorem ats_step {d : Bs → Option Bs} {s : Bs} {o : List Bs} {k : Nat} {l : List Tok} {m : Nat} {x : Sx} (h : AtS l m) (hs : s.length ≤ m) (e : cJ d s o k l = .ok x) : AtS x.2.2.2 m := by
  have sk : ∀ {p s' : Bs} {y : Sx}, eZ p s' o k l = .ok y → AtS y.2.2.2 m := fun q => by
    rw [ke q]; exact h
  unfold cJ at e
  split at e
  · unfold eB at e
    split at e
    · cases e
    · split at e
      · split at e
        · cases e; exact h
        · cases e
      · cases e; exact rd h _
  split at e
  · exact sk e
  split at e
  · exact sk e
  split at e
  · unfold kE at e
    split at e
    · cases e
    · split at e
      · cases e
      · cases e; exact rd h _
  split at e
  · exact sk e
  split at e
  · unfold om at e
    split at e
    · cases e
    · split at e
      · unfold jM at e
        split at e
        · cases e; exact lN h (by simp)
        · cases e
      · cases e
  · unfold jO at e
    split at e
    · cases e
    · rename_i n r en
      have hr := congrArg List.length (kz en).1
      rw [List.length_append, List.length_drop] at hr
      split at e
      · cases e
      · rename_i as_ em r' ea
        have ha := mB ea
        rw [List.length_nil] at ha
        have ha' : as_.length ≤ m := by omega
        unfold lT at e
        split at e
        · cases e
        · split at e
          · cases e
          · split at e
            · cases e; exact lN (lN h ha') (by simp)
            · cases e; exact lN h ha'
theorem sz {d : Bs → Option Bs} {m : Nat} : ∀ {n : Nat} {x y : Sx}, AtS x.2.2.2 m → x.1.length ≤ m → eO d n x = .ok y → AtS y.2.2.2 m
  | 0, _, _, _, _, h => by cases h
  | n + 1, (s, o, k, l), y, ha, hs, h => by
    unfold eO at h
    by_cases h0 : s = []
    · rw [if_pos h0] at h; cases h; exact ha
    · rw [if_neg h0] at h
      cases e : cJ d s o k l with
      | no e' => rw [e] at h; cases h
      | ok z =>
        rw [e] at h
        have h1 := kd h0 e
        exact sz (ats_step ha hs e) (by simp only at hs; omega) h
theorem tok_ats {d : Bs → Option Bs} {s : Bs} {m : Nat} (hs : s.length ≤ m) : AtS (kZ d s).1 m := by
  rw [pP]
  cases e : eO d (s.length + 1) (s, [], 0, []) with
  | no e => exact fun t ht => by cases ht
  | ok x =>
    have := sz (m := m) (x := (s, [], 0, [])) (fun t ht => by cases ht) hs e
    obtain ⟨s', o', k', l'⟩ := x;show AtS (if o' = [] ∧ 0 < k' then (l', (0 : Int)) else ([], 2)).1 m
    split
    · exact this
    · exact fun t ht => by cases ht
theorem dec_blk (F : Nat) (w : Bs) (h : w.all cF = true) : (dec F w).isSome = true := by
  have : (w.any fun c => decide (c = 38)) = false := by
    rw [List.any_eq_false]
    intro c hc
    have := List.all_eq_true.1 h c hc
    intro q
    rw [of_decide_eq_true q] at this
    revert this; decide
  unfold dec
  rw [Go.Pn.no_amp F w this]; rfl
end Go.Xm
namespace Go.Xm
theorem pU {p s : Bs} (h : p.isPrefixOf s = true) : p.length ≤ s.length := by
  have := congrArg List.length (cU h)
  rw [List.length_append] at this
  omega
theorem fE {p s : Bs} (C : Bs) (h : p.isPrefixOf s = true) : p.isPrefixOf (s ++ C) = true := by
  rw [List.isPrefixOf_iff_prefix] at h ⊢
  obtain ⟨t, rfl⟩ := h;exact ⟨t ++ C, by simp⟩
theorem dL {p s : Bs} (C : Bs) {k : Nat} (hk : p.length = k) (h : p.isPrefixOf s = true) : (s ++ C).drop k = s.drop k ++ C := by
  have := pU h
  exact List.drop_append_of_le_length (by omega)
theorem gI {p s : Bs} (C : Bs) (hl : p.length ≤ s.length) : p.isPrefixOf (s ++ C) = p.isPrefixOf s := by
  cases h : p.isPrefixOf s with
  | true => exact fE C h
  | false =>
    cases g : p.isPrefixOf (s ++ C) with
    | false => rfl
    | true =>
      rw [List.isPrefixOf_iff_prefix] at g
      have : p <+: s := List.prefix_of_prefix_length_le g (List.prefix_append s C) hl
      rw [← List.isPrefixOf_iff_prefix, h] at this
      cases this
theorem oH {p s : Bs} (C : Bs) (h : p.isPrefixOf s = false) (g : p.isPrefixOf (s ++ C) = true) : ∃ t, p = s ++ t ∧ t ≠ [] := by
  by_cases hl : p.length ≤ s.length
  · rw [gI C hl, h] at g; cases g
  · rw [List.isPrefixOf_iff_prefix] at g
    have : s <+: p := List.prefix_of_prefix_length_le (List.prefix_append s C) g (by omega)
    obtain ⟨t, ht⟩ := this;refine ⟨t, ht.symm, fun e => ?_⟩
    rw [e, List.append_nil] at ht
    rw [ht] at hl
    omega
theorem mW {p : Bs} (hp : p ≠ []) (C : Bs) : ∀ {s a b : Bs}, fC p s = some (a, b) → fC p (s ++ C) = some (a, b ++ C)
  | [], a, b, h => by unfold fC at h; rw [if_neg hp] at h; cases h
  | c :: r, a, b, h => by
    have hl := congrArg List.length (jk hp h)
    rw [List.length_append, List.length_append] at hl
    have e := gI (p := p) (s := c :: r) C (by omega)
    show fC p (c :: (r ++ C)) = _
    unfold fC at h ⊢
    rw [← List.cons_append, e]
    by_cases g : p.isPrefixOf (c :: r) = true
    · rw [if_pos g] at h ⊢
      cases h
      rw [List.drop_append_of_le_length (pU g)]
    · rw [if_neg g] at h ⊢
      cases er : fC p r with
      | none => rw [er] at h; cases h
      | some x =>
        obtain ⟨a', b'⟩ := x
        rw [er] at h
        rw [mW hp C er]
        cases h; rfl
theorem rc {p : Bs} {c : UInt8} (hc : c ∈ p) : ∀ {s : Bs}, c ∉ s → fC p s = none
  | [], h => by unfold fC; rw [if_neg (fun e => by rw [e] at hc; cases hc)]
  | x :: r, h => by
    unfold fC
    rw [if_neg (fun g => by
      have := cU g
      exact h (this ▸ List.mem_append_left _ hc)), rc hc (fun z => h (List.mem_cons_of_mem _ z))]
theorem nH (f : UInt8 → Bool) (C : Bs) : ∀ {s : Bs}, s.dropWhile f ≠ [] → (s ++ C).takeWhile f = s.takeWhile f ∧ (s ++ C).dropWhile f = s.dropWhile f ++ C
  | [], h => absurd rfl h
  | c :: r, h => by
    by_cases g : f c = true
    · have h' : r.dropWhile f ≠ [] := by rwa [List.dropWhile_cons, if_pos g] at h
      obtain ⟨h1, h2⟩ := nH f C h'
      rw [List.cons_append, List.takeWhile_cons, if_pos g, List.dropWhile_cons, if_pos g, List.takeWhile_cons, if_pos g, List.dropWhile_cons, if_pos g, h1, h2]
      exact ⟨rfl, rfl⟩
    · rw [List.cons_append, List.takeWhile_cons, if_neg g, List.dropWhile_cons, if_neg g, List.takeWhile_cons, if_neg g, List.dropWhile_cons, if_neg g]
      exact ⟨rfl, rfl⟩
theorem qf (f : UInt8 → Bool) (C : Bs) : ∀ {s : Bs}, s.dropWhile f = [] → (s ++ C).takeWhile f = s ++ C.takeWhile f ∧ (s ++ C).dropWhile f = C.dropWhile f
  | [], h => ⟨rfl, rfl⟩
  | c :: r, h => by
    by_cases g : f c = true
    · rw [List.dropWhile_cons, if_pos g] at h
      obtain ⟨h1, h2⟩ := qf f C h
      rw [List.cons_append, List.takeWhile_cons, if_pos g, List.dropWhile_cons, if_pos g, h1, h2]
      exact ⟨rfl, rfl⟩
    · rw [List.dropWhile_cons, if_neg g] at h; cases h
theorem lY {s n r : Bs} (C : Bs) (h : dK s = some (n, r)) (hr : r ≠ []) : dK (s ++ C) = some (n, r ++ C) := by
  unfold dK at h ⊢
  split at h
  · rename_i g
    cases h
    obtain ⟨h1, h2⟩ := nH ii C hr
    rw [h1, h2, if_pos g]
  · cases h
section
variable {dec : Bs → Option Bs}
theorem pq {n s : Bs} {q : UInt8} {a : At} {r : Bs} (C : Bs) (h : lU dec n q s = some (a, r)) : lU dec n q (s ++ C) = some (a, r ++ C) := by
  unfold lU at h ⊢
  cases e : fC [q] s with
  | none => rw [e] at h; cases h
  | some x =>
    obtain ⟨raw, r'⟩ := x
    rw [e] at h
    rw [mW (by simp) C e]
    simp only at h ⊢
    split at h
    · cases h
    · rename_i g
      rw [if_neg g]
      cases ed : dec raw with
      | none => rw [ed] at h; cases h
      | some t => rw [ed] at h; cases h; rfl
theorem tI {s : Bs} {a : At} {r : Bs} (C : Bs) (h : gW dec s = some (a, r)) : gW dec (s ++ C) = some (a, r ++ C) := by
  unfold gW at h ⊢
  cases e : dK s with
  | none => rw [e] at h; cases h
  | some x =>
    obtain ⟨n, r'⟩ := x
    rw [e] at h
    simp only at h
    have hr : r' ≠ [] := by
      intro z
      rw [z, if_neg (by decide), if_neg (by decide)] at h
      cases h
    rw [lY C e hr]
    simp only
    split at h
    · rename_i g
      rw [if_pos (fE C g), dL (k := 2) C rfl g]
      exact pq C h
    · rename_i g
      split at h
      · rename_i g2
        have hl := pU g2
        rw [gI C (p := [61, 34]) hl, if_neg g, if_pos (fE C g2), dL (k := 2) C rfl g2]
        exact pq C h
      · cases h
theorem po (C : Bs) : ∀ {k : Nat} {as_ : List At} {s : Bs} {bs : List At} {e : Bool} {r : Bs}, ew dec k as_ s = some (bs, e, r) → ew dec k as_ (s ++ C) = some (bs, e, r ++ C)
  | 0, _, _, _, _, _, h => by cases h
  | k + 1, as_, s, bs, e, r, h => by
    have hne : s.dropWhile cF ≠ [] := by
      intro z
      unfold ew at h
      rw [z, if_neg (by decide), if_neg (by decide)] at h
      split at h
      · cases h
      · have : gW dec [] = none := by unfold gW dK; rfl
        rw [this] at h
        cases h
    obtain ⟨_, hd⟩ := nH cF C hne
    unfold ew at h ⊢
    rw [hd]
    split at h
    · rename_i g
      cases h
      rw [if_pos (fE C g), dL (k := 1) C rfl g]
    · rename_i g
      have g' : ¬ ([62] : Bs).isPrefixOf (s.dropWhile cF ++ C) = true := by
        rw [gI C (p := [62]) (s := s.dropWhile cF) (List.length_pos_iff.2 hne)]
        exact g
      rw [if_neg g']
      split at h
      · rename_i g2
        cases h
        rw [if_pos (fE C g2), dL (k := 2) C rfl g2]
      · rename_i g2
        split at h
        · cases h
        · rename_i g3
          cases ea : gW dec (s.dropWhile cF) with
          | none => rw [ea] at h; cases h
          | some x =>
            obtain ⟨a, r'⟩ := x
            have hal := ji ea
            have g2' : ¬ ([47, 62] : Bs).isPrefixOf (s.dropWhile cF ++ C) = true := by
              intro z
              have hf : ([47, 62] : Bs).isPrefixOf (s.dropWhile cF) = false := by
                cases q : ([47, 62] : Bs).isPrefixOf (s.dropWhile cF) with
                | false => rfl
                | true => exact absurd q g2
              obtain ⟨t, ht, htn⟩ := oH C hf z
              have hone : s.dropWhile cF = [47] := by
                cases hs : s.dropWhile cF with
                | nil => exact absurd hs hne
                | cons c w =>
                  rw [hs] at ht
                  simp only [List.cons_append, List.cons.injEq] at ht
                  cases w with
                  | nil => rw [ht.1]
                  | cons d v =>
                    have := congrArg List.length ht.2
                    have hp := List.length_pos_iff.2 htn
                    simp only [List.length_append, List.length_cons, List.length_nil] at this
                    omega
              rw [hone] at ea
              have : gW dec [47] = none := by unfold gW dK; rfl
              rw [this] at ea; cases ea
            rw [ea] at h
            rw [if_neg g2', if_neg (by rw [List.length_append, List.length_append]; omega), tI C ea]
            simp only at h ⊢
            split at h
            · cases h
            · rename_i g4
              rw [if_neg g4]
              exact po C h
theorem nB {p s : Bs} (hp : p ≠ []) (C : Bs) {o : List Bs} {k : Nat} {l : List Tok} {x : Sx} (h : eZ p s o k l = .ok x) : eZ p (s ++ C) o k l = .ok (x.1 ++ C, x.2) := by
  unfold eZ at h ⊢
  cases e : fC p s with
  | none => rw [e] at h; cases h
  | some y =>
    obtain ⟨a, b⟩ := y
    rw [e] at h
    rw [mW hp C e]
    cases h; rfl
theorem name_not {c : UInt8} (w : Bs) (h : ii c = false) : dK (c :: w) = none := by
  unfold dK
  rw [List.takeWhile_cons, h]; rfl
theorem elem_app {s : Bs} (C : Bs) {o : List Bs} {k : Nat} {l : List Tok} {x : Sx} (h : jO dec s o k l = .ok x) : jO dec (s ++ C) o k l = .ok (x.1 ++ C, x.2) := by
  unfold jO at h ⊢
  cases e : dK s with
  | none => rw [e] at h; cases h
  | some y =>
    obtain ⟨n, r⟩ := y
    rw [e] at h
    simp only at h
    have hr : r ≠ [] := by
      intro z
      rw [z] at h
      have : ew dec (([] : Bs).length + 1) [] [] = none := rfl
      rw [this] at h; cases h
    rw [lY C e hr]
    simp only
    cases ea : ew dec (r.length + 1) [] r with
    | none => rw [ea] at h; cases h
    | some z =>
      obtain ⟨as_, em, r'⟩ := z
      rw [ea] at h
      have := ka (dec := dec) (k := r.length + 1) (m := (r ++ C).length + 1) (as_ := []) (s := r) (by omega) (by rw [List.length_append]; omega)
      rw [this] at ea
      rw [po C ea]
      simp only at h ⊢
      unfold lT at h ⊢
      split at h
      · cases h
      · rename_i g1
        rw [if_neg g1]
        split at h
        · cases h
        · rename_i g2
          rw [if_neg g2]
          split at h
          · rename_i g3
            rw [if_pos g3]; cases h; rfl
          · rename_i g3
            rw [if_neg g3]; cases h; rfl
theorem end_app {s : Bs} (C : Bs) {o : List Bs} {k : Nat} {l : List Tok} {x : Sx} (h : om s o k l = .ok x) : om (s ++ C) o k l = .ok (x.1 ++ C, x.2) := by
  unfold om at h ⊢
  cases e : dK s with
  | none => rw [e] at h; cases h
  | some y =>
    obtain ⟨n, r⟩ := y
    rw [e] at h
    simp only at h
    have hd : r.dropWhile cF ≠ [] := by
      intro z
      rw [z, if_neg (by decide)] at h; cases h
    have hr : r ≠ [] := by intro z; rw [z] at hd; exact hd rfl
    rw [lY C e hr]
    simp only
    rw [(nH cF C hd).2]
    split at h
    · rename_i g
      rw [if_pos (fE C g), dL (k := 1) C rfl g]
      unfold jM at h ⊢
      split at h
      · rename_i g2
        rw [if_pos g2]; cases h; rfl
      · cases h
    · cases h
theorem data_app {s : Bs} (C : Bs) {o : List Bs} {k : Nat} {l : List Tok} {x : Sx} (h : kE s o k l = .ok x) : kE (s ++ C) o k l = .ok (x.1 ++ C, x.2) := by
  unfold kE at h ⊢
  cases e : fC [93, 93, 62] s with
  | none => rw [e] at h; cases h
  | some y =>
    obtain ⟨a, b⟩ := y
    rw [e] at h
    rw [mW (by simp) C e]
    simp only at h ⊢
    split at h
    · cases h
    · rename_i g
      rw [if_neg g]; cases h; rfl
theorem ik {p s : Bs} (C : Bs) (h : ¬ p.isPrefixOf s = true) (hno : ∀ t, p = s ++ t → t ≠ [] → False) : ¬ p.isPrefixOf (s ++ C) = true := fun z => by
  have hf : p.isPrefixOf s = false := by
    cases q : p.isPrefixOf s with
    | false => rfl
    | true => exact absurd q h
  obtain ⟨t, h1, h2⟩ := oH C hf z;exact hno t h1 h2
theorem lB {s : Bs} (C : Bs) {o : List Bs} {k : Nat} {l : List Tok} {x : Sx} (h : cJ dec s o k l = .ok x) (hs : x.1 ≠ [] ∨ ([60] : Bs).isPrefixOf s = true) : cJ dec (s ++ C) o k l = .ok (x.1 ++ C, x.2) := by
  cases h60 : ([60] : Bs).isPrefixOf s with
  | false =>
    have hx : x.1 ≠ [] := by
      rcases hs with g | g
      · exact g
      · rw [h60] at g; cases g
    unfold cJ at h ⊢
    rw [if_pos h60] at h
    have hxd : x.1 = s.dropWhile fun c => decide (c ≠ 60) := by
      unfold eB at h
      split at h
      · cases h
      · split at h
        · split at h
          · cases h; rfl
          · cases h
        · cases h; rfl
    rw [hxd] at hx ⊢
    obtain ⟨t1, t2⟩ := nH (fun c => decide (c ≠ 60)) C hx
    have hsn : s ≠ [] := fun e => by rw [e] at hx; exact hx rfl
    rw [gI C (p := [60]) (List.length_pos_iff.2 hsn), if_pos h60]
    unfold eB at h ⊢
    rw [t1, t2]
    cases ed : dec (s.takeWhile fun c => decide (c ≠ 60)) with
    | none => rw [ed] at h; cases h
    | some t =>
      rw [ed] at h
      simp only at h ⊢
      split at h
      · rename_i g
        rw [if_pos g]
        split at h
        · rename_i g2
          rw [if_pos g2]; cases h; rfl
        · cases h
      · rename_i g
        rw [if_neg g]; cases h; rfl
  | true =>
    unfold cJ at h ⊢
    have ne1 : ¬ ([60] : Bs).isPrefixOf s = false := by rw [h60]; decide
    have ne2 : ¬ ([60] : Bs).isPrefixOf (s ++ C) = false := by rw [fE C h60]; decide
    rw [if_neg ne1] at h
    rw [if_neg ne2]
    split at h
    · rename_i g
      rw [if_pos (fE C g), dL (k := 4) C rfl g]
      exact nB (by simp) C h
    rename_i n1
    split at h
    · rename_i g
      have hn : ¬ ([60, 33, 45, 45] : Bs).isPrefixOf (s ++ C) = true := by
        rw [cU g]; simp
      rw [if_neg hn, if_pos (fE C g), dL (k := 2) C rfl g]
      exact nB (by simp) C h
    rename_i n2
    split at h
    · rename_i g
      have hn : ¬ ([60, 33, 45, 45] : Bs).isPrefixOf (s ++ C) = true := by
        rw [cU g]; simp
      have hn2 : ¬ ([60, 63] : Bs).isPrefixOf (s ++ C) = true := by
        rw [cU g]; simp
      rw [if_neg hn, if_neg hn2, if_pos (fE C g), dL (k := 9) C rfl g]
      exact data_app C h
    rename_i n3
    split at h
    · rename_i g
      have no : ∀ p : Bs, (62 : UInt8) ∉ p → ∀ t, p = s ++ t → t ≠ [] → False := fun p hp t e _ => by
        have : (62 : UInt8) ∉ s.drop 2 := fun z => hp (by rw [e]; exact List.mem_append_left _ (List.mem_of_mem_drop z))
        unfold eZ at h
        rw [rc (by simp) this] at h
        cases h
      have hn2 : ¬ ([60, 63] : Bs).isPrefixOf (s ++ C) = true := by
        rw [cU g]; simp
      rw [if_neg (ik C n1 (no _ (by decide))), if_neg hn2, if_neg (ik C n3 (no _ (by decide))), if_pos (fE C g), dL (k := 2) C rfl g]
      exact nB (by simp) C h
    rename_i n4
    split at h
    · rename_i g
      have hn : ¬ ([60, 33, 45, 45] : Bs).isPrefixOf (s ++ C) = true := by
        rw [cU g]; simp
      have hn2 : ¬ ([60, 63] : Bs).isPrefixOf (s ++ C) = true := by
        rw [cU g]; simp
      have hn3 : ¬ ([60, 33, 91, 67, 68, 65, 84, 65, 91] : Bs).isPrefixOf (s ++ C) = true := by
        rw [cU g]; simp
      have hn4 : ¬ ([60, 33] : Bs).isPrefixOf (s ++ C) = true := by
        rw [cU g]; simp
      rw [if_neg hn, if_neg hn2, if_neg hn3, if_neg hn4, if_pos (fE C g), dL (k := 2) C rfl g]
      exact end_app C h
    · rename_i n5
      have no : ∀ (c : UInt8) (w : Bs), ii c = false → ∀ t, 60 :: c :: w = s ++ t → t ≠ [] → False := fun c w hc t e ht => by
        have hs1 := cU h60
        have hd : dK (s.drop 1) = none := by
          rw [hs1] at e
          simp only [List.cons_append, List.nil_append, List.length_cons, List.length_nil, Nat.zero_add, List.cons.injEq, true_and] at e
          cases hsd : s.drop 1 with
          | nil => rfl
          | cons a b =>
            rw [hsd] at e
            simp only [List.cons_append, List.cons.injEq] at e
            rw [← e.1]
            exact name_not b hc
        unfold jO at h
        rw [hd] at h
        cases h
      rw [if_neg (ik C n1 (no 33 _ (by decide))), if_neg (ik C n2 (no 63 _ (by decide))), if_neg (ik C n3 (no 33 _ (by decide))), if_neg (ik C n4 (no 33 _ (by decide))), if_neg (ik C n5 (no 47 _ (by decide))), dL (k := 1) C rfl h60]
      exact elem_app C h
end
end Go.Xm
namespace Go.Xm
section
variable {dec : Bs → Option Bs}
def Aft (C : Bs) : Prop := C = [] ∨ ([60] : Bs).isPrefixOf C = true ∨ (C ≠ [] ∧ C.all cF = true)
theorem sd (f : UInt8 → Bool) : ∀ {s : Bs}, s.dropWhile f = [] → s.takeWhile f = s
  | [], _ => rfl
  | c :: r, h => by
    by_cases g : f c = true
    · rw [List.dropWhile_cons, if_pos g] at h
      rw [List.takeWhile_cons, if_pos g, sd f h]
    · rw [List.dropWhile_cons, if_neg g] at h; cases h
theorem blk_lt {s : Bs} (h : s.all cF = true) : s.takeWhile (fun c => decide (c ≠ 60)) = s ∧ s.dropWhile (fun c => decide (c ≠ 60)) = [] := by
  induction s with
  | nil => exact ⟨rfl, rfl⟩
  | cons c r ih =>
    rw [List.all_cons, Bool.and_eq_true] at h
    obtain ⟨i1, i2⟩ := ih h.2
    have hc : c ≠ 60 := fun e => by rw [e] at h; exact absurd h.1 (by decide)
    have hd : decide (c ≠ 60) = true := decide_eq_true hc
    constructor
    · rw [List.takeWhile_cons, hd, if_pos rfl, i1]
    · rw [List.dropWhile_cons, hd, if_pos rfl, i2]
theorem blk_step (hdec : ∀ w : Bs, w.all cF = true → (dec w).isSome = true) {s : Bs} (h : s.all cF = true) (k : Nat) (l : List Tok) : eB dec s [] k l = .ok ([], [], k, l) := by
  obtain ⟨h1, h2⟩ := blk_lt h
  unfold eB
  rw [h1, h2]
  cases e : dec s with
  | none => have := hdec s h; rw [e] at this; cases this
  | some t =>
    simp only
    rw [if_pos trivial, if_pos h]
theorem sc {s : Bs} (hs : s ≠ []) (h : s.all cF = true) : ([60] : Bs).isPrefixOf s = false := by
  cases s with
  | nil => exact absurd rfl hs
  | cons c r =>
    rw [List.all_cons, Bool.and_eq_true] at h
    have hc : c ≠ 60 := fun e => by rw [e] at h; exact absurd h.1 (by decide)
    have : (60 == c) = false := by simpa using fun e => hc e.symm
    simp [List.isPrefixOf, this]
theorem hN (n : Nat) (x : List Bs × Nat × List Tok) : eO dec (n + 1) ([], x) = .ok ([], x) := by
  unfold eO; rw [if_pos rfl]
theorem mR (hdec : ∀ w : Bs, w.all cF = true → (dec w).isSome = true) {s : Bs} (h : s.all cF = true) (k : Nat) (l : List Tok) (n : Nat) (hn : 2 ≤ n) : eO dec n (s, [], k, l) = .ok ([], [], k, l) := by
  obtain ⟨n, rfl⟩ : ∃ m, n = m + 1 + 1 := ⟨n - 2, by omega⟩
  by_cases hs : s = []
  · rw [hs]; exact hN _ _
  · unfold eO
    rw [if_neg hs]
    unfold cJ
    rw [if_pos (sc hs h), blk_step hdec h]
    exact hN _ _
theorem sm (hdec : ∀ w : Bs, w.all cF = true → (dec w).isSome = true) (C : Bs) (hC : Aft C) : ∀ (n m : Nat) (s : Bs) (o : List Bs) (k : Nat) (l : List Tok) (y : Sx), s.length < n → (s ++ C).length + 1 < m → eO dec n (s, o, k, l) = .ok y → y.2.1 = [] →
    eO dec m (s ++ C, o, k, l) = eO dec m (C, y.2)
  | 0, m, s, o, k, l, y, hn, _, _, _ => by omega
  | n + 1, m, s, o, k, l, y, hn, hm, hr, hy => by
    by_cases hs : s = []
    · subst hs
      rw [hN] at hr
      cases hr; rfl
    · obtain ⟨m, rfl⟩ : ∃ q, m = q + 1 := ⟨m - 1, by omega⟩
      have hsc : s ++ C ≠ [] := by simp [hs]
      unfold eO at hr
      rw [if_neg hs] at hr
      cases es : cJ dec s o k l with
      | no e => rw [es] at hr; cases hr
      | ok x =>
        rw [es] at hr
        simp only at hr
        have hl := kd hs es
        have hC1 : C.length < m := by rw [List.length_append] at hm; have := List.length_pos_iff.2 hs; omega
        by_cases hx : x.1 ≠ [] ∨ ([60] : Bs).isPrefixOf s = true
        · have e1 : eO dec (m + 1) (s ++ C, o, k, l) = eO dec m (x.1 ++ C, x.2) := by
            rw [eO, if_neg hsc, lB C es hx]
          obtain ⟨x1, x2, x3, x4⟩ := x
          rw [e1, sm hdec C hC n m x1 x2 x3 x4 y (by simp only at hl; omega) (by rw [List.length_append] at hm ⊢; simp only at hl; omega) hr hy]
          exact kf (by simp only; omega) (by simp only; omega)
        · have hx1 : x.1 = [] := by
            by_cases q : x.1 = []
            · exact q
            · exact absurd (.inl q) hx
          have h60 : ([60] : Bs).isPrefixOf s = false := by
            cases q : ([60] : Bs).isPrefixOf s with
            | false => rfl
            | true => exact absurd (.inr q) hx
          have hxy : y = x := by
            obtain ⟨x1, x2⟩ := x
            simp only at hx1
            subst hx1;obtain ⟨q, rfl⟩ : ∃ q, n = q + 1 := ⟨n - 1, by have := List.length_pos_iff.2 hs; omega⟩
            rw [hN] at hr
            cases hr; rfl
          subst hxy
          have hst := es
          unfold cJ at es
          rw [if_pos h60] at es
          -- the text is all blank, and nothing is open
          have hall : o = [] ∧ s.all cF = true ∧ y.2 = ([], k, l) := by
            unfold eB at es
            split at es
            · cases es
            · split at es
              · rename_i g
                split at es
                · rename_i g2
                  cases es
                  have := sd _ hx1
                  rw [this] at g2
                  exact ⟨g, g2, by rw [g]⟩
                · cases es
              · rename_i g
                cases es
                exact absurd hy g
          obtain ⟨ho, hb, hy2⟩ := hall;subst ho
          rw [hy2]
          rcases hC with hC | hC | ⟨hC, hCb⟩
          · subst hC
            rw [List.append_nil, hN]
            exact mR hdec hb k l (m + 1) (by have := List.length_pos_iff.2 hs; rw [List.append_nil] at hm; omega)
          · have e1 : cJ dec (s ++ C) [] k l = .ok (C, [], k, l) := by
              unfold cJ
              rw [gI C (p := [60]) (List.length_pos_iff.2 hs), if_pos h60]
              obtain ⟨b1, b2⟩ := blk_lt hb;obtain ⟨t1, t2⟩ := qf (fun c => decide (c ≠ 60)) C b2
              have hC0 : C.takeWhile (fun c => decide (c ≠ 60)) = [] ∧ C.dropWhile (fun c => decide (c ≠ 60)) = C := by
                rw [cU hC]
                exact ⟨rfl, rfl⟩
              unfold eB
              rw [t1, t2, hC0.1, hC0.2, List.append_nil]
              cases ed : dec s with
              | none => have := hdec s hb; rw [ed] at this; cases this
              | some t =>
                simp only
                rw [if_pos trivial, if_pos hb]
            rw [eO, if_neg hsc, e1]
            exact kf hC1 (by simp only; omega)
          · rw [mR hdec (by rw [List.all_append, hb, hCb]; rfl) k l (m + 1) (by rw [List.length_append] at hm; have := List.length_pos_iff.2 hs; omega), mR hdec hCb k l (m + 1) (by rw [List.length_append] at hm; have := List.length_pos_iff.2 hs; omega)]
def comD : Bs := [60, 33, 45, 45, 32, 60, 97, 62, 32, 45, 45, 62]
def mO : Bs := [60, 63, 120, 109, 108, 32, 118, 101, 114, 115, 105, 111, 110, 61, 39, 49, 46, 48, 39, 63, 62]
def iX : Bs := [60, 33, 68, 79, 67, 84, 89, 80, 69, 32, 97, 62]
def Bef (A : Bs) : Prop := ∀ (s : Bs) (y : Sx) (n : Nat), (A ++ s).length + 4 < n → eO dec n (s, [], 0, []) = .ok y → 0 < y.2.2.1 → eO dec n (A ++ s, [], 0, []) = .ok y
theorem qN (s : Bs) (o : List Bs) (k : Nat) (l : List Tok) : cJ dec (comD ++ s) o k l = .ok (s, o, k, l) := lB (s := comD) s (x := ([], o, k, l)) rfl (.inr rfl)
theorem qL (s : Bs) (o : List Bs) (k : Nat) (l : List Tok) : cJ dec (mO ++ s) o k l = .ok (s, o, k, l) := lB (s := mO) s (x := ([], o, k, l)) rfl (.inr rfl)
theorem qM (s : Bs) (o : List Bs) (k : Nat) (l : List Tok) : cJ dec (iX ++ s) o k l = .ok (s, o, k, l) := lB (s := iX) s (x := ([], o, k, l)) rfl (.inr rfl)
theorem iO {A s : Bs} (hA : A ≠ []) {x : List Bs × Nat × List Tok} {n : Nat} (hn : (A ++ s).length < n) (h : cJ dec (A ++ s) x.1 x.2.1 x.2.2 = .ok (s, x)) : eO dec n (A ++ s, x) = eO dec n (s, x) := by
  obtain ⟨n, rfl⟩ : ∃ q, n = q + 1 := ⟨n - 1, by omega⟩;obtain ⟨x1, x2, x3⟩ := x
  have hp := List.length_pos_iff.2 hA
  rw [eO, if_neg (by simp [hA]), h]
  rw [List.length_append] at hn
  exact kf (by simp only; omega) (by simp only; omega)
theorem sy (hdec : ∀ w : Bs, w.all cF = true → (dec w).isSome = true) (A : Bs) (hA : A ≠ []) (hb : A.all cF = true) : Bef (dec := dec) A := fun s y n hn hr hy => by
  by_cases h60 : ([60] : Bs).isPrefixOf s = true
  · rw [iO hA (by omega) ?_]
    · exact hr
    · unfold cJ
      simp only
      rw [gI s (p := [60]) (List.length_pos_iff.2 hA), if_pos (sc hA hb)]
      obtain ⟨b1, b2⟩ := blk_lt hb;obtain ⟨t1, t2⟩ := qf (fun c => decide (c ≠ 60)) s b2
      have hs0 : s.takeWhile (fun c => decide (c ≠ 60)) = [] ∧ s.dropWhile (fun c => decide (c ≠ 60)) = s := by
        rw [cU h60]
        exact ⟨rfl, rfl⟩
      unfold eB
      rw [t1, t2, hs0.1, hs0.2, List.append_nil]
      cases ed : dec A with
      | none => have := hdec A hb; rw [ed] at this; cases this
      | some t =>
        simp only
        rw [if_pos trivial, if_pos hb]
  · have h60' : ([60] : Bs).isPrefixOf s = false := by
      cases q : ([60] : Bs).isPrefixOf s with
      | false => rfl
      | true => exact absurd q h60
    by_cases hs : s = []
    · subst hs
      obtain ⟨n, rfl⟩ : ∃ q, n = q + 1 := ⟨n - 1, by omega⟩
      rw [hN] at hr
      cases hr
      exact absurd hy (by simp)
    · obtain ⟨n, rfl⟩ : ∃ q, n = q + 1 := ⟨n - 1, by omega⟩
      rw [eO, if_neg hs] at hr
      rw [eO, if_neg (by simp [hA])]
      have e : cJ dec (A ++ s) [] 0 [] = match cJ dec s [] 0 [] with | .ok x => .ok x | .no e => cJ dec (A ++ s) [] 0 [] := by
        cases es : cJ dec s [] 0 [] with
        | no e => rfl
        | ok x =>
          simp only
          unfold cJ at es ⊢
          rw [if_pos h60'] at es
          rw [gI s (p := [60]) (List.length_pos_iff.2 hA), if_pos (sc hA hb)]
          obtain ⟨b1, b2⟩ := blk_lt hb;obtain ⟨t1, t2⟩ := qf (fun c => decide (c ≠ 60)) s b2
          unfold eB at es ⊢
          rw [t1, t2]
          split at es
          · cases es
          · rw [if_pos rfl] at es
            split at es
            · rename_i g
              cases es
              have ha : (A ++ s.takeWhile fun c => decide (c ≠ 60)).all cF = true := by rw [List.all_append, hb, g]; rfl
              cases ed : dec (A ++ s.takeWhile fun c => decide (c ≠ 60)) with
              | none => have := hdec _ ha; rw [ed] at this; cases this
              | some t =>
                simp only
                rw [if_pos trivial, if_pos ha]
            · cases es
      cases es : cJ dec s [] 0 [] with
      | no e' => rw [es] at hr; cases hr
      | ok x =>
        rw [es] at hr e
        rw [e]
        exact hr
theorem bef_nil : Bef (dec := dec) [] := fun s y n _ h _ => h
theorem bef_com : Bef (dec := dec) comD := fun s y n hn hr hy => by
  rw [iO (by decide) (by omega) (qN s [] 0 [])]; exact hr
theorem bef_doc (hdec : ∀ w : Bs, w.all cF = true → (dec w).isSome = true) : Bef (dec := dec) (mO ++ (10 :: iX)) := fun s y n hn hr hy => by
  have h1 : (mO ++ (10 :: iX)) ++ s = mO ++ ([10] ++ (iX ++ s)) := by simp
  rw [h1] at hn ⊢
  rw [List.length_append, List.length_append, List.length_append] at hn
  rw [iO (by decide) (by rw [List.length_append, List.length_append, List.length_append]; omega) (qL _ [] 0 [])]
  refine sy hdec [10] (by decide) (by decide) (iX ++ s) y n (by rw [List.length_append, List.length_append]; omega) ?_ hy
  rw [iO (by decide) (by rw [List.length_append]; omega) (qM s [] 0 [])]; exact hr
theorem aft_end (hdec : ∀ w : Bs, w.all cF = true → (dec w).isSome = true) {C : Bs} (h : C = [] ∨ C = [10, 32] ∨ C = comD ∨ C = mO ++ (10 :: iX)) (k : Nat) (l : List Tok) (n : Nat) (hn : C.length + 4 < n) : eO dec n (C, [], k, l) = .ok ([], [], k, l) := by
  obtain ⟨m, rfl⟩ : ∃ q, n = q + 1 := ⟨n - 1, by omega⟩
  rcases h with rfl | rfl | rfl | rfl
  · exact hN _ _
  · exact mR hdec (by decide) k l _ (by omega)
  · have := iO (dec := dec) (A := comD) (s := []) (x := ([], k, l)) (n := m + 1) (by decide) (by rw [List.append_nil]; omega) (qN [] [] k l)
    rw [List.append_nil] at this
    rw [this]; exact hN _ _
  · rw [List.length_append, List.length_cons] at hn
    rw [iO (dec := dec) (A := mO) (s := 10 :: iX) (x := ([], k, l)) (by decide) (by rw [List.length_append, List.length_cons]; omega) (qL _ [] k l)]
    have h10 : cJ dec ([10] ++ iX) [] k l = .ok (iX, [], k, l) := by
      have hb : ([10] : Bs).all cF = true := by decide
      unfold cJ
      rw [if_pos (by decide)]
      unfold eB
      have t1 : (([10] ++ iX).takeWhile fun c => decide (c ≠ 60)) = [10] := by decide
      have t2 : (([10] ++ iX).dropWhile fun c => decide (c ≠ 60)) = iX := by decide
      rw [t1, t2]
      cases ed : dec [10] with
      | none => have := hdec [10] hb; rw [ed] at this; cases this
      | some t =>
        simp only
        rw [if_pos trivial, if_pos hb]
    have := iO (dec := dec) (A := [10]) (s := iX) (x := ([], k, l)) (n := m + 1) (by decide) (by rw [List.length_append]; simp; omega) h10
    rw [show (10 :: iX : Bs) = [10] ++ iX from rfl, this]
    have := iO (dec := dec) (A := iX) (s := []) (x := ([], k, l)) (n := m + 1) (by decide) (by rw [List.append_nil]; omega) (qM [] [] k l)
    rw [List.append_nil] at this
    rw [this]; exact hN _ _
theorem aft_of {C : Bs} (h : C = [] ∨ C = [10, 32] ∨ C = comD ∨ C = mO ++ (10 :: iX)) : Aft C := by
  rcases h with rfl | rfl | rfl | rfl
  · exact .inl rfl
  · exact .inr (.inr ⟨by decide, by decide⟩)
  · exact .inr (.inl rfl)
  · exact .inr (.inl rfl)
theorem around (hdec : ∀ w : Bs, w.all cF = true → (dec w).isSome = true) {A C s : Bs} (hA : A = [] ∨ A = [10, 32] ∨ A = comD ∨ A = mO ++ (10 :: iX)) (hC : C = [] ∨ C = [10, 32] ∨ C = comD ∨ C = mO ++ (10 :: iX)) {l : List Tok} (h : kZ dec s = (l, 0)) (hd : ∀ e, eO dec (s.length + 1) (s, [], 0, []) = .no e → e ≠ 0) :
    kZ dec (A ++ (s ++ C)) = (l, 0) := by
  unfold kZ at h
  cases e : eO dec (s.length + 1) (s, [], 0, []) with
  | no e' =>
    rw [e] at h
    have := hd e' e
    cases h
    exact absurd rfl this
  | ok y =>
    obtain ⟨s', o, k, l'⟩ := y
    rw [e] at h
    simp only at h
    split at h
    · rename_i g
      cases h
      obtain ⟨g1, g2⟩ := g;subst g1
      have hn : (s ++ C).length + 4 < (A ++ (s ++ C)).length + 5 := by simp only [List.length_append]; omega
      have r1 := sm hdec C (aft_of hC) (s.length + 1) ((A ++ (s ++ C)).length + 5) s [] 0 [] (s', [], k, l) (by omega) (by omega) e rfl
      rw [aft_end hdec hC k l _ (by rw [List.length_append] at hn; omega)] at r1
      have hB : Bef (dec := dec) A := by
        rcases hA with rfl | rfl | rfl | rfl
        · exact bef_nil
        · exact sy hdec _ (by decide) (by decide)
        · exact bef_com
        · exact bef_doc hdec
      have r2 := hB (s ++ C) ([], [], k, l) _ (by omega) r1 g2
      have r3 := kf (dec := dec) (n := (A ++ (s ++ C)).length + 5) (m := (A ++ (s ++ C)).length + 1) (x := (A ++ (s ++ C), [], 0, [])) (by simp only; omega) (by simp only; omega)
      unfold kZ
      rw [← r3, r2]
      simp only
      rw [if_pos ⟨trivial, g2⟩]
    · cases h
end
end Go.Xm
