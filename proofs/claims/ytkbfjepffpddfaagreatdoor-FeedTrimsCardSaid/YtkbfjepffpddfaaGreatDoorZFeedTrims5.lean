/-
  Texts in one (only what FeedTrims needs): LFeedTrimsW, XmA, PnTrim, FdA, XmN, FdB, PnPlainE, PnLoose, PnNum, PnSign, PnGone, PnLooseEq, PnLooseB, PnApp, XmP, XmQ, XmS, XmT, FdK, FdN, FdC, FdO, FdF, FdQ, FdU, FdR, FdS, XmW, XmR, FdD, FdV, FdTr.
-/
import Derived.Test.YtkbfjepffpddfaaGreatDoorZFeedTrims4
import Derived.Test.YtkbfjepffpddfaaGreatDoorShelf
import Derived.Lib.ItoaNum
import Derived.Lib.IndexLaws
import Derived.Test.YtkbfjepffpddfaaGreatDoorChecked
import Derived.Lib.IndexMore
import Derived.Laws.RangeAny
set_option linter.unusedVariables false
set_option linter.unusedSimpArgs false
set_option linter.unusedSectionVars false
namespace Go.Proofs.YtkbfjepffpddfaaGreatDoor
open Go.RowKit Go.Av Go.Pv
theorem rg : ∀ (args : Array Value) (w : World), (callFunc 7 args).run Tryz.prog w = .ok (.enter 7 args) w := fun _ _ => by kernel_rfl
theorem rf : ∀ (args : Array Value) (w : World), (callFunc 9 args).run Tryz.prog w = .ok (.enter 9 args) w := fun _ _ => by kernel_rfl
theorem ia : ∀ (args : Array Value) (w : World), (callFunc 12 args).run Tryz.prog w = .ok (.enter 12 args) w := fun _ _ => by kernel_rfl
set_option maxRecDepth 100000 in
set_option maxHeartbeats 1000000 in
theorem oK (F : Nat) (a1 : List UInt8) (q2 : Option Nat) (r3 : Bool) (H : hZ F a1 = some r3) : ACalls Tryz.prog 6 [slE Enc.byte a1 q2] [] (Ret (B r3) []) := by
 unfold hZ at H
 refine ap Tryz.func6 rfl rfl ?_;show AW _ _ 89 _ _ _;refine af <| aa ?_;show AR _ _ _ _ _ [0] _;refine za rfl <| ag <| af ?_;obtain ⟨x4, e5, H⟩ := cd H;refine aa ?_;show AR _ _ _ _ _ [0, 1] _;refine am rfl rfl (aC rfl rg rfl (rZ F x4 e5) ?_);refine za rfl <| ag <| af <| af <| aa ?_;show AR _ _ _ _ _ [0, 1, 2, 3, 4, 5, 6] _;refine zm rfl <| zS rfl (bG rfl) <| zm rfl <| aY (l := []) 15 (B ((!x4) || (decide (3000 < (a1.length : Int))))) (fun K => ?_) ?_
 ·rcases al (!x4) with h6 | h6
  ·refine zF h6 rfl <| zF h6 rfl <| zF h6 rfl <| zS rfl (aD (av := .v _) rfl h6 rfl) ?_;exact K _ 3 _ (ay (iQ h6)) rfl rfl
  ·refine zU h6 rfl (ah (av := slE _ _ _) rfl) <| zU h6 rfl (bu aj rfl) <| zU h6 rfl (eW rfl rfl) <| zS rfl (aE (av := .v _) rfl h6 rfl) ?_;exact K _ 3 _ (ay (iR h6)) rfl rfl
 refine ag <| ax rfl (fun c7 => ?_) (fun c7 => ?_)
 ·replace H := aW c7 H;refine af <| aa ?_;show AR _ _ _ _ _ [0, 1] _;refine zm rfl <| za rfl <| ag <| aI ?_;obtain rfl := ak H;exact And.intro rfl (Exists.intro _ (Exists.intro _ ⟨aG rfl (.refl _), aB [] rfl, rfl, rfl⟩))
 ·replace H := aX c7 H;refine aA <| af ?_;obtain ⟨x8, x9, x10, e11, H⟩ := wT H;refine aa ?_;show AR _ _ _ _ _ [0, 1, 2, 3, 4, 5, 6, 7] _;refine zS rfl (ah (av := slE _ _ _) rfl) <| am rfl rfl (aC rfl rf rfl (pZ F a1 q2 x8 x9 x10 e11) ?_);refine zS rfl (ah (av := .tup _) rfl) <| zS rfl (az (av := .agg _) rfl rfl) <| zS rfl (az (av := .v _) rfl rfl) <| zX rfl (bh (zs := [.string ⟨#[]⟩, .slice none 0 0]) (by kernel_rfl)) ?_;rintro _ _ ⟨o12, rfl, rfl⟩;refine s0 rfl rfl (aV (i := 0) (vs := [S x8, slE (ab Enc.str (ab Enc.str (ab Enc.str (ab Enc.str Enc.int)))) x9 none]) (by kernel_rfl) rfl rfl (by simp [bB, slE]) rfl (ac rfl)) <| fI 4 0 rfl rfl ?_;show AR _ _ _ _ _ _ ⟨_, _, []⟩;refine za rfl <| ag <| af <| af <| aa ?_;show AR _ _ _ _ _ [0, 1] _;refine zm rfl <| zS rfl (kD rfl rfl) <| ag <| ax rfl (fun c13 => ?_) (fun c13 => ?_)
  ·replace H := aW c13 H;refine af <| aa ?_;show AR _ _ _ _ _ [0, 1, 2, 3, 4, 5, 6, 7, 8, 9] _;refine zS rfl (aF (n := 1) (by kernel_rfl) rfl (ac rfl)) <| zS rfl (aH be rfl rfl) <| zS rfl (bu be rfl) <| zS rfl (bK rfl rfl) <| zm rfl <| aY (l := [9]) 32 (B ((decide ((x9.length : Int) = 0)) && (decide (x8 = ([] : List UInt8))))) (fun K => ?_) ?_
   ·rcases al (decide ((x9.length : Int) = 0)) with h14 | h14
    ·refine zU h14 rfl (aF (n := 0) (by kernel_rfl) rfl (ac rfl)) <| zU h14 rfl (aH ai rfl rfl) <| zU h14 rfl (dR rfl rfl) <| zS rfl (aD (av := .v _) rfl h14 rfl) ?_;exact K _ 3 _ (ay (cz h14)) rfl rfl
    ·refine zF h14 rfl <| zF h14 rfl <| zF h14 rfl <| zS rfl (aE (av := .v _) rfl h14 rfl) ?_;exact K _ 3 _ (ay (cA h14)) rfl rfl
   refine za rfl <| ag <| aI ?_;obtain rfl := ak H;exact And.intro rfl (Exists.intro _ (Exists.intro _ ⟨aG rfl (.refl _), aB [] rfl, rfl, rfl⟩))
  ·replace H := aX c13 H;refine aA <| af <| af ?_;obtain ⟨x15, e16, H⟩ := cd H;refine ce (by kernel_rfl) ?_;show AI _ _ _ _ _ 6 (Array.replicate 6 false) _;refine zk 0 rfl (aF (n := 0) (by kernel_rfl) rfl (ac rfl)) ?_;show AI _ _ _ _ _ _ #[true, false, false, false, false, false] _;refine zk 1 rfl (aH ai rfl rfl) ?_;show AI _ _ _ _ _ _ #[true, true, false, false, false, false] _;refine zk 3 rfl (aF (n := 0) (by kernel_rfl) rfl (ac rfl)) ?_;show AI _ _ _ _ _ _ #[true, true, false, true, false, false] _;refine zk 4 rfl (aH ai rfl rfl) ?_;show AI _ _ _ _ _ _ #[true, true, false, true, true, false] _;refine ca (i := 2) (by kernel_rfl) rfl rfl <| AIO.callp rfl ia rfl (kr F x8 x15 e16) ?_;show AI _ _ _ _ _ _ #[true, true, true, true, true, false] _;refine zk 5 rfl (jp rfl rfl) ?_;show AI _ _ _ _ _ _ #[true, true, true, true, true, true] _;refine cK rfl <| ax rfl (fun c17 => ?_) (fun c17 => ?_)
   ·replace H := aW c17 H;refine af <| aa ?_;show AR _ _ _ _ _ [0] _;refine za rfl <| ag <| aI ?_;obtain rfl := ak H;exact And.intro rfl (Exists.intro _ (Exists.intro _ ⟨aG rfl (.refl _), aB [] rfl, rfl, rfl⟩))
   ·replace H := aX c17 H;refine aA <| bJ (X := Unit) (fun _ => ⟨[], [], []⟩) (fun _ => fD = some r3) ?_ ?_
    ·refine af <| aa ?_;show AR _ _ _ _ _ [0] _;refine za rfl <| ag <| aR <| de (X := Nat × Int) (fun (n20, y18) => ⟨[(4, .cp [S x8, slE (ab Enc.str (ab Enc.str (ab Enc.str (ab Enc.str Enc.int)))) x9 none]), (6, i64 y18)], [], []⟩) (fun (n20, y18) => ej F x9 n20 y18 = some r3) (fun (n20, y18) => n20) (F, 0) H (bb [] (.cons (.refl _) (.cons (.refl _) (.nil _))) rfl) ?_;rintro ⟨n20, y18⟩ H;obtain ⟨n20, rfl, H⟩ := eX H;replace H : ek F x9 (ej F x9 n20) y18 = some r3 := H
     unfold ek at H
     refine af <| af <| aa ?_;show AR _ _ _ _ _ [0, 1, 2, 3, 4] _;refine zm rfl <| zS rfl (aF (n := 1) (by kernel_rfl) rfl (ac rfl)) <| zS rfl (aH be rfl rfl) <| zS rfl (bu be rfl) <| zS rfl (bX rfl rfl) <| ag <| ax rfl (fun c21 => ?_) (fun c21 => ?_)
     ·replace H := aW c21 H;refine aA <| af <| aR <| af ?_;obtain ⟨g22, H⟩ := aN H;obtain ⟨x23, e24, H⟩ := bR H;refine aa ?_;show AR _ _ _ _ _ [0, 1, 2, 3, 4, 5, 6] _;refine zS rfl (aF (n := 1) (by kernel_rfl) rfl (ac rfl)) <| zS rfl (aH be rfl rfl) <| zm rfl <| zS rfl (dn (E := (ab Enc.str (ab Enc.str (ab Enc.str (ab Enc.str Enc.int))))) be (by kernel_rfl) rfl rfl g22 e24) <| zS rfl (cB cV rfl (n := 5) (by kernel_rfl) rfl (ac rfl)) <| zX rfl (bh (zs := [.string ⟨#[]⟩, .string ⟨#[]⟩, .string ⟨#[]⟩, .string ⟨#[]⟩, .int .i64 0]) (by kernel_rfl)) ?_;rintro _ _ ⟨o25, rfl, rfl⟩;refine s0 rfl rfl (aV (i := 0) (vs := [S x23.1, S x23.2.1, S x23.2.2.1, S x23.2.2.2.1, i64 x23.2.2.2.2]) (by kernel_rfl) rfl rfl (by simp [bB, slE]) rfl (ac rfl)) <| fI 7 0 rfl rfl ?_;show AR _ _ _ _ _ _ ⟨_, _, []⟩;refine ag <| af ?_;obtain ⟨x26, e27, H⟩ := cd H;obtain ⟨x29, e30, H⟩ := eY H;obtain ⟨x32, e33, H⟩ := eY H;refine ce (by kernel_rfl) ?_;show AI _ _ _ _ _ 38 (Array.replicate 38 false) _;refine zk 0 rfl (aF (n := 1) (by kernel_rfl) rfl (ac rfl)) ?_
      show AI _ _ _ _ _ _ #[true, false, false, false, false, false, false, false, false, false, false, false, false, false, false, false, false, false, false, false, false, false, false, false, false, false, false, false, false, false, false, false, false, false, false, false, false, false] _;refine zk 1 rfl (aH ai rfl rfl) ?_;show AI _ _ _ _ _ _ #[true, true, false, false, false, false, false, false, false, false, false, false, false, false, false, false, false, false, false, false, false, false, false, false, false, false, false, false, false, false, false, false, false, false, false, false, false, false] _;refine zk 3 rfl (aF (n := 1) (by kernel_rfl) rfl (ac rfl)) ?_;show AI _ _ _ _ _ _ #[true, true, false, true, false, false, false, false, false, false, false, false, false, false, false, false, false, false, false, false, false, false, false, false, false, false, false, false, false, false, false, false, false, false, false, false, false, false] _;refine zk 4 rfl (aH ai rfl rfl) ?_;show AI _ _ _ _ _ _ #[true, true, false, true, true, false, false, false, false, false, false, false, false, false, false, false, false, false, false, false, false, false, false, false, false, false, false, false, false, false, false, false, false, false, false, false, false, false] _;refine ca (i := 2) (by kernel_rfl) rfl rfl <| AIO.callp rfl ia rfl (kr F x23.2.1 x26 e27) ?_
      show AI _ _ _ _ _ _ #[true, true, true, true, true, false, false, false, false, false, false, false, false, false, false, false, false, false, false, false, false, false, false, false, false, false, false, false, false, false, false, false, false, false, false, false, false, false] _;refine zk 5 rfl (jp rfl rfl) ?_;show AI _ _ _ _ _ _ #[true, true, true, true, true, true, false, false, false, false, false, false, false, false, false, false, false, false, false, false, false, false, false, false, false, false, false, false, false, false, false, false, false, false, false, false, false, false] _;refine zk 6 rfl (mv rfl) ?_;show AI _ _ _ _ _ _ #[true, true, true, true, true, true, true, false, false, false, false, false, false, false, false, false, false, false, false, false, false, false, false, false, false, false, false, false, false, false, false, false, false, false, false, false, false, false] _;refine AI.meet 24 #[true, true, true, true, true, true, true, true, true, true, true, true, true, true, false, false, false, false, false, false, false, false, false, false, false, false, false, false, false, false, false, false, false, false, false, false, false, false] 64 (B ((!decide (x26 = x23.2.1)) || (!decide (x29 = x23.1)))) (fun K13 => ?_) ?_
      ·refine jD (t := 57) rfl (fun h28 => ?_) (fun h28 => ?_)
       ·refine bZ (i := 7) rfl rfl (by kernel_rfl) (by kernel_rfl) (by kernel_rfl) rfl rfl rfl (fun _ _ h => h) h28 ?_;show AI _ _ _ _ _ _ #[true, true, true, true, true, true, true, true, false, false, false, false, false, false, false, false, false, false, false, false, false, false, false, false, false, false, false, false, false, false, false, false, false, false, false, false, false, false] _;refine bZ (i := 8) rfl rfl (by kernel_rfl) (by kernel_rfl) (by kernel_rfl) rfl rfl rfl (fun _ _ h => h) h28 ?_;show AI _ _ _ _ _ _ #[true, true, true, true, true, true, true, true, true, false, false, false, false, false, false, false, false, false, false, false, false, false, false, false, false, false, false, false, false, false, false, false, false, false, false, false, false, false] _;refine bZ (i := 10) rfl rfl (by kernel_rfl) (by kernel_rfl) (by kernel_rfl) rfl rfl rfl (fun _ _ h => h) h28 ?_;show AI _ _ _ _ _ _ #[true, true, true, true, true, true, true, true, true, false, true, false, false, false, false, false, false, false, false, false, false, false, false, false, false, false, false, false, false, false, false, false, false, false, false, false, false, false] _;refine bZ (i := 11) rfl rfl (by kernel_rfl) (by kernel_rfl) (by kernel_rfl) rfl rfl rfl (fun _ _ h => h) h28 ?_;show AI _ _ _ _ _ _ #[true, true, true, true, true, true, true, true, true, false, true, true, false, false, false, false, false, false, false, false, false, false, false, false, false, false, false, false, false, false, false, false, false, false, false, false, false, false] _
        refine pg (i := 9) (by kernel_rfl) rfl rfl rfl rfl rfl rfl rfl h28 ?_;show AI _ _ _ _ _ _ #[true, true, true, true, true, true, true, true, true, true, true, true, false, false, false, false, false, false, false, false, false, false, false, false, false, false, false, false, false, false, false, false, false, false, false, false, false, false] _;refine bZ (i := 12) rfl rfl (by kernel_rfl) (by kernel_rfl) (by kernel_rfl) rfl rfl rfl (fun _ _ h => h) h28 ?_;show AI _ _ _ _ _ _ #[true, true, true, true, true, true, true, true, true, true, true, true, true, false, false, false, false, false, false, false, false, false, false, false, false, false, false, false, false, false, false, false, false, false, false, false, false, false] _;refine zk 13 rfl (cR (av' := B ((!decide (x26 = x23.2.1)) || (!decide (x29 = x23.1)))) (aD (av := .v _) rfl h28 rfl) (ay (iQ h28))) ?_;show AI _ _ _ _ _ _ #[true, true, true, true, true, true, true, true, true, true, true, true, true, true, false, false, false, false, false, false, false, false, false, false, false, false, false, false, false, false, false, false, false, false, false, false, false, false] _;exact K13 _ 6 rfl rfl
       ·refine cl (i := 7) rfl rfl (by kernel_rfl) (by kernel_rfl) (by kernel_rfl) rfl rfl rfl (fun _ _ h => h) h28 (aF (n := 0) (by kernel_rfl) rfl (ac rfl)) ?_;show AI _ _ _ _ _ _ #[true, true, true, true, true, true, true, true, false, false, false, false, false, false, false, false, false, false, false, false, false, false, false, false, false, false, false, false, false, false, false, false, false, false, false, false, false, false] _;refine cl (i := 8) rfl rfl (by kernel_rfl) (by kernel_rfl) (by kernel_rfl) rfl rfl rfl (fun _ _ h => h) h28 (aH ai rfl rfl) ?_;show AI _ _ _ _ _ _ #[true, true, true, true, true, true, true, true, true, false, false, false, false, false, false, false, false, false, false, false, false, false, false, false, false, false, false, false, false, false, false, false, false, false, false, false, false, false] _;refine cl (i := 10) rfl rfl (by kernel_rfl) (by kernel_rfl) (by kernel_rfl) rfl rfl rfl (fun _ _ h => h) h28 (aF (n := 0) (by kernel_rfl) rfl (ac rfl)) ?_;show AI _ _ _ _ _ _ #[true, true, true, true, true, true, true, true, true, false, true, false, false, false, false, false, false, false, false, false, false, false, false, false, false, false, false, false, false, false, false, false, false, false, false, false, false, false] _;refine cl (i := 11) rfl rfl (by kernel_rfl) (by kernel_rfl) (by kernel_rfl) rfl rfl rfl (fun _ _ h => h) h28 (aH ai rfl rfl) ?_
        show AI _ _ _ _ _ _ #[true, true, true, true, true, true, true, true, true, false, true, true, false, false, false, false, false, false, false, false, false, false, false, false, false, false, false, false, false, false, false, false, false, false, false, false, false, false] _;refine uz (i := 9) (by kernel_rfl) rfl rfl rfl rfl rfl h28 <| AIO.callp rfl ia rfl (kr F x23.1 x29 (e30 (nf h28))) ?_;show AI _ _ _ _ _ _ #[true, true, true, true, true, true, true, true, true, true, true, true, false, false, false, false, false, false, false, false, false, false, false, false, false, false, false, false, false, false, false, false, false, false, false, false, false, false] _;refine cl (i := 12) rfl rfl (by kernel_rfl) (by kernel_rfl) (by kernel_rfl) rfl rfl rfl (fun _ _ h => h) h28 (jp rfl rfl) ?_;show AI _ _ _ _ _ _ #[true, true, true, true, true, true, true, true, true, true, true, true, true, false, false, false, false, false, false, false, false, false, false, false, false, false, false, false, false, false, false, false, false, false, false, false, false, false] _;refine zk 13 rfl (cR (av' := B ((!decide (x26 = x23.2.1)) || (!decide (x29 = x23.1)))) (aE (av := .v _) rfl h28 rfl) (ay (iR h28))) ?_;show AI _ _ _ _ _ _ #[true, true, true, true, true, true, true, true, true, true, true, true, true, true, false, false, false, false, false, false, false, false, false, false, false, false, false, false, false, false, false, false, false, false, false, false, false, false] _;exact K13 _ 6 rfl rfl
      refine zk 14 rfl (mv rfl) ?_;show AI _ _ _ _ _ _ #[true, true, true, true, true, true, true, true, true, true, true, true, true, true, true, false, false, false, false, false, false, false, false, false, false, false, false, false, false, false, false, false, false, false, false, false, false, false] _;refine AI.meet 16 #[true, true, true, true, true, true, true, true, true, true, true, true, true, true, true, true, true, true, true, true, true, true, false, false, false, false, false, false, false, false, false, false, false, false, false, false, false, false] 72 (B (((!decide (x26 = x23.2.1)) || (!decide (x29 = x23.1))) || (!decide (x32 = x23.2.2.2.1)))) (fun K21 => ?_) ?_
      ·refine jD (t := 65) rfl (fun h31 => ?_) (fun h31 => ?_)
       ·refine bZ (i := 15) rfl rfl (by kernel_rfl) (by kernel_rfl) (by kernel_rfl) rfl rfl rfl (fun _ _ h => h) h31 ?_;show AI _ _ _ _ _ _ #[true, true, true, true, true, true, true, true, true, true, true, true, true, true, true, true, false, false, false, false, false, false, false, false, false, false, false, false, false, false, false, false, false, false, false, false, false, false] _;refine bZ (i := 16) rfl rfl (by kernel_rfl) (by kernel_rfl) (by kernel_rfl) rfl rfl rfl (fun _ _ h => h) h31 ?_;show AI _ _ _ _ _ _ #[true, true, true, true, true, true, true, true, true, true, true, true, true, true, true, true, true, false, false, false, false, false, false, false, false, false, false, false, false, false, false, false, false, false, false, false, false, false] _;refine bZ (i := 18) rfl rfl (by kernel_rfl) (by kernel_rfl) (by kernel_rfl) rfl rfl rfl (fun _ _ h => h) h31 ?_;show AI _ _ _ _ _ _ #[true, true, true, true, true, true, true, true, true, true, true, true, true, true, true, true, true, false, true, false, false, false, false, false, false, false, false, false, false, false, false, false, false, false, false, false, false, false] _;refine bZ (i := 19) rfl rfl (by kernel_rfl) (by kernel_rfl) (by kernel_rfl) rfl rfl rfl (fun _ _ h => h) h31 ?_;show AI _ _ _ _ _ _ #[true, true, true, true, true, true, true, true, true, true, true, true, true, true, true, true, true, false, true, true, false, false, false, false, false, false, false, false, false, false, false, false, false, false, false, false, false, false] _
        refine pg (i := 17) (by kernel_rfl) rfl rfl rfl rfl rfl rfl rfl h31 ?_;show AI _ _ _ _ _ _ #[true, true, true, true, true, true, true, true, true, true, true, true, true, true, true, true, true, true, true, true, false, false, false, false, false, false, false, false, false, false, false, false, false, false, false, false, false, false] _;refine bZ (i := 20) rfl rfl (by kernel_rfl) (by kernel_rfl) (by kernel_rfl) rfl rfl rfl (fun _ _ h => h) h31 ?_;show AI _ _ _ _ _ _ #[true, true, true, true, true, true, true, true, true, true, true, true, true, true, true, true, true, true, true, true, true, false, false, false, false, false, false, false, false, false, false, false, false, false, false, false, false, false] _;refine zk 21 rfl (cR (av' := B (((!decide (x26 = x23.2.1)) || (!decide (x29 = x23.1))) || (!decide (x32 = x23.2.2.2.1)))) (aD (av := .v _) rfl h31 rfl) (ay (iQ h31))) ?_;show AI _ _ _ _ _ _ #[true, true, true, true, true, true, true, true, true, true, true, true, true, true, true, true, true, true, true, true, true, true, false, false, false, false, false, false, false, false, false, false, false, false, false, false, false, false] _;exact K21 _ 6 rfl rfl
       ·refine cl (i := 15) rfl rfl (by kernel_rfl) (by kernel_rfl) (by kernel_rfl) rfl rfl rfl (fun _ _ h => h) h31 (aF (n := 3) (by kernel_rfl) rfl (ac rfl)) ?_;show AI _ _ _ _ _ _ #[true, true, true, true, true, true, true, true, true, true, true, true, true, true, true, true, false, false, false, false, false, false, false, false, false, false, false, false, false, false, false, false, false, false, false, false, false, false] _;refine cl (i := 16) rfl rfl (by kernel_rfl) (by kernel_rfl) (by kernel_rfl) rfl rfl rfl (fun _ _ h => h) h31 (aH ai rfl rfl) ?_;show AI _ _ _ _ _ _ #[true, true, true, true, true, true, true, true, true, true, true, true, true, true, true, true, true, false, false, false, false, false, false, false, false, false, false, false, false, false, false, false, false, false, false, false, false, false] _;refine cl (i := 18) rfl rfl (by kernel_rfl) (by kernel_rfl) (by kernel_rfl) rfl rfl rfl (fun _ _ h => h) h31 (aF (n := 3) (by kernel_rfl) rfl (ac rfl)) ?_;show AI _ _ _ _ _ _ #[true, true, true, true, true, true, true, true, true, true, true, true, true, true, true, true, true, false, true, false, false, false, false, false, false, false, false, false, false, false, false, false, false, false, false, false, false, false] _;refine cl (i := 19) rfl rfl (by kernel_rfl) (by kernel_rfl) (by kernel_rfl) rfl rfl rfl (fun _ _ h => h) h31 (aH ai rfl rfl) ?_
        show AI _ _ _ _ _ _ #[true, true, true, true, true, true, true, true, true, true, true, true, true, true, true, true, true, false, true, true, false, false, false, false, false, false, false, false, false, false, false, false, false, false, false, false, false, false] _;refine uz (i := 17) (by kernel_rfl) rfl rfl rfl rfl rfl h31 <| AIO.callp rfl ia rfl (kr F x23.2.2.2.1 x32 (e33 (nf h31))) ?_;show AI _ _ _ _ _ _ #[true, true, true, true, true, true, true, true, true, true, true, true, true, true, true, true, true, true, true, true, false, false, false, false, false, false, false, false, false, false, false, false, false, false, false, false, false, false] _;refine cl (i := 20) rfl rfl (by kernel_rfl) (by kernel_rfl) (by kernel_rfl) rfl rfl rfl (fun _ _ h => h) h31 (jp rfl rfl) ?_;show AI _ _ _ _ _ _ #[true, true, true, true, true, true, true, true, true, true, true, true, true, true, true, true, true, true, true, true, true, false, false, false, false, false, false, false, false, false, false, false, false, false, false, false, false, false] _;refine zk 21 rfl (cR (av' := B (((!decide (x26 = x23.2.1)) || (!decide (x29 = x23.1))) || (!decide (x32 = x23.2.2.2.1)))) (aE (av := .v _) rfl h31 rfl) (ay (iR h31))) ?_;show AI _ _ _ _ _ _ #[true, true, true, true, true, true, true, true, true, true, true, true, true, true, true, true, true, true, true, true, true, true, false, false, false, false, false, false, false, false, false, false, false, false, false, false, false, false] _;exact K21 _ 6 rfl rfl
      refine zk 22 rfl (mv rfl) ?_;show AI _ _ _ _ _ _ #[true, true, true, true, true, true, true, true, true, true, true, true, true, true, true, true, true, true, true, true, true, true, true, false, false, false, false, false, false, false, false, false, false, false, false, false, false, false] _;refine AI.meet 10 #[true, true, true, true, true, true, true, true, true, true, true, true, true, true, true, true, true, true, true, true, true, true, true, true, true, true, true, true, false, false, false, false, false, false, false, false, false, false] 78 (B ((((!decide (x26 = x23.2.1)) || (!decide (x29 = x23.1))) || (!decide (x32 = x23.2.2.2.1))) || (decide (4000 < (x23.2.2.2.1.length : Int))))) (fun K27 => ?_) ?_
      ·refine jD (t := 73) rfl (fun h34 => ?_) (fun h34 => ?_)
       ·refine bZ (i := 23) rfl rfl (by kernel_rfl) (by kernel_rfl) (by kernel_rfl) rfl rfl rfl (fun _ _ h => h) h34 ?_;show AI _ _ _ _ _ _ #[true, true, true, true, true, true, true, true, true, true, true, true, true, true, true, true, true, true, true, true, true, true, true, true, false, false, false, false, false, false, false, false, false, false, false, false, false, false] _;refine bZ (i := 24) rfl rfl (by kernel_rfl) (by kernel_rfl) (by kernel_rfl) rfl rfl rfl (fun _ _ h => h) h34 ?_;show AI _ _ _ _ _ _ #[true, true, true, true, true, true, true, true, true, true, true, true, true, true, true, true, true, true, true, true, true, true, true, true, true, false, false, false, false, false, false, false, false, false, false, false, false, false] _;refine bZ (i := 25) rfl rfl (by kernel_rfl) (by kernel_rfl) (by kernel_rfl) rfl rfl rfl (fun _ _ h => h) h34 ?_;show AI _ _ _ _ _ _ #[true, true, true, true, true, true, true, true, true, true, true, true, true, true, true, true, true, true, true, true, true, true, true, true, true, true, false, false, false, false, false, false, false, false, false, false, false, false] _;refine bZ (i := 26) rfl rfl (by kernel_rfl) (by kernel_rfl) (by kernel_rfl) rfl rfl rfl (fun _ _ h => h) h34 ?_;show AI _ _ _ _ _ _ #[true, true, true, true, true, true, true, true, true, true, true, true, true, true, true, true, true, true, true, true, true, true, true, true, true, true, true, false, false, false, false, false, false, false, false, false, false, false] _
        refine zk 27 rfl (cR (av' := B ((((!decide (x26 = x23.2.1)) || (!decide (x29 = x23.1))) || (!decide (x32 = x23.2.2.2.1))) || (decide (4000 < (x23.2.2.2.1.length : Int))))) (aD (av := .v _) rfl h34 rfl) (ay (iQ h34))) ?_;show AI _ _ _ _ _ _ #[true, true, true, true, true, true, true, true, true, true, true, true, true, true, true, true, true, true, true, true, true, true, true, true, true, true, true, true, false, false, false, false, false, false, false, false, false, false] _;exact K27 _ 4 rfl rfl
       ·refine cl (i := 23) rfl rfl (by kernel_rfl) (by kernel_rfl) (by kernel_rfl) rfl rfl rfl (fun _ _ h => h) h34 (aF (n := 3) (by kernel_rfl) rfl (ac rfl)) ?_;show AI _ _ _ _ _ _ #[true, true, true, true, true, true, true, true, true, true, true, true, true, true, true, true, true, true, true, true, true, true, true, true, false, false, false, false, false, false, false, false, false, false, false, false, false, false] _;refine cl (i := 24) rfl rfl (by kernel_rfl) (by kernel_rfl) (by kernel_rfl) rfl rfl rfl (fun _ _ h => h) h34 (aH ai rfl rfl) ?_;show AI _ _ _ _ _ _ #[true, true, true, true, true, true, true, true, true, true, true, true, true, true, true, true, true, true, true, true, true, true, true, true, true, false, false, false, false, false, false, false, false, false, false, false, false, false] _;refine cl (i := 25) rfl rfl (by kernel_rfl) (by kernel_rfl) (by kernel_rfl) rfl rfl rfl (fun _ _ h => h) h34 (bw ai rfl) ?_;show AI _ _ _ _ _ _ #[true, true, true, true, true, true, true, true, true, true, true, true, true, true, true, true, true, true, true, true, true, true, true, true, true, true, false, false, false, false, false, false, false, false, false, false, false, false] _;refine cl (i := 26) rfl rfl (by kernel_rfl) (by kernel_rfl) (by kernel_rfl) rfl rfl rfl (fun _ _ h => h) h34 (eW rfl rfl) ?_
        show AI _ _ _ _ _ _ #[true, true, true, true, true, true, true, true, true, true, true, true, true, true, true, true, true, true, true, true, true, true, true, true, true, true, true, false, false, false, false, false, false, false, false, false, false, false] _;refine zk 27 rfl (cR (av' := B ((((!decide (x26 = x23.2.1)) || (!decide (x29 = x23.1))) || (!decide (x32 = x23.2.2.2.1))) || (decide (4000 < (x23.2.2.2.1.length : Int))))) (aE (av := .v _) rfl h34 rfl) (ay (iR h34))) ?_;show AI _ _ _ _ _ _ #[true, true, true, true, true, true, true, true, true, true, true, true, true, true, true, true, true, true, true, true, true, true, true, true, true, true, true, true, false, false, false, false, false, false, false, false, false, false] _;exact K27 _ 4 rfl rfl
      refine zk 28 rfl (mv rfl) ?_;show AI _ _ _ _ _ _ #[true, true, true, true, true, true, true, true, true, true, true, true, true, true, true, true, true, true, true, true, true, true, true, true, true, true, true, true, true, false, false, false, false, false, false, false, false, false] _;refine AI.meet 5 #[true, true, true, true, true, true, true, true, true, true, true, true, true, true, true, true, true, true, true, true, true, true, true, true, true, true, true, true, true, true, true, true, true, false, false, false, false, false] 83 (B (((((!decide (x26 = x23.2.1)) || (!decide (x29 = x23.1))) || (!decide (x32 = x23.2.2.2.1))) || (decide (4000 < (x23.2.2.2.1.length : Int)))) || (decide (x23.2.2.2.2 < 0)))) (fun K32 => ?_) ?_
      ·refine jD (t := 79) rfl (fun h35 => ?_) (fun h35 => ?_)
       ·refine bZ (i := 29) rfl rfl (by kernel_rfl) (by kernel_rfl) (by kernel_rfl) rfl rfl rfl (fun _ _ h => h) h35 ?_;show AI _ _ _ _ _ _ #[true, true, true, true, true, true, true, true, true, true, true, true, true, true, true, true, true, true, true, true, true, true, true, true, true, true, true, true, true, true, false, false, false, false, false, false, false, false] _;refine bZ (i := 30) rfl rfl (by kernel_rfl) (by kernel_rfl) (by kernel_rfl) rfl rfl rfl (fun _ _ h => h) h35 ?_;show AI _ _ _ _ _ _ #[true, true, true, true, true, true, true, true, true, true, true, true, true, true, true, true, true, true, true, true, true, true, true, true, true, true, true, true, true, true, true, false, false, false, false, false, false, false] _;refine bZ (i := 31) rfl rfl (by kernel_rfl) (by kernel_rfl) (by kernel_rfl) rfl rfl rfl (fun _ _ h => h) h35 ?_;show AI _ _ _ _ _ _ #[true, true, true, true, true, true, true, true, true, true, true, true, true, true, true, true, true, true, true, true, true, true, true, true, true, true, true, true, true, true, true, true, false, false, false, false, false, false] _;refine zk 32 rfl (cR (av' := B (((((!decide (x26 = x23.2.1)) || (!decide (x29 = x23.1))) || (!decide (x32 = x23.2.2.2.1))) || (decide (4000 < (x23.2.2.2.1.length : Int)))) || (decide (x23.2.2.2.2 < 0)))) (aD (av := .v _) rfl h35 rfl) (ay (iQ h35))) ?_
        show AI _ _ _ _ _ _ #[true, true, true, true, true, true, true, true, true, true, true, true, true, true, true, true, true, true, true, true, true, true, true, true, true, true, true, true, true, true, true, true, true, false, false, false, false, false] _;exact K32 _ 3 rfl rfl
       ·refine cl (i := 29) rfl rfl (by kernel_rfl) (by kernel_rfl) (by kernel_rfl) rfl rfl rfl (fun _ _ h => h) h35 (aF (n := 4) (by kernel_rfl) rfl (ac rfl)) ?_;show AI _ _ _ _ _ _ #[true, true, true, true, true, true, true, true, true, true, true, true, true, true, true, true, true, true, true, true, true, true, true, true, true, true, true, true, true, true, false, false, false, false, false, false, false, false] _;refine cl (i := 30) rfl rfl (by kernel_rfl) (by kernel_rfl) (by kernel_rfl) rfl rfl rfl (fun _ _ h => h) h35 (aH aM rfl rfl) ?_;show AI _ _ _ _ _ _ #[true, true, true, true, true, true, true, true, true, true, true, true, true, true, true, true, true, true, true, true, true, true, true, true, true, true, true, true, true, true, true, false, false, false, false, false, false, false] _;refine cl (i := 31) rfl rfl (by kernel_rfl) (by kernel_rfl) (by kernel_rfl) rfl rfl rfl (fun _ _ h => h) h35 (bX rfl rfl) ?_;show AI _ _ _ _ _ _ #[true, true, true, true, true, true, true, true, true, true, true, true, true, true, true, true, true, true, true, true, true, true, true, true, true, true, true, true, true, true, true, true, false, false, false, false, false, false] _;refine zk 32 rfl (cR (av' := B (((((!decide (x26 = x23.2.1)) || (!decide (x29 = x23.1))) || (!decide (x32 = x23.2.2.2.1))) || (decide (4000 < (x23.2.2.2.1.length : Int)))) || (decide (x23.2.2.2.2 < 0)))) (aE (av := .v _) rfl h35 rfl) (ay (iR h35))) ?_
        show AI _ _ _ _ _ _ #[true, true, true, true, true, true, true, true, true, true, true, true, true, true, true, true, true, true, true, true, true, true, true, true, true, true, true, true, true, true, true, true, true, false, false, false, false, false] _;exact K32 _ 3 rfl rfl
      refine zk 33 rfl (mv rfl) ?_;show AI _ _ _ _ _ _ #[true, true, true, true, true, true, true, true, true, true, true, true, true, true, true, true, true, true, true, true, true, true, true, true, true, true, true, true, true, true, true, true, true, true, false, false, false, false] _;refine AI.meet 0 #[true, true, true, true, true, true, true, true, true, true, true, true, true, true, true, true, true, true, true, true, true, true, true, true, true, true, true, true, true, true, true, true, true, true, true, true, true, true] 88 (B ((((((!decide (x26 = x23.2.1)) || (!decide (x29 = x23.1))) || (!decide (x32 = x23.2.2.2.1))) || (decide (4000 < (x23.2.2.2.1.length : Int)))) || (decide (x23.2.2.2.2 < 0))) || (decide (253402300799 < x23.2.2.2.2)))) (fun K37 => ?_) ?_
      ·refine jD (t := 84) rfl (fun h36 => ?_) (fun h36 => ?_)
       ·refine bZ (i := 34) rfl rfl (by kernel_rfl) (by kernel_rfl) (by kernel_rfl) rfl rfl rfl (fun _ _ h => h) h36 ?_;show AI _ _ _ _ _ _ #[true, true, true, true, true, true, true, true, true, true, true, true, true, true, true, true, true, true, true, true, true, true, true, true, true, true, true, true, true, true, true, true, true, true, true, false, false, false] _;refine bZ (i := 35) rfl rfl (by kernel_rfl) (by kernel_rfl) (by kernel_rfl) rfl rfl rfl (fun _ _ h => h) h36 ?_;show AI _ _ _ _ _ _ #[true, true, true, true, true, true, true, true, true, true, true, true, true, true, true, true, true, true, true, true, true, true, true, true, true, true, true, true, true, true, true, true, true, true, true, true, false, false] _;refine bZ (i := 36) rfl rfl (by kernel_rfl) (by kernel_rfl) (by kernel_rfl) rfl rfl rfl (fun _ _ h => h) h36 ?_;show AI _ _ _ _ _ _ #[true, true, true, true, true, true, true, true, true, true, true, true, true, true, true, true, true, true, true, true, true, true, true, true, true, true, true, true, true, true, true, true, true, true, true, true, true, false] _;refine zk 37 rfl (cR (av' := B ((((((!decide (x26 = x23.2.1)) || (!decide (x29 = x23.1))) || (!decide (x32 = x23.2.2.2.1))) || (decide (4000 < (x23.2.2.2.1.length : Int)))) || (decide (x23.2.2.2.2 < 0))) || (decide (253402300799 < x23.2.2.2.2)))) (aD (av := .v _) rfl h36 rfl) (ay (iQ h36))) ?_
        show AI _ _ _ _ _ _ #[true, true, true, true, true, true, true, true, true, true, true, true, true, true, true, true, true, true, true, true, true, true, true, true, true, true, true, true, true, true, true, true, true, true, true, true, true, true] _;exact K37 _ 3 rfl rfl
       ·refine cl (i := 34) rfl rfl (by kernel_rfl) (by kernel_rfl) (by kernel_rfl) rfl rfl rfl (fun _ _ h => h) h36 (aF (n := 4) (by kernel_rfl) rfl (ac rfl)) ?_;show AI _ _ _ _ _ _ #[true, true, true, true, true, true, true, true, true, true, true, true, true, true, true, true, true, true, true, true, true, true, true, true, true, true, true, true, true, true, true, true, true, true, true, false, false, false] _;refine cl (i := 35) rfl rfl (by kernel_rfl) (by kernel_rfl) (by kernel_rfl) rfl rfl rfl (fun _ _ h => h) h36 (aH aM rfl rfl) ?_;show AI _ _ _ _ _ _ #[true, true, true, true, true, true, true, true, true, true, true, true, true, true, true, true, true, true, true, true, true, true, true, true, true, true, true, true, true, true, true, true, true, true, true, true, false, false] _;refine cl (i := 36) rfl rfl (by kernel_rfl) (by kernel_rfl) (by kernel_rfl) rfl rfl rfl (fun _ _ h => h) h36 (eW rfl rfl) ?_;show AI _ _ _ _ _ _ #[true, true, true, true, true, true, true, true, true, true, true, true, true, true, true, true, true, true, true, true, true, true, true, true, true, true, true, true, true, true, true, true, true, true, true, true, true, false] _;refine zk 37 rfl (cR (av' := B ((((((!decide (x26 = x23.2.1)) || (!decide (x29 = x23.1))) || (!decide (x32 = x23.2.2.2.1))) || (decide (4000 < (x23.2.2.2.1.length : Int)))) || (decide (x23.2.2.2.2 < 0))) || (decide (253402300799 < x23.2.2.2.2)))) (aE (av := .v _) rfl h36 rfl) (ay (iR h36))) ?_
        show AI _ _ _ _ _ _ #[true, true, true, true, true, true, true, true, true, true, true, true, true, true, true, true, true, true, true, true, true, true, true, true, true, true, true, true, true, true, true, true, true, true, true, true, true, true] _;exact K37 _ 3 rfl rfl
      refine cK rfl <| ax rfl (fun c37 => ?_) (fun c37 => ?_)
      ·replace H := aW c37 H;refine af <| aa ?_;show AR _ _ _ _ _ [0] _;refine za rfl <| ag <| aI ?_;obtain rfl := ak H;exact And.intro rfl (Exists.intro _ (Exists.intro _ ⟨aG rfl (.refl _), aB [] rfl, rfl, rfl⟩))
      ·replace H := aX c37 H;refine aA ?_;obtain ⟨g38, H⟩ := aN H;refine aa ?_;show AR _ _ _ _ _ [0, 1, 2] _;refine zm rfl <| zS rfl (cX rfl rfl g38) <| za rfl <| ag ?_;exact Exists.intro (n20, y18 + 1) ⟨H, Nat.lt_succ_self _, bb [] (.cons (.refl _) (.cons (.refl _) (.nil _))) rfl⟩
     ·replace H := aX c21 H;refine cw ?_;exact Exists.intro () ⟨H, bb [] (.nil _) rfl⟩
    rintro _ H;replace H : fD = some r3 := H
    unfold fD at H
    refine af <| aa ?_;show AR _ _ _ _ _ [0] _;refine za rfl <| ag <| aI ?_;obtain rfl := ak H;exact And.intro rfl (Exists.intro _ (Exists.intro _ ⟨aG rfl (.refl _), aB [] rfl, rfl, rfl⟩))
end Go.Proofs.YtkbfjepffpddfaaGreatDoor
namespace Go.Xm
abbrev Bs := List UInt8
abbrev At := Bs × Bs
abbrev Tok := Int × Bs × Bs × List At
def letB (c : UInt8) : Bool := ((decide (65 ≤ c.toNat) && decide (c.toNat ≤ 90)) || (decide (97 ≤ c.toNat) && decide (c.toNat ≤ 122))) || decide (c = 95)
def lR (c : UInt8) : Bool := letB c || ((((decide (48 ≤ c.toNat) && decide (c.toNat ≤ 57)) || decide (c = 45)) || decide (c = 46)) || decide (c = 58))
def ic (c : UInt8) : Bool := decide (c = 9) || decide (c = 10) || decide (c = 13) || decide (c = 32)
def lv (s : Bs) : Bool := (match s with | [] => false | c :: _ => letB c) && (s.all lR && decide (s.length ≤ 60))
def iU (s : Bs) : Option (Bs × Bs) := if lv (s.takeWhile lR) = true then some (s.takeWhile lR, s.dropWhile lR) else none
def lE (p : Bs) : Bs → Option (Bs × Bs)
  | [] => if p = [] then some ([], []) else none
  | c :: r => if p.isPrefixOf (c :: r) = true then some ([], (c :: r).drop p.length) else match lE p r with | none => none | some (a, b) => some (c :: a, b)
section
variable (dec : Bs → Option Bs)
def qH (n : Bs) (q : UInt8) (s : Bs) : Option (At × Bs) := match lE [q] s with
  | none => none
  | some (raw, r) => if 60 ∈ raw then none else match dec raw with | none => none | some t => some ((n, t), r)
def mW (s : Bs) : Option (At × Bs) := match iU s with
  | none => none
  | some (n, r) => if ([61, 34] : Bs).isPrefixOf r = true then qH dec n 34 (r.drop 2) else if ([61, 39] : Bs).isPrefixOf r = true then qH dec n 39 (r.drop 2) else none
def ig : Nat → List At → Bs → Option (List At × Bool × Bs)
  | 0, _, _ => none
  | k + 1, as_, s =>
    if ([62] : Bs).isPrefixOf (s.dropWhile ic) = true then some (as_, false, (s.dropWhile ic).drop 1)
    else if ([47, 62] : Bs).isPrefixOf (s.dropWhile ic) = true then some (as_, true, (s.dropWhile ic).drop 2)
    else if (s.dropWhile ic).length = s.length then none
    else match mW dec (s.dropWhile ic) with
      | none => none
      | some (a, r) => if as_.any (fun x => decide (x.1 = a.1)) = true then none else ig k (as_ ++ [a]) r
abbrev Sx := Bs × List Bs × Nat × List Tok
inductive Rx
  | ok (x : Sx)
  | no (e : Int)
def lZ (t : Bs) (l : List Tok) : List Tok := if t = [] then l else l ++ [(2, [], t, [])]
def ma (n s : Bs) (open_ : List Bs) (k : Nat) (l : List Tok) : Rx := if open_.getLast? = some n then .ok (s, open_.dropLast, k, l ++ [(1, n, [], [])]) else .no 2
def kx (s : Bs) (o : List Bs) (k : Nat) (l : List Tok) : Rx :=
  match dec (s.takeWhile fun c => decide (c ≠ 60)) with
  | none => .no 2
  | some t => if o = [] then (if (s.takeWhile fun c => decide (c ≠ 60)).all ic = true then .ok (s.dropWhile (fun c => decide (c ≠ 60)), o, k, l) else .no 2)
      else .ok (s.dropWhile (fun c => decide (c ≠ 60)), o, k, lZ t l)
def jn (p s : Bs) (o : List Bs) (k : Nat) (l : List Tok) : Rx := match lE p s with | none => .no 2 | some (_, r) => .ok (r, o, k, l)
def oa (s : Bs) (o : List Bs) (k : Nat) (l : List Tok) : Rx := match lE [93, 93, 62] s with | none => .no 2 | some (t, r) => if o = [] then .no 2 else .ok (r, o, k, lZ t l)
def sx (s : Bs) (o : List Bs) (k : Nat) (l : List Tok) : Rx := match iU s with
  | none => .no 2
  | some (n, r) => if ([62] : Bs).isPrefixOf (r.dropWhile ic) = true then ma n ((r.dropWhile ic).drop 1) o k l else .no 2
def nU (n : Bs) (as_ : List At) (empty : Bool) (r : Bs) (o : List Bs) (k : Nat) (l : List Tok) : Rx :=
  if o = [] ∧ k ≠ 0 then .no 2 else if 20 ≤ o.length then .no 5
  else if empty = true then .ok (r, o, (if o = [] then k + 1 else k), (l ++ [(0, n, [], as_)]) ++ [(1, n, [], [])]) else .ok (r, o ++ [n], (if o = [] then k + 1 else k), l ++ [(0, n, [], as_)])
def nZ (s : Bs) (o : List Bs) (k : Nat) (l : List Tok) : Rx := match iU s with
  | none => .no 2
  | some (n, r) => match ig dec (r.length + 1) [] r with
    | none => .no 2
    | some (as_, empty, r') => nU n as_ empty r' o k l
def gH (s : Bs) (o : List Bs) (k : Nat) (l : List Tok) : Rx :=
  if ([60] : Bs).isPrefixOf s = false then kx dec s o k l
  else if ([60, 33, 45, 45] : Bs).isPrefixOf s = true then jn [45, 45, 62] (s.drop 4) o k l
  else if ([60, 63] : Bs).isPrefixOf s = true then jn [63, 62] (s.drop 2) o k l
  else if ([60, 33, 91, 67, 68, 65, 84, 65, 91] : Bs).isPrefixOf s = true then oa (s.drop 9) o k l
  else if ([60, 33] : Bs).isPrefixOf s = true then jn [62] (s.drop 2) o k l
  else if ([60, 47] : Bs).isPrefixOf s = true then sx (s.drop 2) o k l
  else nZ dec (s.drop 1) o k l
def lS : Nat → Sx → Rx
  | 0, x => .no 2
  | n + 1, (s, o, k, l) => if s = [] then .ok (s, o, k, l) else match gH dec s o k l with
    | .ok y => lS n y
    | .no e => .no e
def mS (s : Bs) : List Tok × Int := match lS dec (s.length + 1) (s, [], 0, []) with
  | .ok (_, o, k, l) => if o = [] ∧ 0 < k then (l, 0) else ([], 2)
  | .no e => ([], e)
end
theorem mj {p : Bs} (hp : p ≠ []) : ∀ {s a b : Bs}, lE p s = some (a, b) → s = a ++ p ++ b
  | [], a, b, h => by
    unfold lE at h
    rw [if_neg hp] at h; cases h
  | c :: r, a, b, h => by
    unfold lE at h
    by_cases g : p.isPrefixOf (c :: r) = true
    · rw [if_pos g] at h
      cases h
      obtain ⟨t, ht⟩ := List.isPrefixOf_iff_prefix.1 g
      rw [← ht, List.drop_left' rfl]; rfl
    · rw [if_neg g] at h
      cases e : lE p r with
      | none => rw [e] at h; cases h
      | some x =>
        obtain ⟨a', b'⟩ := x
        rw [e] at h
        cases h
        rw [mj hp e]
        simp
theorem rC {p s : Bs} (h : p.isPrefixOf s = true) : s = p ++ s.drop p.length := by
  obtain ⟨t, ht⟩ := List.isPrefixOf_iff_prefix.1 h
  rw [← ht, List.drop_left' rfl]
theorem rQ (f : UInt8 → Bool) (s : Bs) : (s.dropWhile f).length ≤ s.length := by
  induction s with
  | nil => simp
  | cons c r ih => rw [List.dropWhile_cons]; split <;> simp at * <;> omega
theorem iE {s n r : Bs} (h : iU s = some (n, r)) : s = n ++ r ∧ lv n = true := by
  unfold iU at h
  split at h
  · rename_i g
    cases h
    exact ⟨(List.takeWhile_append_dropWhile).symm, g⟩
  · cases h
theorem vB {n : Bs} (h : lv n = true) : 0 < n.length := by
  cases n with
  | nil => cases h
  | cons c r => simp
section
variable {dec : Bs → Option Bs}
theorem tJ {n s : Bs} {q : UInt8} {a : At} {r : Bs} (h : qH dec n q s = some (a, r)) : r.length < s.length := by
  unfold qH at h
  cases e : lE [q] s with
  | none => rw [e] at h; cases h
  | some x =>
    obtain ⟨raw, r'⟩ := x
    rw [e] at h
    simp only at h
    split at h
    · cases h
    · split at h
      · cases h
      · cases h
        have := mj (by simp) e
        rw [this]; simp; omega
theorem nI {s : Bs} {a : At} {r : Bs} (h : mW dec s = some (a, r)) : r.length < s.length := by
  unfold mW at h
  cases e : iU s with
  | none => rw [e] at h; cases h
  | some x =>
    obtain ⟨n, r'⟩ := x
    rw [e] at h
    obtain ⟨rfl, hn⟩ := iE e
    have hp := vB hn
    simp only at h
    split at h
    · have := tJ h
      rw [List.length_drop] at this; rw [List.length_append]; omega
    · split at h
      · have := tJ h
        rw [List.length_drop] at this; rw [List.length_append]; omega
      · cases h
theorem oG : ∀ {k : Nat} {as_ : List At} {s : Bs} {bs : List At} {e : Bool} {r : Bs}, ig dec k as_ s = some (bs, e, r) → r.length < s.length
  | 0, _, _, _, _, _, h => by cases h
  | k + 1, as_, s, bs, e, r, h => by
    have hd := rQ ic s
    unfold ig at h
    split at h
    · rename_i g
      cases h
      have := congrArg List.length (rC g)
      rw [List.length_append] at this
      simp at this ⊢
      omega
    · split at h
      · rename_i g
        cases h
        have := congrArg List.length (rC g)
        rw [List.length_append] at this
        simp at this ⊢
        omega
      · split at h
        · cases h
        · cases ea : mW dec (s.dropWhile ic) with
          | none => rw [ea] at h; cases h
          | some x =>
            obtain ⟨a, r'⟩ := x
            rw [ea] at h
            simp only at h
            have h1 := nI ea
            split at h
            · cases h
            · have := oG h
              omega
theorem qq : ∀ {k m : Nat} {as_ : List At} {s : Bs}, s.length < k → s.length < m → ig dec k as_ s = ig dec m as_ s
  | 0, _, _, _, h, _ => by omega
  | _, 0, _, _, _, h => by omega
  | k + 1, m + 1, as_, s, hk, hm => by
    have hd := rQ ic s
    unfold ig
    split
    · rfl
    · split
      · rfl
      · split
        · rfl
        · rename_i g
          cases ea : mW dec (s.dropWhile ic) with
          | none => rfl
          | some x =>
            obtain ⟨a, r'⟩ := x
            have h1 := nI ea
            simp only
            split
            · rfl
            · exact qq (by omega) (by omega)
theorem im {p s : Bs} (hp : p ≠ []) {o : List Bs} {k : Nat} {l : List Tok} {x : Sx} (h : jn p s o k l = .ok x) : x.1.length ≤ s.length ∧ x.2 = (o, k, l) := by
  unfold jn at h
  cases e : lE p s with
  | none => rw [e] at h; cases h
  | some y =>
    obtain ⟨a, b⟩ := y
    rw [e] at h
    cases h
    have := congrArg List.length (mj hp e)
    simp at this ⊢
    omega
theorem nq {s : Bs} {o : List Bs} {k : Nat} {l : List Tok} {x : Sx} (hs : s ≠ []) (h : gH dec s o k l = .ok x) : x.1.length < s.length := by
  have hpos := List.length_pos_iff.2 hs
  have pl : ∀ p : Bs, p.isPrefixOf s = true → p.length ≤ s.length := fun p g => by
    have := congrArg List.length (rC g)
    rw [List.length_append] at this
    omega
  unfold gH at h
  split at h
  · rename_i g
    have hc : ∃ c r, s = c :: r ∧ c ≠ 60 := by
      cases s with
      | nil => exact absurd rfl hs
      | cons c r =>
        refine ⟨c, r, rfl, fun e => ?_⟩
        rw [e] at g
        simp at g
    obtain ⟨c, r, rfl, hc⟩ := hc
    have hd : ((c :: r).dropWhile fun c => decide (c ≠ 60)).length < (c :: r).length := by
      rw [List.dropWhile_cons, if_pos (by simpa using hc)]
      have := rQ (fun c => decide (c ≠ 60)) r
      rw [List.length_cons]; omega
    unfold kx at h
    split at h
    · cases h
    · split at h
      · split at h
        · cases h; exact hd
        · cases h
      · cases h; exact hd
  split at h
  · rename_i g
    have := (im (by simp) h).1
    have := pl _ g
    rw [List.length_drop] at *
    simp at *; omega
  split at h
  · rename_i g
    have := (im (by simp) h).1
    have := pl _ g
    rw [List.length_drop] at *
    simp at *; omega
  split at h
  · rename_i g
    have h9 := pl _ g
    unfold oa at h
    cases e : lE [93, 93, 62] (s.drop 9) with
    | none => rw [e] at h; cases h
    | some y =>
      obtain ⟨a, b⟩ := y
      rw [e] at h
      simp only at h
      have := congrArg List.length (mj (by simp) e)
      simp at this h9
      split at h
      · cases h
      · cases h
        simp only
        omega
  split at h
  · rename_i g
    have := (im (by simp) h).1
    have := pl _ g
    rw [List.length_drop] at *
    simp at *; omega
  split at h
  · rename_i g
    have h2 := pl _ g
    unfold sx at h
    cases e : iU (s.drop 2) with
    | none => rw [e] at h; cases h
    | some y =>
      obtain ⟨n, r⟩ := y
      rw [e] at h
      simp only at h
      have := congrArg List.length (iE e).1
      have hd := rQ ic r
      simp at this h2
      split at h
      · unfold ma at h
        split at h
        · cases h
          simp only [List.length_drop]
          omega
        · cases h
      · cases h
  · unfold nZ at h
    cases e : iU (s.drop 1) with
    | none => rw [e] at h; cases h
    | some y =>
      obtain ⟨n, r⟩ := y
      rw [e] at h
      simp only at h
      have := congrArg List.length (iE e).1
      simp at this
      cases ea : ig dec (r.length + 1) [] r with
      | none => rw [ea] at h; cases h
      | some z =>
        obtain ⟨as_, em, r'⟩ := z
        rw [ea] at h
        simp only at h
        have hl := oG ea
        unfold nU at h
        split at h
        · cases h
        · split at h
          · cases h
          · split at h <;> (cases h; simp only; omega)
end
end Go.Xm
namespace Go.Pn
open Go.Pv Go.Av
abbrev Bs := List UInt8
def bl (c : UInt8) : Bool := (((decide (c = 9)) || (decide (c = 10))) || (decide (c = 13))) || (decide (c = 32))
mutual
/-- Behind a sign. -/
def T1 : Bs → Bs
  | [] => []
  | c :: r => bif bl c then T2 r else c :: T1 r
/-- In a gap behind a sign. -/
def T2 : Bs → Bs
  | [] => []
  | c :: r => bif bl c then T2 r else 32 :: c :: T1 r
end
def trim : Bs → Bs
  | [] => []
  | c :: r => bif bl c then trim r else c :: T1 r
theorem rc (F : Nat) (c : UInt8) : lm F c = some (bl c) := rfl
def tl (out : Bs) (gap : Bool) (r : Bs) : Bs := if out = [] then trim r else bif gap then T2 r else T1 r
theorem wo (F : Nat) (s : Bs) (hs : s.length ≤ 1000000) : ∀ (n : Nat) (out : Bs) (gap : Bool) (i : Nat), s.length - i < n → i ≤ s.length → out.length + gap.toNat ≤ i → (gap = true → out ≠ []) →
    dy F s n (out, gap, (i : Int)) = some (out ++ tl out gap (s.drop i)) := by
  intro n
  induction n with
  | zero => intro out gap i h; omega
  | succ n ih =>
    intro out gap i hn hi ho hg;show gX F s (dy F s n) out gap (i : Int) = _
    unfold gX fY fZ gW
    by_cases h : i < s.length
    · have hd : s.drop i = s[i] :: s.drop (i + 1) := aZ h
      simp (disch := omega) only [bT, cT, bk, fw h, rc, aU, bQ, cr]
      rw [hd]
      cases hb : bl s[i] with
      | true =>
        simp only [cond_true]
        by_cases h0 : out = []
        · subst h0
          rw [ih _ _ _ (by omega) (by omega) (by simp) (by simp)]
          simp [tl, trim, hb]
        · have h1 : (0 : Int) < out.length := by have := List.length_pos_iff.2 h0; omega
          rw [decide_eq_true h1, ih _ _ _ (by omega) (by omega) (by simp; omega) (fun _ => h0)]
          cases gap <;> simp [tl, h0, T1, T2, hb]
      | false =>
        simp only [cond_false]
        cases gap with
        | true =>
          have h0 := hg rfl
          have h1 : out.length + 1 ≤ i := ho
          simp (disch := (simp; omega)) only [cond_true, dS]
          rw [ih _ _ _ (by omega) (by omega) (by simp; omega) (by simp)]
          simp [tl, h0, T2, hb]
        | false =>
          have h1 : out.length ≤ i := ho
          simp (disch := (simp; omega)) only [cond_false, dS]
          rw [ih _ _ _ (by omega) (by omega) (by simp; omega) (by simp)]
          by_cases h0 : out = []
          · subst h0; simp [tl, trim, hb]
          · simp [tl, h0, T1, hb]
    · have hi2 : i = s.length := by omega
      subst hi2
      simp (disch := omega) only [bF, List.drop_length]
      simp [tl, trim, T1, T2]
theorem ref07_Trim_eq (F : Nat) (s : Bs) (hs : s.length ≤ 1000000) (hF : s.length < F) : fK F s = some (trim s) := by
  have := wo F s hs F [] false 0 (by omega) (by omega) (by simp) (by simp)
  simpa [tl, fK] using this
def wgo (cur : Bs) : Bs → List Bs
  | [] => if cur = [] then [] else [cur]
  | c :: r => bif bl c then (if cur = [] then wgo [] r else cur :: wgo [] r) else wgo (cur ++ [c]) r
theorem rest_wgo (s : Bs) : (∀ cur : Bs, cur ≠ [] → Str.join [32] (wgo cur s) = cur ++ T1 s) ∧ Str.join [32] (wgo [] s) = trim s ∧ Str.rest [32] (wgo [] s) = T2 s := by
  induction s with
  | nil => exact ⟨fun cur h => by simp [wgo, h, Str.join, Str.rest, T1], by simp [wgo, Str.join, trim], by simp [wgo, Str.rest, T2]⟩
  | cons c r ih =>
    obtain ⟨h1, h2, h3⟩ := ih
    cases hb : bl c with
    | true =>
      refine ⟨fun cur h => ?_, ?_, ?_⟩
      · simp [wgo, hb, h, Str.join, T1, h3]
      · simp [wgo, hb, trim, h2]
      · simp [wgo, hb, T2, h3]
    | false =>
      have h4 := h1 [c] (by simp)
      refine ⟨fun cur h => ?_, ?_, ?_⟩
      · simp only [wgo, hb, cond_false, T1]
        rw [h1 _ (by simp)]; simp
      · simp only [wgo, hb, cond_false, trim, List.nil_append]
        rw [h4]; rfl
      · simp only [wgo, hb, cond_false, T2, List.nil_append]
        have : Str.rest [32] (wgo [c] r) = 32 :: Str.join [32] (wgo [c] r) := by
          cases hw : wgo [c] r with
          | nil => rw [hw] at h4; simp [Str.join] at h4
          | cons w ws => simp [Str.rest, Str.join]
        rw [this, h4]; rfl
theorem join_wgo (s : Bs) : Str.join [32] (wgo [] s) = trim s := (rest_wgo s).2.1
theorem xr (s : Bs) : ∀ cur : Bs, Str.total (wgo cur s) + (wgo cur s).length ≤ cur.length + s.length + 1 := by
  induction s with
  | nil => intro cur; by_cases h : cur = [] <;> simp [wgo, h, Str.total]
  | cons c r ih =>
    intro cur
    cases hb : bl c with
    | true =>
      have := ih []
      by_cases h : cur = []
      · simp [wgo, hb, h] at this ⊢; omega
      · simp [wgo, hb, h, Str.total] at this ⊢; omega
    | false =>
      have := ih (cur ++ [c])
      simp [wgo, hb] at this ⊢; omega
theorem pe (F : Nat) (c : UInt8) : mf F c = some (bl c) := by
  have : ∀ n : Nat, n < 256 → decide (0 ≤ Go.Lib.indexByte ([9, 10, 13, 32] : List UInt8) (UInt8.ofNat n)) = bl (UInt8.ofNat n) := by decide +kernel
  have h := this c.toNat c.toNat_lt
  rw [UInt8.ofNat_toNat] at h
  unfold mf
  simp only [bk]
  rw [h]
theorem ent_end (F : Nat) (s : Bs) (hs : s.length ≤ 1000000) (n : Nat) (l : List Bs) (hl : l.length + Str.total l ≤ 100000000) (hn1 : n ≥ 1) : ed F s n (l, (-1), ((s.length + 1 : Nat) : Int)) = some (Str.join [32] l) := by
  obtain ⟨m, rfl⟩ : ∃ m, n = m + 1 := ⟨n - 1, by omega⟩;show gw F s (ed F s m) l (-1) ((s.length + 1 : Nat) : Int) = _
  unfold gw jT
  have h1 : ¬ (((s.length + 1 : Nat) : Int) ≤ (s.length : Int)) := by omega
  rw [bF h1, grd_Join (by simp; omega), bk]
theorem ent_loop (F : Nat) (s : Bs) (hs : s.length ≤ 1000000) : ∀ (n : Nat) (l : List Bs) (fr : Int) (cur : Bs) (i : Nat), s.length + 1 - i < n → i ≤ s.length → l.length ≤ i →
    ((fr = -1 ∧ cur = []) ∨ ∃ f : Nat, fr = (f : Int) ∧ f < i ∧ cur = (s.take i).drop f) → (l ++ wgo cur (s.drop i)).length + Str.total (l ++ wgo cur (s.drop i)) ≤ 100000000 →
    ed F s n (l, fr, (i : Int)) = some (Str.join [32] (l ++ wgo cur (s.drop i))) := by
  intro n
  induction n with
  | zero => intro l fr cur i h; omega
  | succ n ih =>
    intro l fr cur i hn hi hl hf hJ;show gw F s (ed F s n) l fr (i : Int) = _
    unfold gw gu
    have hend : ∀ l : List Bs, l.length + Str.total l ≤ 100000000 → n ≥ 1 → ed F s n (l, (-1), ((s.length + 1 : Nat) : Int)) = some (Str.join [32] l) := ent_end F s hs n
    by_cases h : i < s.length
    · have hd : s.drop i = s[i] :: s.drop (i + 1) := aZ h
      have hne : decide ((i : Int) = (s.length : Int)) = false := decide_eq_false (by omega)
      simp (disch := omega) only [bT, hne, Bool.not_false, ky, cT, bk, fw h, pe, wS, aU, Bool.false_or]
      rw [hd] at hJ ⊢
      cases hb : bl s[i] with
      | true =>
        simp only [wgo, hb, cond_true] at hJ ⊢
        rcases hf with ⟨rfl, rfl⟩ | ⟨f, rfl, hfi, rfl⟩
        · simp only [if_true] at hJ ⊢
          simp (disch := omega) only [Bool.not_true, Bool.false_and, cond_false, Bool.true_and, bF, bQ, cr]
          exact ih l (-1) [] (i + 1) (by omega) (by omega) (by omega) (.inl ⟨rfl, rfl⟩) hJ
        · have hc : (s.take i).drop f ≠ [] := by
            intro h2; have := congrArg List.length h2; simp at this; omega
          simp only [hc, if_false] at hJ ⊢
          simp (disch := (first | omega | (simp; omega))) only [Bool.not_true, Bool.false_and, cond_false, Bool.true_and, bT, pz, dS, qN, bQ, cr]
          rw [ih (l ++ [(s.take i).drop f]) (-1) [] (i + 1) (by omega) (by omega) (by simp; omega) (.inl ⟨rfl, rfl⟩) (by simpa using hJ)]
          simp
      | false =>
        simp only [wgo, hb, cond_false] at hJ ⊢
        rcases hf with ⟨rfl, rfl⟩ | ⟨f, rfl, hfi, rfl⟩
        · simp (disch := omega) only [Bool.not_false, Bool.true_and, bT, bQ, cr]
          have hc : ([] : Bs) ++ [s[i]] = (s.take (i + 1)).drop i := by
            rw [List.take_succ_eq_append_getElem h, List.drop_append_of_le_length (by simp; omega), bg (by simp; omega)]
          rw [hc] at hJ ⊢
          exact ih l (i : Int) _ (i + 1) (by omega) (by omega) (by omega) (.inr ⟨i, rfl, by omega, rfl⟩) hJ
        · simp (disch := omega) only [Bool.not_false, Bool.true_and, bF, Bool.false_and, cond_false, bQ, cr]
          have hc : (s.take i).drop f ++ [s[i]] = (s.take (i + 1)).drop f := by
            rw [List.take_succ_eq_append_getElem h, List.drop_append_of_le_length (by simp; omega)]
          rw [hc] at hJ ⊢
          exact ih l (f : Int) _ (i + 1) (by omega) (by omega) (by omega) (.inr ⟨f, rfl, by omega, rfl⟩) hJ
    · have hi2 : i = s.length := by omega
      subst hi2
      have hyes : decide ((s.length : Int) = (s.length : Int)) = true := decide_eq_true rfl
      simp (disch := omega) only [bT, hyes, Bool.not_true, eB, bk, pe, ld, Bool.true_or, List.drop_length] at hJ ⊢
      rcases hf with ⟨rfl, rfl⟩ | ⟨f, rfl, hfi, rfl⟩
      · simp (disch := omega) only [Bool.false_and, cond_false, Bool.true_and, bF, bQ, cr]
        rw [hend l (by simpa [wgo] using hJ) (by omega)]
        simp [wgo, eB, ld]
      · have hc : (s.take s.length).drop f ≠ [] := by
          intro h2; have := congrArg List.length h2; simp at this; omega
        simp only [wgo, hc, if_false] at hJ ⊢
        simp (disch := (first | omega | (simp; omega))) only [Bool.false_and, cond_false, Bool.true_and, bT, pz, dS, qN, bQ, cr]
        exact hend _ hJ (by omega)
theorem ent_Trim_eq (F : Nat) (s : Bs) (hs : s.length ≤ 1000000) (hF : s.length + 1 < F) : mi F s = some (trim s) := by
  have h1 := xr s []
  have := ent_loop F s hs F [] (-1) [] 0 (by omega) (by omega) (by simp) (.inl ⟨rfl, rfl⟩) (by simp at h1 ⊢; omega)
  rw [← join_wgo]
  simpa [mi] using this
end Go.Pn
namespace Go.Fd
open Go.Xm (Bs At Tok)
abbrev El := List Tok
def locB (s : Bs) : Bs := (s.reverse.takeWhile fun c => decide (c ≠ 58)).reverse
def qJ (x : El) : Bs := match x with | [] => [] | t :: _ => locB t.2.1
def fT : Int → El → El → List El
  | _, _, [] => []
  | d, cur, t :: r =>
    if t.1 = 0 then (if d + 1 = 2 then fT (d + 1) [t] r else fT (d + 1) (cur ++ [t]) r)
    else if t.1 = 1 then (if d - 1 = 1 then (cur ++ [t]) :: fT (d - 1) (cur ++ [t]) r else fT (d - 1) (cur ++ [t]) r)
    else fT d (cur ++ [t]) r
def lU (x : El) : List El := fT 0 [] x
def dq (x : El) : Bs := (x.map fun t => if t.1 = 2 then t.2.2.1 else []).flatten
def valP (x : El) : Bs := Go.Pn.trim (dq x)
def valO : Option El → Bs
  | none => []
  | some x => valP x
theorem jt : ∀ (r : El) (d : Int) (cur : El), ∀ y ∈ fT d cur r, y ≠ []
  | [], _, _, y, h => by cases h
  | t :: r, d, cur, y, h => by
    unfold fT at h
    split at h
    · split at h
      · exact jt r _ _ y h
      · exact jt r _ _ y h
    · split at h
      · split at h
        · rcases List.mem_cons.1 h with h | h
          · subst h; simp
          · exact jt r _ _ y h
        · exact jt r _ _ y h
      · exact jt r _ _ y h
theorem mr (a b : El) : dq (a ++ b) = dq a ++ dq b := by
  unfold dq; rw [List.map_append, List.flatten_append]
theorem lj (t : Tok) (b : El) : dq (t :: b) = (if t.1 = 2 then t.2.2.1 else []) ++ dq b := by
  unfold dq; rw [List.map_cons, List.flatten_cons]
theorem nd : ∀ (r : El) (d : Int) (cur : El), ∀ y ∈ fT d cur r, (dq y).length ≤ (dq (cur ++ r)).length ∧ y.length ≤ (cur ++ r).length ∧ ∀ t ∈ y, t ∈ cur ++ r
  | [], _, _, y, h => by cases h
  | t :: r, d, cur, y, h => by
    have e : cur ++ t :: r = (cur ++ [t]) ++ r := by simp
    have keep : ∀ d', y ∈ fT d' (cur ++ [t]) r → (dq y).length ≤ (dq (cur ++ t :: r)).length ∧ y.length ≤ (cur ++ t :: r).length ∧ ∀ u ∈ y, u ∈ cur ++ t :: r := fun d' h => by
      rw [e]; exact nd r d' (cur ++ [t]) y h
    unfold fT at h
    split at h
    · split at h
      · obtain ⟨h1, h2, h3⟩ := nd r _ [t] y h
        refine ⟨?_, ?_, fun u hu => ?_⟩
        · rw [mr, List.length_append]
          rw [List.singleton_append] at h1
          omega
        · rw [List.length_append] at h2 ⊢; simp at h2 ⊢; omega
        · have := h3 u hu
          rw [List.singleton_append] at this
          exact List.mem_append_right _ this
      · exact keep _ h
    · split at h
      · split at h
        · rcases List.mem_cons.1 h with h | h
          · subst h
            refine ⟨?_, ?_, fun u hu => ?_⟩
            · rw [e, mr (cur ++ [t]) r, List.length_append]; omega
            · rw [e]; simp only [List.length_append]; omega
            · rw [e]; exact List.mem_append_left _ hu
          · exact keep _ h
        · exact keep _ h
      · exact keep _ h
theorem nB {x y : El} (h : y ∈ lU x) : (dq y).length ≤ (dq x).length ∧ y.length ≤ x.length ∧ ∀ t ∈ y, t ∈ x := by
  have := nd x 0 [] y h
  rwa [List.nil_append] at this
end Go.Fd
namespace Go.Xm
def rpS (f : Bool) (o : List Bs) (t : Tok) : Option (List Bs) :=
  if f = false ∧ o = [] then none
  else if t.1 = 0 then (if o.length < 20 then some (o ++ [t.2.1]) else none)
  else if t.1 = 1 then (if o.getLast? = some t.2.1 then some o.dropLast else none)
  else if (t.1 = 2 ∧ t.2.2.1 ≠ []) ∧ o ≠ [] then some o else none
def rp : Bool → List Bs → List Tok → Option (List Bs)
  | _, o, [] => some o
  | f, o, t :: r => match rpS f o t with | none => none | some o' => rp false o' r
theorem xb (t : Tok) : ∀ (l : List Tok) (f : Bool) (o : List Bs), rp f o (l ++ [t]) = match rp f o l with | none => none | some o' => rpS (f && l.isEmpty) o' t
  | [], f, o => by
    show (match rpS f o t with | none => none | some o' => some o') = rpS (f && true) o t
    rw [Bool.and_true]
    cases rpS f o t <;> rfl
  | x :: l, f, o => by
    show (match rpS f o x with | none => none | some o' => rp false o' (l ++ [t])) = match (match rpS f o x with | none => none | some o' => rp false o' l) with | none => none | some o' => rpS (f && false) o' t
    cases rpS f o x with
    | none => rfl
    | some o' =>
      simp only
      rw [xb t l false o', Bool.and_false, Bool.false_and]
structure Nest (o : List Bs) (k : Nat) (l : List Tok) : Prop where
  rp : rp true [] l = some o
  few : o.length ≤ 20
  one : k ≤ 1
  none : k = 0 → l = [] ∧ o = []
  some : k ≠ 0 → ∃ t r, l = t :: r ∧ t.1 = 0
theorem Nest.ne {o : List Bs} {k : Nat} {l : List Tok} (h : Nest o k l) (ho : o ≠ []) : k ≠ 0 ∧ l ≠ [] := by
  have : k ≠ 0 := fun e => ho (h.none e).2
  obtain ⟨t, r, e, _⟩ := h.some this;exact ⟨this, by rw [e]; simp⟩
theorem Nest.snoc {o o' : List Bs} {k : Nat} {l : List Tok} {t : Tok} (h : Nest o k l) (ho : o ≠ []) (hr : rpS false o t = Option.some o') (hf : o'.length ≤ 20) : Nest o' k (l ++ [t]) := by
  obtain ⟨hk, hl⟩ := h.ne ho;obtain ⟨x, r, e, hx⟩ := h.some hk;refine ⟨?_, hf, h.one, fun e => absurd e hk, fun _ => ⟨x, r ++ [t], by rw [e]; rfl, hx⟩⟩
  rw [xb, h.rp]
  have : l.isEmpty = false := by cases l with | nil => exact absurd rfl hl | cons a b => rfl
  rw [this, Bool.and_false]
  exact hr
theorem Nest.text {o : List Bs} {k : Nat} {l : List Tok} (h : Nest o k l) (ho : o ≠ []) (t : Bs) : Nest o k (lZ t l) := by
  unfold lZ
  by_cases e : t = []
  · rw [if_pos e]; exact h
  · rw [if_neg e]
    refine h.snoc ho ?_ h.few
    unfold rpS
    rw [if_neg (fun z => ho z.2), if_neg (show ¬ ((2 : Int) = 0) by decide), if_neg (show ¬ ((2 : Int) = 1) by decide), if_pos ⟨⟨rfl, e⟩, ho⟩]
theorem last_ne {o : List Bs} {n : Bs} (h : o.getLast? = some n) : o ≠ [] := fun e => by rw [e] at h; cases h
theorem Nest.shut {o : List Bs} {k : Nat} {l : List Tok} (h : Nest o k l) (n : Bs) (hl : o.getLast? = Option.some n) : Nest o.dropLast k (l ++ [(1, n, [], [])]) := by
  have ho := last_ne hl
  refine h.snoc ho ?_ (by have := h.few; rw [List.length_dropLast]; omega)
  unfold rpS
  rw [if_neg (fun z => ho z.2), if_neg (show ¬ ((1 : Int) = 0) by decide), if_pos rfl, if_pos hl]
theorem Nest.open_ {o : List Bs} {k : Nat} {l : List Tok} (h : Nest o k l) (n : Bs) (as_ : List At) (h1 : ¬ (o = [] ∧ k ≠ 0)) (h2 : ¬ 20 ≤ o.length) :
    Nest (o ++ [n]) (if o = [] then k + 1 else k) (l ++ [(0, n, [], as_)]) := by
  by_cases ho : o = []
  · have hk : k = 0 := by
      by_cases e : k = 0
      · exact e
      · exact absurd ⟨ho, e⟩ h1
    obtain ⟨e1, _⟩ := h.none hk
    subst ho; subst e1; subst hk
    rw [if_pos rfl]
    exact ⟨rfl, by simp, by omega, fun e => by omega, fun _ => ⟨_, [], rfl, rfl⟩⟩
  · rw [if_neg ho]
    refine h.snoc ho ?_ (by simp; omega)
    unfold rpS
    rw [if_neg (fun z => ho z.2), if_pos rfl, if_pos (by omega)]
section
variable {dec : Bs → Option Bs}
theorem Nest.step {s : Bs} {o : List Bs} {k : Nat} {l : List Tok} {x : Sx} (h : Nest o k l) (e : gH dec s o k l = .ok x) : Nest x.2.1 x.2.2.1 x.2.2.2 := by
  unfold gH at e
  split at e
  · unfold kx at e
    split at e
    · cases e
    · split at e
      · split at e
        · cases e; exact h
        · cases e
      · rename_i g
        cases e; exact h.text g _
  split at e
  · have := (im (by simp) e).2
    rw [this]; exact h
  split at e
  · have := (im (by simp) e).2
    rw [this]; exact h
  split at e
  · unfold oa at e
    split at e
    · cases e
    · split at e
      · cases e
      · rename_i g
        cases e; exact h.text g _
  split at e
  · have := (im (by simp) e).2
    rw [this]; exact h
  split at e
  · unfold sx at e
    split at e
    · cases e
    · split at e
      · unfold ma at e
        split at e
        · rename_i g
          cases e; exact h.shut _ g
        · cases e
      · cases e
  · unfold nZ at e
    split at e
    · cases e
    · rename_i n r hn
      split at e
      · cases e
      · rename_i as_ em r' ha
        unfold nU at e
        split at e
        · cases e
        · rename_i g1
          split at e
          · cases e
          · rename_i g2
            have ho := h.open_ n as_ g1 g2
            split at e
            · cases e
              have := ho.shut n (by simp)
              simpa using this
            · cases e; exact ho
theorem Nest.run : ∀ {n : Nat} {x y : Sx}, Nest x.2.1 x.2.2.1 x.2.2.2 → lS dec n x = .ok y → Nest y.2.1 y.2.2.1 y.2.2.2
  | 0, x, y, h, e => by cases e
  | n + 1, (s, o, k, l), y, h, e => by
    unfold lS at e
    split at e
    · cases e; exact h
    · cases es : gH dec s o k l with
      | no e' => rw [es] at e; cases e
      | ok z =>
        rw [es] at e
        exact Nest.run (h.step es) e
theorem nest_nil : Nest [] 0 [] := ⟨rfl, by simp, by omega, fun _ => ⟨rfl, rfl⟩, fun e => absurd rfl e⟩
end
end Go.Xm
namespace Go.Fd
open Go.Pv Go.Av
open Go.Xm (Bs At Tok)
open Go.Pn (bl T1 T2 trim)
inductive P1 : Bs → Prop
  | nil : P1 []
  | sign {c : UInt8} {t : Bs} (h : bl c = false) (g : P1 t) : P1 (c :: t)
  | gap {c : UInt8} {t : Bs} (h : bl c = false) (g : P1 t) : P1 (32 :: c :: t)
theorem P1_T (r : Bs) : P1 (T1 r) ∧ P1 (T2 r) := by
  induction r with
  | nil => exact ⟨.nil, .nil⟩
  | cons c r ih =>
    cases hb : bl c with
    | true => simp only [T1, T2, hb, cond_true]; exact ⟨ih.2, ih.2⟩
    | false => simp only [T1, T2, hb, cond_false]; exact ⟨.sign hb ih.1, .gap hb ih.1⟩
theorem bl32 : bl 32 = true := by decide
theorem T1_P1 {t : Bs} (h : P1 t) : T1 t = t := by
  induction h with
  | nil => rfl
  | sign h g ih => simp only [T1, h, cond_false, ih]
  | gap h g ih => simp only [T1, T2, bl32, h, cond_false, cond_true, ih]
theorem xz (s : Bs) : trim s = [] ∨ ∃ c t, trim s = c :: t ∧ bl c = false ∧ P1 t := by
  induction s with
  | nil => exact .inl rfl
  | cons c r ih =>
    cases hb : bl c with
    | true => simp only [trim, hb, cond_true]; exact ih
    | false => simp only [trim, hb, cond_false]; exact .inr ⟨c, _, rfl, hb, (P1_T r).1⟩
theorem xy (s : Bs) : trim (trim s) = trim s := by
  rcases xz s with h | ⟨c, t, h, hc, ht⟩
  · rw [h]; rfl
  · rw [h]; simp only [trim, hc, cond_false, T1_P1 ht]
theorem T_len (s : Bs) : (T1 s).length ≤ s.length ∧ (T2 s).length ≤ s.length + 1 := by
  induction s with
  | nil => simp [T1, T2]
  | cons c r ih => cases hb : bl c <;> simp [T1, T2, hb] <;> omega
theorem trim_len : ∀ s : Bs, (trim s).length ≤ s.length := by
  intro s
  induction s with
  | nil => simp [trim]
  | cons c r ih =>
    have := (T_len r).1
    cases hb : bl c <;> simp [trim, hb] <;> omega
def nV : Bool → List Bs → El → Bool
  | f, o, [] => !f && o.isEmpty
  | f, o, t :: r =>
    if f = false ∧ o = [] then false
    else if t.1 = 0 then nV false (o ++ [t.2.1]) r
    else if t.1 = 1 ∧ o.getLast? = some t.2.1 then nV false o.dropLast r
    else if t.1 ≠ 2 ∨ o = [] then false
    else nV false o r
abbrev Ent := Bs × Bs × Bs × Bs × Int
def hasN (ns : List Bs) (y : El) : Bool := Go.Lib.contains ([124] ++ Str.join [124] ns ++ [124]) ([124] ++ qJ y ++ [124]) && !Go.Lib.contains (qJ y) [124]
def isN (n : Bs) (y : El) : Bool := decide (qJ y = n)
def mI (p : El → Bool) (x : El) : Option El := (lU x).find? p
def lQ (ns : List Bs) (x : El) : Bs := valO (mI (hasN ns) x)
def attL (n : Bs) (as_ : List At) : Option Bs := (as_.find? fun a => decide (a.1 = n)).map (·.2)
def attO (n : Bs) (y : El) : Option Bs := match y with | [] => none | t :: _ => attL n t.2.2.2
def optS : Option Bs → Bs
  | none => []
  | some s => s
theorem sH (o : Option El) : trim (valO o) = valO o ∧ ∃ y : El, (o = some y ∧ (valO o).length ≤ (dq y).length) ∨ (o = none ∧ valO o = []) := by
  cases o with
  | none => exact ⟨rfl, [], .inr ⟨rfl, rfl⟩⟩
  | some y => exact ⟨xy _, y, .inl ⟨rfl, trim_len _⟩⟩
theorem jy (ns : List Bs) (x : El) : trim (lQ ns x) = lQ ns x := (sH _).1
theorem jY (ns : List Bs) (x : El) : (lQ ns x).length ≤ (dq x).length := by
  obtain ⟨_, y, ⟨h, k⟩ | ⟨h, k⟩⟩ := sH (mI (hasN ns) x)
  · have := nB (List.mem_of_find?_eq_some h)
    exact Nat.le_trans k this.1
  · unfold lQ; rw [k]; exact Nat.zero_le _
end Go.Fd
namespace Go.Pn
open Go.Pv Go.Av
theorem pc {c : UInt8} {s : Bs} (h : ∀ b ∈ s, b ≠ c) : Go.Lib.indexByte s c = -1 := by
  induction s with
  | nil => rfl
  | cons b r ih => simp [Go.Lib.indexByte, h b (by simp), ih (fun x hx => h x (by simp [hx]))]
end Go.Pn
namespace Go.Pn
open Go.Pv Go.Av
theorem vO (s : Bs) (p : Nat) : 1 ≤ (mQ s p).2 := by
  unfold mQ Utf8.decode
  simp only
  repeat' split
  all_goals simp
theorem lk (n : Int) : (cG n).length ≤ 4 := by
  unfold cG Utf8.encode
  simp only
  repeat' split
  all_goals simp
theorem qd (n : Int) (h : 128 ≤ n) : 2 ≤ (cG n).length ∧ ((cG n).length = 2 → ¬ (59 : UInt8) = at_ (cG n) 1) := by
  have hc : ¬ (if Utf8.valid n = true then n.toNat else Utf8.runeError) < 128 := by
    split
    · omega
    · decide
  unfold cG Utf8.encode
  simp only
  generalize (if Utf8.valid n = true then n.toNat else Utf8.runeError) = c at hc ⊢
  rw [if_neg hc]
  by_cases h2 : c < 2048
  · rw [if_pos h2]
    refine ⟨by simp, fun _ => ?_⟩;show ¬ (59 : UInt8) = UInt8.ofNat (128 + c % 64);intro e
    have := congrArg UInt8.toNat e
    rw [UInt8.toNat_ofNat'] at this
    have e59 : (59 : UInt8).toNat = 59 := rfl
    omega
  · rw [if_neg h2]
    split <;> simp
theorem vd (F : Nat) (hF : 5 ≤ F) (r : Int) : ∃ j, iG F [38, 59] r = some j := by
  unfold iG
  by_cases h1 : 0 ≤ r ∧ r < 128
  · simp only [h1, decide_true, Bool.and_self, cond_true]; exact ⟨_, rfl⟩
  · have hf : ((decide (0 ≤ r)) && (decide (r < 128))) = false := by
      cases h : (decide (0 ≤ r)) && (decide (r < 128)) with
      | false => rfl
      | true => exact absurd (by simpa using h) h1
    rw [hf, cond_false]
    by_cases h2 : r = 65533
    · rw [bT h2]
      obtain ⟨m, rfl⟩ : ∃ m, F = m + 3 := ⟨F - 3, by omega⟩
      have e0 : mQ [38, 59] 0 = (38, 1) := by decide +kernel
      have e1 : mQ [38, 59] 1 = (59, 1) := by decide +kernel
      refine ⟨-1, ?_⟩;show eC [38, 59] (iw [38, 59] (m + 2)) 0 = _
      unfold eC
      simp only [e0]
      show eC [38, 59] (iw [38, 59] (m + 1)) 1 = _
      unfold eC
      simp only [e1]
      rfl
    · rw [bF h2]
      have hv : ∃ b, jC F r = some b ∧ (b = true → 0 ≤ r) := by
        unfold jC
        by_cases ha : 0 ≤ r ∧ r < 55296
        · refine ⟨true, ?_, fun _ => ha.1⟩; simp [ha]
        · by_cases hb : 57343 < r ∧ r ≤ 1114111
          · refine ⟨true, ?_, fun _ => by omega⟩; simp [hb]
          · refine ⟨false, ?_, fun h => by cases h⟩
            have e1 : ((decide (0 ≤ r)) && (decide (r < 55296))) = false := by
              cases h : (decide (0 ≤ r)) && (decide (r < 55296)) with
              | false => rfl
              | true => exact absurd (by simpa using h) ha
            have e2 : ((decide (57343 < r)) && (decide (r ≤ 1114111))) = false := by
              cases h : (decide (57343 < r)) && (decide (r ≤ 1114111)) with
              | false => rfl
              | true => exact absurd (by simpa using h) hb
            rw [e1, e2]; rfl
      obtain ⟨b, hb, hp⟩ := hv
      rw [hb, aU]
      cases b with
      | false => exact ⟨-1, rfl⟩
      | true =>
        have hr : 128 ≤ r := by have := hp rfl; omega
        obtain ⟨k1, k2⟩ := qd r hr
        have k3 := lk r
        obtain ⟨m, rfl⟩ : ∃ m, F = m + 1 := ⟨F - 1, by omega⟩;refine ⟨-1, ?_⟩
        simp (disch := omega) only [Bool.not_true, cond_false, bk, bQ]
        show ix [38, 59] (cG r) (kT [38, 59] (cG r) m) = _
        unfold ix ju
        by_cases h3 : (cG r).length = 2
        · have e1 : ((cG r).length : Int) - 1 = 1 := by omega
          have e2 : at_ ([38, 59] : Bs) 1 = 59 := rfl
          have e3 : cY ([38, 59] : Bs) (1 + 1) = [] := rfl
          rw [e1]
          simp (disch := (first | omega | (simp; done) | (simp; omega))) only [bT, cT, bk, e2, decide_eq_false (k2 h3), Bool.not_false, mV, bQ, dZ, e3]
          rfl
        · have : ¬ ((cG r).length : Int) - 1 < (([38, 59] : Bs).length : Int) := by simp; omega
          rw [bF this]
theorem ln (s : Bs) (c : UInt8) : -1 ≤ Go.Lib.indexByte s c ∧ Go.Lib.indexByte s c < s.length := by
  induction s with
  | nil => simp [Go.Lib.indexByte]
  | cons b r ih =>
    unfold Go.Lib.indexByte
    split
    · first | (simp; done) | (simp; omega)
    · split
      · first | (simp; done) | (simp; omega)
      · rename_i h
        have h' : ¬ Go.Lib.indexByte r c = -1 := by simpa using h
        simp; omega
theorem mu (s cs : Bs) : -1 ≤ Go.Lib.indexAny s cs ∧ Go.Lib.indexAny s cs < s.length := by
  induction s with
  | nil => simp [Go.Lib.indexAny]
  | cons b r ih =>
    unfold Go.Lib.indexAny
    split
    · first | (simp; done) | (simp; omega)
    · split
      · first | (simp; done) | (simp; omega)
      · rename_i h
        have h' : ¬ Go.Lib.indexAny r cs = -1 := by simpa using h
        simp; omega
theorem ug (F : Nat) (hF : 5 ≤ F) (s : Bs) : ∀ (n y : Nat), s.length - y < n → ∃ j, iz F s [38, 59] n y = some j ∧ -1 ≤ j ∧ j < s.length := by
  intro n
  induction n with
  | zero => intro y h; omega
  | succ n ih =>
    intro y hy;show ∃ j, iA F s [38, 59] (iz F s [38, 59] n) y = some j ∧ _
    unfold iA jw
    by_cases h : y < s.length
    · rw [bT h]
      obtain ⟨j, hj⟩ := vd F hF ((mQ s y).1 : Int)
      rw [hj, aU]
      by_cases h0 : 0 ≤ j
      · rw [bT h0]; exact ⟨_, rfl, by omega, by omega⟩
      · rw [bF h0]
        have := vO s y
        exact ih _ (by omega)
    · rw [bF h]; exact ⟨-1, rfl, by omega, by omega⟩
theorem wu (F : Nat) (s : Bs) (hF : 20 ≤ F) : ∃ j, lV F s [38, 59] = some j ∧ -1 ≤ j ∧ j < s.length := by
  unfold lV
  by_cases h : 8 < s.length
  · obtain ⟨h1, h2⟩ := mu s [38, 59]
    refine ⟨Go.Lib.indexAny s [38, 59], ?_, h1, h2⟩
    simp [h]
  · have e : ((decide (8 < s.length)) && (decide (2 ≤ ([38, 59] : Bs).length))) = false := by simp [h]
    rw [e, cond_false]
    unfold mO rK jv
    have e3 : decide ((8 : Int) < (s.length : Int)) = false := decide_eq_false (by omega)
    simp (disch := (first | omega | (simp; done) | (simp; omega))) only [bF, aU, e3, Bool.not_false, mV]
    exact ug F (by omega) s F 0 (by omega)
theorem ui (F : Nat) (s : Bs) (hs : s.length ≤ 100000) : ∃ b, gx F s [95] = some b := by
  unfold gx lV mO iy iG
  have e : ((decide (8 < s.length)) && (decide (2 ≤ ([95] : Bs).length))) = false := by simp
  have e2 : at_ ([95] : Bs) 0 = 95 := rfl
  have e3 : iV [95] = true := by decide
  have e4 : ((95 : UInt8).toNat : Int) = 95 := rfl
  rw [e, cond_false]
  simp (disch := (first | omega | (simp; done) | (simp; omega))) only [e3, mV, mb, bF, bT, cT, bk, e2, e4, grd_J]
  exact ⟨_, rfl⟩
theorem pv (x : Int) : 0 ≤ IntKind.u64.wrap x := by
  have : IntKind.u64.wrap x = x % 18446744073709551616 := rfl
  rw [this]; omega
def Ok3 (r : Option (Int × Int)) : Prop := ∃ v e, r = some (v, e) ∧ 0 ≤ v ∧ (e = 0 ∨ e = 1 ∨ e = 2)
theorem xx (F : Nat) (s : Bs) (b c : Int) (hb : b = 10 ∨ b = 16) (hs : s.length ≤ 100000) : ∀ (n i : Nat) (v : Int), s.length - i < n → 0 ≤ v → Ok3 (bW F s b c n (false, v, (i : Int))) := by
  intro n
  induction n with
  | zero => intro i v h; omega
  | succ n ih =>
    intro i v hn hv;show Ok3 (dL F s b c (bW F s b c n) false v (i : Int))
    unfold dL eJ fA
    by_cases h : i < s.length
    · have key : ∀ d : UInt8, Ok3 (cM b c false v (i : Int) (bW F s b c n) d) := by
        intro d
        unfold cM dK
        cases decide (((Go.Av.toB b).toNat : Int) ≤ (d.toNat : Int)) with
        | true => exact ⟨0, 2, rfl, by omega, by omega⟩
        | false =>
          rw [cond_false]
          cases decide (c ≤ v) with
          | true => exact ⟨_, 1, rfl, pv _, by omega⟩
          | false =>
            rw [cond_false]
            generalize ((decide (IntKind.u64.wrap ((IntKind.u64.wrap (v * (IntKind.u64.wrap b))) + (IntKind.u64.wrap (d.toNat : Int))) < IntKind.u64.wrap (v * (IntKind.u64.wrap b)))) || (decide (IntKind.u64.wrap ((IntKind.u64.wrap (1 * 2 ^ min (Int.toNat (IntKind.u64.wrap 64)) IntKind.u64.bits)) - 1) < IntKind.u64.wrap ((IntKind.u64.wrap (v * (IntKind.u64.wrap b))) + (IntKind.u64.wrap (d.toNat : Int)))))) = q
            cases q with
            | true => exact ⟨_, 1, rfl, pv _, by omega⟩
            | false =>
              rw [cond_false, bQ (by omega), cr]
              exact ih _ _ (by omega) (pv _)
      have hb0 : decide (b = 0) = false := decide_eq_false (by omega)
      simp (disch := omega) only [bT, cT, bk, fw h, hb0, Bool.and_false, cond_false, aU, dk]
      generalize ((decide (48 ≤ ((s[i]).toNat : Int))) && (decide (((s[i]).toNat : Int) ≤ 57))) = q1
      cases q1 with
      | true => exact key _
      | false =>
        rw [cond_false]
        generalize ((decide (97 ≤ ((s[i] ||| 32).toNat : Int))) && (decide ((((bif decide (97 ≤ ((s[i] ||| 32).toNat : Int)) then (s[i] ||| 32) else default) : UInt8).toNat : Int) ≤ 122))) = q2
        cases q2 with
        | true => exact key _
        | false => exact ⟨0, 2, rfl, by omega, by omega⟩
    · rw [bF (by omega), ld]
      exact ⟨v, 0, rfl, hv, by omega⟩
theorem uint_tot (F : Nat) (s : Bs) (b : Int) (hb : b = 10 ∨ b = 16) (hs : s.length ≤ 100000) (hF : s.length < F) : Ok3 (fG F s b 0) := by
  unfold fG eH eI df
  by_cases h0 : s = []
  · rw [bT h0]; exact ⟨0, 2, rfl, by omega, by omega⟩
  · rw [bF h0]
    have h2 : ((decide (2 ≤ b)) && (decide (b ≤ 36))) = true := by rcases hb with rfl | rfl <;> rfl
    have hw := pv 64
    rw [h2, mV, jZ rfl]
    have go := fun c => xx F s b c hb hs F 0 0 (by omega) (by omega)
    rcases hb with rfl | rfl
    · rw [bT rfl, jZ hw, dS (by omega)]; exact go _
    · rw [bF (by omega), bT rfl, jZ hw, dS (by omega)]; exact go _
theorem int_tot (F : Nat) (s : Bs) (b : Int) (hb : b = 10 ∨ b = 16) (hs : s.length ≤ 100000) (hF : s.length < F) (h43 : at_ s 0 ≠ 43) (h45 : at_ s 0 ≠ 45) : ∃ v e, dv F s b 0 = some (v, e) := by
  have hi : ∃ v e, gp F s b 0 = some (v, e) ∧ (e = 0 ∨ e = 1 ∨ e = 2) := by
    unfold gp dC fo ew
    by_cases h0 : s = []
    · rw [bT h0]; exact ⟨0, 2, rfl, by omega⟩
    · have hp : 0 < s.length := List.length_pos_iff.2 h0
      obtain ⟨v, e, hv, hv0, he⟩ := uint_tot F s b hb hs hF
      have e1 : IntKind.u64.wrap (1 * 2 ^ min (Int.toNat (IntKind.u64.wrap 63)) IntKind.u64.bits) = 9223372036854775808 := by decide +kernel
      have e2 : (0 : Int) ≤ IntKind.u64.wrap 63 := by decide +kernel
      have e3 : IntKind.u64.wrap (9223372036854775808 - 1) = 9223372036854775807 := by decide +kernel
      simp (disch := omega) only [bF, cT, bk, hv, aO, e1, e3, jZ e2, bQ, jZ, Bool.not_false, Bool.true_and, Bool.false_and, cond_false]
      rcases he with rfl | rfl | rfl
      · rw [show ((!decide ((0 : Int) = 0)) && (!decide ((0 : Int) = 1))) = false by rfl, cond_false]
        by_cases hb : (9223372036854775808 : Int) ≤ v
        · rw [bT hb]; exact ⟨_, 1, rfl, by omega⟩
        · rw [bF hb, bQ (by omega)]; exact ⟨_, 0, rfl, by omega⟩
      · rw [show ((!decide ((1 : Int) = 0)) && (!decide ((1 : Int) = 1))) = false by rfl, cond_false]
        by_cases hb : (9223372036854775808 : Int) ≤ v
        · rw [bT hb]; exact ⟨_, 1, rfl, by omega⟩
        · rw [bF hb, bQ (by omega)]; exact ⟨_, 0, rfl, by omega⟩
      · rw [show ((!decide ((2 : Int) = 0)) && (!decide ((2 : Int) = 1))) = true by rfl, cond_true]
        exact ⟨_, 2, rfl, by omega⟩
  obtain ⟨v, e, hv, he⟩ := hi
  unfold dv
  rw [hv, aO]
  rcases he with rfl | rfl | rfl
  · exact ⟨_, _, rfl⟩
  · rw [show (!decide ((1 : Int) = 0)) = true by rfl, cond_true, mb (by omega), jZ (by omega)]; exact ⟨_, _, rfl⟩
  · rw [show (!decide ((2 : Int) = 0)) = true by rfl, cond_true, mb (by omega), jZ (by omega)]; exact ⟨_, _, rfl⟩
theorem rune_tot (F : Nat) (r : Int) : ∃ o b, jl F r = some (o, b) ∧ o.length ≤ 4 := by
  have fin : -2147483648 ≤ r ∧ r ≤ 2147483647 → ∃ o b, grd (okJ r) (lt (cG r) fun x17 => some (x17, true)) = some (o, b) ∧ o.length ≤ 4 := by
    intro h; rw [grd_J h]; exact ⟨_, _, rfl, lk r⟩
  unfold jl lW
  simp only [dk]
  cases hA : ((decide (r = 9)) || (decide (r = 10))) || (decide (r = 13)) with
  | true =>
    have : r = 9 ∨ r = 10 ∨ r = 13 := by simpa [or_assoc] using hA
    simp only [Bool.not_true, Bool.false_and, cond_false]
    exact fin (by omega)
  | false =>
    simp only [Bool.not_false, Bool.true_and, cond_true]
    cases h7 : (decide (32 ≤ r)) && (decide (r ≤ 55295)) with
    | true =>
      have : 32 ≤ r ∧ r ≤ 55295 := by simpa using h7
      simp only [Bool.not_true, Bool.false_and, cond_false]
      exact fin (by omega)
    | false =>
      simp only [Bool.not_false, Bool.true_and, cond_true]
      cases h10 : (decide (57344 ≤ r)) && (decide (r ≤ 65533)) with
      | true =>
        have : 57344 ≤ r ∧ r ≤ 65533 := by simpa using h10
        simp only [Bool.not_true, Bool.false_and, cond_false]
        exact fin (by omega)
      | false =>
        simp only [Bool.not_false, Bool.true_and, cond_true]
        cases h13 : (decide (65536 ≤ r)) && (decide (r ≤ 1114111)) with
        | true =>
          have : 65536 ≤ r ∧ r ≤ 1114111 := by simpa using h13
          simp only [Bool.not_true, Bool.false_and, cond_false]
          exact fin (by omega)
        | false => exact ⟨[], false, rfl, by simp⟩
theorem rt (F : Nat) (s : Bs) (b : Int) (hb : b = 10 ∨ b = 16) (hs : s.length ≤ 100000) (hF : s.length < F) : ∃ o k, dQ F s b = some (o, k) ∧ o.length ≤ 4 := by
  obtain ⟨cb, hcb⟩ := ui F s hs
  have no : ∃ o k, (some (([] : Bs), false) : Option (Bs × Bool)) = some (o, k) ∧ o.length ≤ 4 := ⟨[], false, rfl, by simp⟩
  unfold dQ
  cases s with
  | nil => simp [eB, bk, ld]
  | cons c r =>
    have h0 : decide ((c :: r) = []) = false := decide_eq_false (by simp)
    have ha : at_ (c :: r) 0 = c := rfl
    have hg : ∀ (q : Bool) (k : Option (Bs × Bool)), fq q (dr 0 (c :: r).length) k = k := fun q k => nR (fun _ => by simp)
    simp only [hg, h0, bk, ha, hcb, dk, Bool.false_or]
    by_cases h1 : c = 43
    · simp [h1]
    · by_cases h2 : c = 45
      · simp [h2]
      · by_cases h3 : c = 95
        · simp [h3]
        · simp only [h1, h2, h3, decide_false, Bool.or_self, Bool.false_or, Bool.not_false, cond_true]
          cases cb with
          | true => exact no
          | false =>
            obtain ⟨v, e, hv⟩ := int_tot F (c :: r) b hb hs hF (by rw [ha]; exact h1) (by rw [ha]; exact h2)
            rw [cond_false, hv, aO]
            cases hz : (!decide (e = 0)) with
            | true => exact no
            | false =>
              obtain ⟨o, k, ho, hl⟩ := rune_tot F v
              rw [cond_false, ho, aO]
              exact ⟨o, k, rfl, hl⟩
theorem vq (F : Nat) (s : Bs) (hs : s.length ≤ 100000) (hF : s.length < F) : ∃ o k, iq F s = some (o, k) ∧ o.length ≤ 4 := by
  have htp : ∀ p, (Go.Lib.trimPrefix s p).length ≤ s.length := by
    intro p; unfold Go.Lib.trimPrefix; split <;> simp
  unfold iq kJ
  simp only [aU, bk]
  generalize ([(([97, 109, 112] : List UInt8), (38 : Int)), (([108, 116] : List UInt8), 60), (([103, 116] : List UInt8), 62), (([113, 117, 111, 116] : List UInt8), 34), (([97, 112, 111, 115] : List UInt8), 39)] : List (List UInt8 × Int)) = m
  cases Go.Av.mhas m s with
  | true => exact ⟨_, _, rfl, lk _⟩
  | false =>
    rw [cond_false]
    cases Go.Lib.hasPrefix s [35, 120] with
    | true =>
      have := htp [35, 120]
      obtain ⟨o, k, ho, hl⟩ := rt F (Go.Lib.trimPrefix s [35, 120]) 16 (.inr rfl) (by omega) (by omega)
      rw [cond_true, ho, aO]; exact ⟨o, k, rfl, hl⟩
    | false =>
      rw [cond_false]
      cases Go.Lib.hasPrefix s [35] with
      | true =>
        have := htp [35]
        obtain ⟨o, k, ho, hl⟩ := rt F (Go.Lib.trimPrefix s [35]) 10 (.inl rfl) (by omega) (by omega)
        rw [cond_true, ho, aO]; exact ⟨o, k, rfl, hl⟩
      | false => exact ⟨[], false, rfl, by simp⟩
theorem sY (F : Nat) (s : Bs) (h1 : 1 ≤ s.length) (hs : s.length ≤ 100000) (hF : s.length + 20 < F) : ∃ o k, jB F s = some (o, k) ∧ (k = 0 ∨ (3 ≤ k ∧ k ≤ s.length ∧ o.length ≤ 4)) := by
  have no : ∃ o k, (some (([] : Bs), (0 : Int)) : Option (Bs × Int)) = some (o, k) ∧ (k = 0 ∨ (3 ≤ k ∧ k ≤ s.length ∧ o.length ≤ 4)) := ⟨[], 0, rfl, .inl rfl⟩
  have hl : (cY s 1).length = s.length - 1 := by simp [cY]
  obtain ⟨j, hj, hj1, hj2⟩ := wu F (cY s 1) (by omega)
  have ha : iV [38, 59] = true := by decide
  unfold jB lW
  simp (disch := (first | omega | (simp; done) | (simp; omega))) only [dZ, bk, ha, mV, mb, hj, aU]
  by_cases h : 1 ≤ j ∧ j ≤ 10
  · have hx : ((decide (1 ≤ j)) && (decide (j ≤ 10))) = true := by simp [h]
    simp (disch := (first | omega | (simp; done) | (simp; omega))) only [hx, Bool.not_true, Bool.not_false, ky, bQ, cT, Bool.false_or]
    cases decide (at_ s (j + 1) = 38) with
    | true => exact no
    | false =>
      have hsub : (sub s 1 (j + 1)).length ≤ s.length := by simp [sub]; omega
      obtain ⟨o, k, ho, hol⟩ := vq F (sub s 1 (j + 1)) (by omega) (by omega)
      simp (disch := (first | omega | (simp; done) | (simp; omega))) only [cond_false, pz, bk, ho, aO]
      cases k with
      | false => exact no
      | true =>
        simp (disch := (first | omega | (simp; done) | (simp; omega))) only [Bool.not_true, cond_false, bQ]
        exact ⟨o, j + 2, rfl, .inr ⟨by omega, by omega, hol⟩⟩
  · have hx : ((decide (1 ≤ j)) && (decide (j ≤ 10))) = false := by
      cases hq : (decide (1 ≤ j)) && (decide (j ≤ 10)) with
      | false => rfl
      | true => exact absurd (by simpa using hq) h
    simp only [hx, Bool.not_false, Bool.not_true, eB, Bool.true_or, cond_true]
    exact no
end Go.Pn
namespace Go.Pn
open Go.Pv Go.Av
def dg (c : UInt8) : Nat := if 48 ≤ c.toNat ∧ c.toNat ≤ 57 then c.toNat - 48 else if 97 ≤ c.toNat ∧ c.toNat ≤ 102 then c.toNat - 87 else if 65 ≤ c.toNat ∧ c.toNat ≤ 70 then c.toNat - 55 else 99
theorem uH {p : UInt8 → Prop} (h : ∀ n : Nat, n < 256 → p (UInt8.ofNat n)) (c : UInt8) : p c := by
  have := h c.toNat (UInt8.toNat_lt c)
  rwa [UInt8.ofNat_toNat] at this
theorem digit_eq (F : Nat) (c : UInt8) : ll F c = some (dg c : Int) := by
  show ll 0 c = _;exact uH (p := fun c => ll 0 c = some (dg c : Int)) (by decide +kernel) c
def isD (x : UInt8) : Bool := (decide (48 ≤ (x.toNat : Int))) && (decide ((x.toNat : Int) ≤ 57))
def isL (x : UInt8) : Bool := (decide (97 ≤ ((x ||| 32).toNat : Int))) && (decide (((x ||| 32).toNat : Int) ≤ 122))
theorem dig_D (b : Nat) (hb : b = 10 ∨ b = 16) (x : UInt8) (h : isD x = true) : (b ≤ (x - 48).toNat ↔ b ≤ dg x) ∧ ((x - 48).toNat < b → (x - 48).toNat = dg x) := by
  revert h
  refine uH (p := fun x => isD x = true → (b ≤ (x - 48).toNat ↔ b ≤ dg x) ∧ ((x - 48).toNat < b → (x - 48).toNat = dg x)) ?_ x
  rcases hb with rfl | rfl <;> decide +kernel
theorem dig_L (b : Nat) (hb : b = 10 ∨ b = 16) (x : UInt8) (h0 : isD x = false) (h : isL x = true) : (b ≤ ((x ||| 32) - 97 + 10).toNat ↔ b ≤ dg x) ∧ (((x ||| 32) - 97 + 10).toNat < b → ((x ||| 32) - 97 + 10).toNat = dg x) := by
  revert h0 h
  refine uH (p := fun x => isD x = false → isL x = true → (b ≤ ((x ||| 32) - 97 + 10).toNat ↔ b ≤ dg x) ∧ (((x ||| 32) - 97 + 10).toNat < b → ((x ||| 32) - 97 + 10).toNat = dg x)) ?_ x
  rcases hb with rfl | rfl <;> decide +kernel
theorem dig_no (x : UInt8) (h0 : isD x = false) (h : isL x = false) : dg x = 99 := by
  revert h0 h
  exact uH (p := fun x => isD x = false → isL x = false → dg x = 99) (by decide +kernel) x
def num (b : Nat) : Nat → Bs → Option Nat
  | v, [] => some v
  | v, c :: r => if b ≤ dg c then none else num b (b * v + dg c) r
theorem uA (x : Int) (h0 : 0 ≤ x) (h1 : x < 18446744073709551616) : IntKind.u64.wrap x = x := by
  have : IntKind.u64.wrap x = x % 18446744073709551616 := rfl
  rw [this]; omega
theorem ua (F : Nat) (s : Bs) (b : Nat) (hb : b = 10 ∨ b = 16) (c : Int) (hc : 1152921504606846976 ≤ c) (hs : s.length ≤ 10) : ∀ (n i v : Nat), s.length - i < n → v < 16 ^ i → i ≤ s.length →
    bW F s (b : Int) c n (false, (v : Int), (i : Int)) = match num b v (s.drop i) with | none => some (0, 2) | some w => some ((w : Int), 0) := by
  intro n
  induction n with
  | zero => intro i v h; omega
  | succ n ih =>
    intro i v hn hv hi;show dL F s (b : Int) c (bW F s (b : Int) c n) false (v : Int) (i : Int) = _
    unfold dL eJ fA
    by_cases h : i < s.length
    · have hd : s.drop i = s[i] :: s.drop (i + 1) := aZ h
      have hp : (16 : Nat) ^ i ≤ 16 ^ 9 := Nat.pow_le_pow_right (by omega) (by omega)
      have hp2 : (16 : Nat) ^ 9 = 68719476736 := rfl
      have hp3 : (16 : Nat) ^ (i + 1) = 16 ^ i * 16 := Nat.pow_succ _ _
      have key : ∀ d : UInt8, ((b ≤ d.toNat ↔ b ≤ dg s[i]) ∧ (d.toNat < b → d.toNat = dg s[i])) → cM (b : Int) c false (v : Int) (i : Int) (bW F s (b : Int) c n) d = match num b v (s.drop i) with | none => some (0, 2) | some w => some ((w : Int), 0) := by
        intro d ⟨h1, h2⟩
        rw [hd]
        unfold cM dK
        have hB : ((Go.Av.toB (b : Int)).toNat : Int) = (b : Int) := by rcases hb with rfl | rfl <;> rfl
        rw [hB]
        by_cases hbd : b ≤ d.toNat
        · rw [bT (by omega)]
          simp [num, h1.1 hbd]
        · have hd2 := h2 (by omega)
          have hbd' : ¬ b ≤ dg s[i] := fun e => hbd (h1.2 e)
          have hlt : d.toNat < 16 := by rcases hb with rfl | rfl <;> omega
          have hbv : b * v ≤ 16 * v := Nat.mul_le_mul_right v (by rcases hb with rfl | rfl <;> omega)
          have hmul : (v : Int) * (b : Int) = ((b * v : Nat) : Int) := by rw [Nat.mul_comm]; simp
          have wb : IntKind.u64.wrap (b : Int) = (b : Int) := uA _ (by omega) (by rcases hb with rfl | rfl <;> omega)
          have wd : IntKind.u64.wrap (d.toNat : Int) = (d.toNat : Int) := uA _ (by omega) (by omega)
          have wm : IntKind.u64.wrap ((b * v : Nat) : Int) = ((b * v : Nat) : Int) := uA _ (by omega) (by omega)
          have ws : IntKind.u64.wrap (((b * v : Nat) : Int) + (d.toNat : Int)) = ((b * v + d.toNat : Nat) : Int) := by rw [uA _ (by omega) (by omega)]; simp
          have wc : IntKind.u64.wrap ((IntKind.u64.wrap (1 * 2 ^ min (Int.toNat (IntKind.u64.wrap 64)) IntKind.u64.bits)) - 1) = 18446744073709551615 := by decide +kernel
          rw [wb, wd, hmul, wm, ws, wc, bF (by omega), bF (by omega), decide_eq_false (by omega : ¬ ((b * v + d.toNat : Nat) : Int) < ((b * v : Nat) : Int)), decide_eq_false (by omega : ¬ (18446744073709551615 : Int) < ((b * v + d.toNat : Nat) : Int))]
          rw [Bool.or_self, cond_false, bQ (by omega), cr, ih (i + 1) (b * v + d.toNat) (by omega) (by rw [hp3]; rcases hb with rfl | rfl <;> omega) (by omega)]
          simp only [num, hbd', if_false, hd2]
      have hb0 : decide ((b : Int) = 0) = false := decide_eq_false (by rcases hb with rfl | rfl <;> omega)
      simp (disch := omega) only [bT, cT, bk, fw h, hb0, Bool.and_false, cond_false, aU, dk]
      cases hD : isD s[i] with
      | true =>
        have e : ((decide (48 ≤ ((s[i]).toNat : Int))) && (decide (((s[i]).toNat : Int) ≤ 57))) = true := hD
        rw [e, cond_true]
        exact key _ (dig_D b hb _ hD)
      | false =>
        have e : ((decide (48 ≤ ((s[i]).toNat : Int))) && (decide (((s[i]).toNat : Int) ≤ 57))) = false := hD
        rw [e, cond_false]
        have el : ((decide (97 ≤ ((s[i] ||| 32).toNat : Int))) && (decide ((((bif decide (97 ≤ ((s[i] ||| 32).toNat : Int)) then (s[i] ||| 32) else default) : UInt8).toNat : Int) ≤ 122))) = isL s[i] := by
          unfold isL
          cases decide (97 ≤ ((s[i] ||| 32).toNat : Int)) <;> rfl
        rw [el]
        cases hL : isL s[i] with
        | true =>
          rw [cond_true]
          exact key _ (dig_L b hb _ hD hL)
        | false =>
          rw [cond_false, hd]
          have := dig_no _ hD hL
          have : b ≤ dg s[i] := by rw [this]; rcases hb with rfl | rfl <;> omega
          simp [num, this]
    · rw [bF (by omega), ld]
      have hi2 : s.length ≤ i := by omega
      rw [bg hi2]
      rfl
theorem int_eq (F : Nat) (s : Bs) (b : Nat) (hb : b = 10 ∨ b = 16) (h0 : s ≠ []) (hs : s.length ≤ 10) (hF : 20 < F) (h43 : at_ s 0 ≠ 43) (h45 : at_ s 0 ≠ 45) :
    dv F s (b : Int) 0 = match num b 0 s with | none => some (0, 1) | some w => some ((w : Int), 0) := by
  have hp : 0 < s.length := List.length_pos_iff.2 h0
  have hw : ∀ (t : Bs) (v w : Nat), num b v t = some w → t.length ≤ 10 → v < 16 ^ (10 - t.length) → w < 16 ^ 10 := by
    intro t
    induction t with
    | nil => intro v w h _ hv; have : v = w := by simpa [num] using h
             subst this; exact hv
    | cons c r ih =>
      intro v w h hl hv
      simp only [num] at h
      split at h
      · cases h
      · rename_i hd
        simp only [List.length_cons] at hl hv
        refine ih _ _ h (by omega) ?_
        have e : 10 - r.length = (10 - (r.length + 1)) + 1 := by omega
        rw [e, Nat.pow_succ]
        rcases hb with rfl | rfl <;> omega
  have hu : fG F s (b : Int) 0 = match num b 0 s with | none => some (0, 2) | some w => some ((w : Int), 0) := by
    unfold fG eH eI df
    have h2 : ((decide (2 ≤ (b : Int))) && (decide ((b : Int) ≤ 36))) = true := by rcases hb with rfl | rfl <;> rfl
    rw [bF h0, h2, mV, jZ rfl]
    have hwr := pv 64
    have go := fun c hc => ua F s b hb c hc hs F 0 0 (by omega) (by omega) (by omega)
    rcases hb with rfl | rfl
    · rw [bT (show ((10 : Nat) : Int) = 10 from rfl), jZ hwr, dS (by omega)]; exact go _ (by omega)
    · rw [bF (show ¬ ((16 : Nat) : Int) = 10 by decide), bT (show ((16 : Nat) : Int) = 16 from rfl), jZ hwr, dS (by omega)]; exact go _ (by omega)
  have hi : gp F s (b : Int) 0 = match num b 0 s with | none => some (0, 2) | some w => some ((w : Int), 0) := by
    unfold gp dC fo ew
    have e1 : IntKind.u64.wrap (1 * 2 ^ min (Int.toNat (IntKind.u64.wrap 63)) IntKind.u64.bits) = 9223372036854775808 := by decide +kernel
    have e2 : (0 : Int) ≤ IntKind.u64.wrap 63 := by decide +kernel
    rw [hu]
    cases hn : num b 0 s with
    | none => simp (disch := omega) only [bF h0, bF, cT, bk, aO]; rfl
    | some w =>
      have hwb : w < 16 ^ 10 := hw s 0 w hn hs (Nat.pow_pos (by omega))
      have hp2 : (16 : Nat) ^ 10 = 1099511627776 := rfl
      simp (disch := omega) only [bF h0, bF, cT, bk, aO, e1, jZ e2, bQ, jZ, Bool.not_false, Bool.true_and, Bool.false_and, cond_false]
      rfl
  unfold dv
  rw [hi]
  cases hn : num b 0 s with
  | none =>
    simp only [aO]
    rw [show (!decide ((2 : Int) = 0)) = true by rfl, cond_true, mb (by omega)]; rfl
  | some w => rfl
theorem px (n : Int) (c : Nat) (h : n = c) : toB n = UInt8.ofNat c := by
  subst h
  unfold toB
  apply UInt8.toNat.inj
  rw [UInt8.toNat_ofNat', UInt8.toNat_ofNat']
  omega
theorem pq (F : Nat) (r : Int) : jl F r = if (r = 9 ∨ r = 10 ∨ r = 13) ∨ (32 ≤ r ∧ r ≤ 55295) ∨ (57344 ≤ r ∧ r ≤ 65533) ∨ (65536 ≤ r ∧ r ≤ 1114111) then some (cG r, true) else some ([], false) := by
  have fin : -2147483648 ≤ r ∧ r ≤ 2147483647 → (grd (okJ r) (lt (cG r) fun x17 => some (x17, true))) = some (cG r, true) := fun h => by rw [grd_J h]; rfl
  unfold jl lW
  simp only [dk]
  cases hA : ((decide (r = 9)) || (decide (r = 10))) || (decide (r = 13)) with
  | true =>
    have : r = 9 ∨ r = 10 ∨ r = 13 := by simpa [or_assoc] using hA
    simp only [Bool.not_true, Bool.false_and, cond_false]
    rw [if_pos (.inl this)]; exact fin (by omega)
  | false =>
    have hA' : ¬ (r = 9 ∨ r = 10 ∨ r = 13) := by simp at hA; omega
    simp only [Bool.not_false, Bool.true_and, cond_true]
    cases h7 : (decide (32 ≤ r)) && (decide (r ≤ 55295)) with
    | true =>
      have : 32 ≤ r ∧ r ≤ 55295 := by simpa using h7
      simp only [Bool.not_true, Bool.false_and, cond_false]
      rw [if_pos (by omega)]; exact fin (by omega)
    | false =>
      have h7' : ¬ (32 ≤ r ∧ r ≤ 55295) := fun e => by simp [e] at h7
      simp only [Bool.not_false, Bool.true_and, cond_true]
      cases h10 : (decide (57344 ≤ r)) && (decide (r ≤ 65533)) with
      | true =>
        have : 57344 ≤ r ∧ r ≤ 65533 := by simpa using h10
        simp only [Bool.not_true, Bool.false_and, cond_false]
        rw [if_pos (by omega)]; exact fin (by omega)
      | false =>
        have h10' : ¬ (57344 ≤ r ∧ r ≤ 65533) := fun e => by simp [e] at h10
        simp only [Bool.not_false, Bool.true_and, cond_true]
        cases h13 : (decide (65536 ≤ r)) && (decide (r ≤ 1114111)) with
        | true =>
          have : 65536 ≤ r ∧ r ≤ 1114111 := by simpa using h13
          simp only [Bool.not_true, Bool.false_and, cond_false]
          rw [if_pos (by omega)]; exact fin (by omega)
        | false =>
          have h13' : ¬ (65536 ≤ r ∧ r ≤ 1114111) := fun e => by simp [e] at h13
          rw [if_neg (by omega)]; rfl
theorem cond9 (p q s a b c d e f : Prop) [Decidable p] [Decidable q] [Decidable s] [Decidable a] [Decidable b] [Decidable c] [Decidable d] [Decidable e] [Decidable f] :
    (((!((((decide p) || (decide q)) || (decide s)) || ((decide a) && (decide b)))) && (!((decide c) && (decide d)))) && (!((decide e) && (decide f)))) = !decide ((p ∨ q ∨ s) ∨ (a ∧ b) ∨ (c ∧ d) ∨ (e ∧ f)) := by
  simp only [Bool.decide_or, Bool.decide_and, Bool.not_or, Bool.and_assoc, Bool.or_assoc]
theorem xB (r : Int) : (((!((((decide (r = 9)) || (decide (r = 10))) || (decide (r = 13))) || ((decide (32 ≤ r)) && (decide (r ≤ 55295))))) && (!((decide (57344 ≤ r)) && (decide (r ≤ 65533))))) && (!((decide (65536 ≤ r)) && (decide (r ≤ 1114111))))) = !decide ((r = 9 ∨ r = 10 ∨ r = 13) ∨ (32 ≤ r ∧ r ≤ 55295) ∨ (57344 ≤ r ∧ r ≤ 65533) ∨ (65536 ≤ r ∧ r ≤ 1114111)) := cond9 _ _ _ _ _ _ _ _ _
theorem wK (k m c : Nat) : toB ((k : Int) + (c : Int) / (m : Int)) = UInt8.ofNat (k + c / m) := px _ _ (by rw [Int.natCast_add, Int.natCast_ediv])
theorem tb_mod (k m c : Nat) : toB ((k : Int) + (c : Int) % (m : Int)) = UInt8.ofNat (k + c % m) := px _ _ (by rw [Int.natCast_add, Int.natCast_emod])
theorem wW (k m n c : Nat) : toB ((k : Int) + (c : Int) / (m : Int) % (n : Int)) = UInt8.ofNat (k + c / m % n) := px _ _ (by rw [Int.natCast_add, Int.natCast_emod, Int.natCast_ediv])
theorem enc1 (c : Nat) (hc : Utf8.valid (c : Int) = true) : Utf8.encode (c : Int) = if c < 128 then ⟨#[UInt8.ofNat c]⟩ else if c < 2048 then ⟨#[UInt8.ofNat (192 + c / 64), UInt8.ofNat (128 + c % 64)]⟩
    else if c < 65536 then ⟨#[UInt8.ofNat (224 + c / 4096), UInt8.ofNat (128 + c / 64 % 64), UInt8.ofNat (128 + c % 64)]⟩ else ⟨#[UInt8.ofNat (240 + c / 262144), UInt8.ofNat (128 + c / 4096 % 64), UInt8.ofNat (128 + c / 64 % 64), UInt8.ofNat (128 + c % 64)]⟩ := by
  have hcc : (if Utf8.valid (c : Int) = true then ((c : Int)).toNat else Utf8.runeError) = c := by rw [if_pos hc, Int.toNat_natCast]
  unfold Utf8.encode
  rw [hcc]
theorem uU (n : Int) : cG n = (Utf8.encode n).data.toList := rfl
theorem wk (c : Nat) (hc : Utf8.valid (c : Int) = true) : cG (c : Int) = if c < 128 then [toB c] else if c < 2048 then [toB (192 + (c : Int) / 64), toB (128 + (c : Int) % 64)]
    else if c < 65536 then [toB (224 + (c : Int) / 4096), toB (128 + (c : Int) / 64 % 64), toB (128 + (c : Int) % 64)] else [toB (240 + (c : Int) / 262144), toB (128 + (c : Int) / 4096 % 64), toB (128 + (c : Int) / 64 % 64), toB (128 + (c : Int) % 64)] := by
  have t1 : toB (c : Int) = UInt8.ofNat c := px (c : Int) c rfl
  have t2 : toB (192 + (c : Int) / 64) = UInt8.ofNat (192 + c / 64) := wK 192 64 c
  have t3 : toB (128 + (c : Int) % 64) = UInt8.ofNat (128 + c % 64) := tb_mod 128 64 c
  have t4 : toB (224 + (c : Int) / 4096) = UInt8.ofNat (224 + c / 4096) := wK 224 4096 c
  have t5 : toB (128 + (c : Int) / 64 % 64) = UInt8.ofNat (128 + c / 64 % 64) := wW 128 64 64 c
  have t6 : toB (240 + (c : Int) / 262144) = UInt8.ofNat (240 + c / 262144) := wK 240 262144 c
  have t7 : toB (128 + (c : Int) / 4096 % 64) = UInt8.ofNat (128 + c / 4096 % 64) := wW 128 4096 64 c
  rw [t1, t2, t3, t4, t5, t6, t7, uU, enc1 c hc]
  by_cases h1 : c < 128
  · rw [if_pos h1, if_pos h1]
  · rw [if_neg h1, if_neg h1]
    by_cases h2 : c < 2048
    · rw [if_pos h2, if_pos h2]
    · rw [if_neg h2, if_neg h2]
      by_cases h3 : c < 65536
      · rw [if_pos h3, if_pos h3]
      · rw [if_neg h3, if_neg h3]
theorem wj (c : Nat) (h : ((c : Int) = 9 ∨ (c : Int) = 10 ∨ (c : Int) = 13) ∨ (32 ≤ (c : Int) ∧ (c : Int) ≤ 55295) ∨ (57344 ≤ (c : Int) ∧ (c : Int) ≤ 65533) ∨ (65536 ≤ (c : Int) ∧ (c : Int) ≤ 1114111)) : Utf8.valid (c : Int) = true := by
  unfold Utf8.valid
  by_cases h1 : (c : Int) < 55296
  · have : (0 : Int) ≤ (c : Int) := by omega
    rw [decide_eq_true this, decide_eq_true h1]; rfl
  · have h2 : (57344 : Int) ≤ (c : Int) := by omega
    have h3 : (c : Int) ≤ 1114111 := by omega
    rw [decide_eq_true h2, decide_eq_true h3, Bool.and_self, Bool.or_true]
theorem qO (F : Nat) (r : Int) : jl F r = fL F r := by
  rw [pq]
  unfold fL
  rw [xB]
  by_cases h : (r = 9 ∨ r = 10 ∨ r = 13) ∨ (32 ≤ r ∧ r ≤ 55295) ∨ (57344 ≤ r ∧ r ≤ 65533) ∨ (65536 ≤ r ∧ r ≤ 1114111)
  · rw [if_pos h, decide_eq_true h, Bool.not_true, cond_false]
    obtain ⟨c, rfl⟩ : ∃ c : Nat, r = c := ⟨r.toNat, by omega⟩
    rw [wk c (wj c h)]
    by_cases h1 : c < 128
    · rw [if_pos h1, bT (by omega)]
    · rw [if_neg h1, bF (by omega)]
      by_cases h2 : c < 2048
      · rw [if_pos h2, bT (by omega)]
        simp (disch := omega) only [nS, bQ]
      · rw [if_neg h2, bF (by omega)]
        by_cases h3 : c < 65536
        · rw [if_pos h3, bT (by omega)]
          simp (disch := omega) only [nS, bQ]
        · rw [if_neg h3, bF (by omega)]
          simp (disch := omega) only [nS, bQ]
  · rw [if_neg h, decide_eq_false h]; rfl
def cap (w : Nat) : Nat := if 1114111 < w then 1114112 else w
theorem uX (F : Nat) (s : Bs) (b : Nat) (hb : b = 10 ∨ b = 16) (hs : s.length ≤ 100000) : ∀ (n i v : Nat), s.length - i < n → i ≤ s.length →
    kd F s (b : Int) n ((cap v : Int), (i : Int)) = match num b v (s.drop i) with | none => some (-1) | some w => some (if s.length = 0 then -1 else (cap w : Int)) := by
  intro n
  induction n with
  | zero => intro i v h; omega
  | succ n ih =>
    intro i v hn hi;show ke F s (b : Int) (kd F s (b : Int) n) (cap v : Int) (i : Int) = _
    unfold ke kc mD
    have hcv : cap v ≤ 1114112 := by unfold cap; split <;> omega
    by_cases h : i < s.length
    · have hd : s.drop i = s[i] :: s.drop (i + 1) := aZ h
      simp (disch := omega) only [bT, cT, bk, fw h, digit_eq, aU]
      rw [hd]
      by_cases hbd : b ≤ dg s[i]
      · rw [bT (by omega)]; simp [num, hbd]
      · have hdb : dg s[i] < 16 := by rcases hb with rfl | rfl <;> omega
        have hbc : b * cap v ≤ 16 * cap v := Nat.mul_le_mul_right _ (by rcases hb with rfl | rfl <;> omega)
        have e1 : (b : Int) * (cap v : Int) = ((b * cap v : Nat) : Int) := by simp
        have e2 : ((b * cap v : Nat) : Int) + (dg s[i] : Int) = ((b * cap v + dg s[i] : Nat) : Int) := by simp
        have e3 : cap (b * v + dg s[i]) = if 1114111 < b * cap v + dg s[i] then 1114112 else b * cap v + dg s[i] := by
          unfold cap
          rcases hb with rfl | rfl <;> (split <;> split <;> (try split) <;> omega)
        rw [bF (by omega), e1, e2, bQ (by omega), bQ (by omega)]
        simp only [num, hbd, if_false]
        have := ih (i + 1) (b * v + dg s[i]) (by omega) (by omega)
        rw [e3] at this
        by_cases hc : 1114111 < b * cap v + dg s[i]
        · rw [bT (by omega), bQ (by omega), cr]
          rw [if_pos hc] at this
          exact this
        · rw [bF (by omega), bQ (by omega), cr]
          rw [if_neg hc] at this
          exact this
    · have hi2 : s.length ≤ i := by omega
      rw [bF (by omega), bg hi2]
      simp only [num]
      by_cases h0 : s.length = 0
      · rw [bT (by omega), if_pos h0]
      · rw [bF (by omega), if_neg h0]
theorem xF (F : Nat) (s : Bs) (b : Nat) (hb : b = 10 ∨ b = 16) (hs : s.length ≤ 100000) (hF : s.length < F) :
    gD F s (b : Int) = match num b 0 s with | none => some (-1) | some w => some (if s.length = 0 then -1 else (cap w : Int)) := by
  have := uX F s b hb hs F 0 0 (by omega) (by omega)
  have hc : cap 0 = 0 := rfl
  rw [hc, List.drop_zero] at this
  exact this
theorem uD {s : Bs} {b v : Nat} (hb : b = 10 ∨ b = 16) {c : UInt8} (hc : dg c = 99) (h : c ∈ s) : num b v s = none := by
  induction s generalizing v with
  | nil => cases h
  | cons d r ih =>
    simp only [num]
    rcases List.mem_cons.1 h with rfl | h
    · rw [if_pos (by rcases hb with rfl | rfl <;> omega)]
    · split
      · rfl
      · exact ih h
end Go.Pn
namespace Go.Pn
open Go.Pv Go.Av
theorem mh (F : Nat) : fL F (-1) = some ([], false) := by rw [← qO, pq, if_neg (by omega)]
theorem rune_cap (F w : Nat) : fL F (cap w : Int) = fL F (w : Int) := by
  unfold cap
  split
  · rw [← qO, ← qO, pq, pq, if_neg (by omega), if_neg (by omega)]
  · rfl
theorem sv (F : Nat) (s : Bs) (hs : s.length ≤ 100000) : gx F s [95] = some (decide (0 ≤ Go.Lib.indexByte s 95)) := by
  unfold gx lV mO iy iG
  have e : ((decide (8 < s.length)) && (decide (2 ≤ ([95] : Bs).length))) = false := by simp
  have e2 : at_ ([95] : Bs) 0 = 95 := rfl
  have e3 : iV [95] = true := by decide
  have e4 : ((95 : UInt8).toNat : Int) = 95 := rfl
  have e5 : toB 95 = 95 := rfl
  rw [e, cond_false]
  simp (disch := (first | omega | (simp; done) | (simp; omega))) only [e3, mV, mb, bF, bT, cT, bk, e2, e4, grd_J]
  rfl
theorem nh (F : Nat) (s : Bs) (b : Nat) (hb : b = 10 ∨ b = 16) (hs : s.length ≤ 10) (hF : 20 < F) : ∃ v, gD F s (b : Int) = some v ∧ dQ F s (b : Int) = fL F v := by
  rw [xF F s b hb (by omega) (by omega)]
  unfold dQ
  cases s with
  | nil =>
    refine ⟨-1, rfl, ?_⟩
    rw [mh]
    simp [eB, bk, ld]
  | cons c r =>
    have h0 : decide ((c :: r) = []) = false := decide_eq_false (by simp)
    have ha : at_ (c :: r) 0 = c := rfl
    have hg : ∀ (q : Bool) (k : Option (Bs × Bool)), fq q (dr 0 (c :: r).length) k = k := fun q k => nR (fun _ => by simp)
    have hlen : ¬ (c :: r).length = 0 := by simp
    rw [sv F (c :: r) (by omega)]
    simp only [hg, h0, bk, ha, dk, Bool.false_or]
    by_cases h1 : c = 43
    · rw [uD hb (c := 43) (by decide) (by simp [h1])]
      refine ⟨-1, rfl, ?_⟩
      rw [mh]; simp [h1]
    · by_cases h2 : c = 45
      · rw [uD hb (c := 45) (by decide) (by simp [h2])]
        refine ⟨-1, rfl, ?_⟩
        rw [mh]; simp [h2]
      · by_cases h3 : c = 95
        · rw [uD hb (c := 95) (by decide) (by simp [h3])]
          refine ⟨-1, rfl, ?_⟩
          rw [mh]; simp [h3]
        · simp only [h1, h2, h3, decide_false, Bool.or_self, Bool.false_or, Bool.not_false, cond_true]
          by_cases h4 : 0 ≤ Go.Lib.indexByte (c :: r) 95
          · rw [bT h4]
            have hmem : (95 : UInt8) ∈ c :: r := by
              by_cases hm : (95 : UInt8) ∈ c :: r
              · exact hm
              · have := pc (c := 95) (s := c :: r) (fun x hx e => hm (e ▸ hx))
                omega
            rw [uD hb (c := 95) (by decide) hmem]
            exact ⟨-1, rfl, (mh F).symm⟩
          · rw [bF h4, int_eq F (c :: r) b hb (by simp) hs hF (by rw [ha]; exact h1) (by rw [ha]; exact h2)]
            cases hn : num b 0 (c :: r) with
            | none => exact ⟨-1, rfl, by rw [mh]; rfl⟩
            | some w =>
              refine ⟨(cap w : Int), by simp only [hlen, if_false], ?_⟩
              rw [rune_cap, ← qO]
              simp only [aO]
              simp only [decide_true, Bool.not_true, cond_false]
              cases he : jl F (w : Int) with
              | none => rfl
              | some p => rfl
theorem xA (F : Nat) (b : Bs) (hb : b.length ≤ 10) (hF : 20 < F) : iq F b = kS F b := by
  have fallback : mhas [(([97, 109, 112] : List UInt8), (38 : Int)), (([108, 116] : List UInt8), 60), (([103, 116] : List UInt8), 62), (([113, 117, 111, 116] : List UInt8), 34), (([97, 112, 111, 115] : List UInt8), 39)] b = false →
      ¬ b = [97, 109, 112] → ¬ b = [108, 116] → ¬ b = [103, 116] → ¬ b = [113, 117, 111, 116] → ¬ b = [97, 112, 111, 115] → iq F b = kS F b := by
    intro hm n1 n2 n3 n4 n5
    unfold iq kJ kS lB
    simp only [aU, bk, hm, cond_false, bF n1, bF n2, bF n3, bF n4, bF n5]
    cases b with
    | nil => simp [Go.Lib.hasPrefix, eB]
    | cons c r =>
      cases r with
      | nil =>
        obtain ⟨v, _, hv⟩ := nh F [] 10 (.inl rfl) (by simp) hF
        have e0 : dQ F [] 10 = some ([], false) := by unfold dQ; simp [eB, bk, ld]
        by_cases h : c = 35
        · subst h
          have e1 : Go.Lib.hasPrefix [35] [35, 120] = false := by decide
          have e2 : Go.Lib.hasPrefix [35] [35] = true := by decide
          have e3 : Go.Lib.trimPrefix [35] [35] = [] := by decide
          rw [e1, e2, e3, cond_false, cond_true, e0]
          simp [aO, eB]
        · have e1 : Go.Lib.hasPrefix [c] [35, 120] = false := by simp [Go.Lib.hasPrefix, List.isPrefixOf]
          have e2 : Go.Lib.hasPrefix [c] [35] = false := by simp [Go.Lib.hasPrefix, List.isPrefixOf, Ne.symm h]
          rw [e1, e2, cond_false, cond_false]
          simp [eB]
      | cons d r =>
        have ha : at_ (c :: d :: r) 0 = c := rfl
        have hb1 : at_ (c :: d :: r) 1 = d := rfl
        have hl : decide (((c :: d :: r).length : Int) < 2) = false := decide_eq_false (by simp only [List.length_cons]; omega)
        have f1 : cY (c :: d :: r) 1 = d :: r := rfl
        have f2 : cY (c :: d :: r) 2 = r := rfl
        have hg : ∀ (q : Bool) (k : Option (Bs × Bool)), fq q (dr 0 (c :: d :: r).length) k = k := fun q k => nR (fun _ => by simp only [List.length_cons]; omega)
        simp only [hg, hl, ha, hb1, f1, f2, Bool.false_or]
        by_cases h : c = 35
        · subst h
          rw [show (!decide ((35 : UInt8) = 35)) = false by rfl, cond_false]
          obtain ⟨v, hv1, hv2⟩ := nh F (d :: r) 10 (.inl rfl) (by simp at hb ⊢; omega) hF
          have hv1' : gD F (d :: r) 10 = some v := hv1
          have hv2' : dQ F (d :: r) 10 = fL F v := hv2
          simp (disch := (first | omega | (simp; done) | (simp; omega))) only [dZ, cT, hv1', aU]
          by_cases hx : d = 120
          · subst hx
            obtain ⟨u, hu1, hu2⟩ := nh F r 16 (.inr rfl) (by simp at hb ⊢; omega) hF
            have hu1' : gD F r 16 = some u := hu1
            have hu2' : dQ F r 16 = fL F u := hu2
            have e1 : Go.Lib.hasPrefix (35 :: 120 :: r) [35, 120] = true := by simp [Go.Lib.hasPrefix, List.isPrefixOf]
            have e3 : Go.Lib.trimPrefix (35 :: 120 :: r) [35, 120] = r := by simp [Go.Lib.trimPrefix, Go.Lib.hasPrefix, List.isPrefixOf]
            rw [e1, e3, cond_true, bT rfl, hu1', aU, hu2']
          · have e1 : Go.Lib.hasPrefix (35 :: d :: r) [35, 120] = false := by simp [Go.Lib.hasPrefix, List.isPrefixOf, Ne.symm hx]
            have e2 : Go.Lib.hasPrefix (35 :: d :: r) [35] = true := by simp [Go.Lib.hasPrefix, List.isPrefixOf]
            have e3 : Go.Lib.trimPrefix (35 :: d :: r) [35] = d :: r := by simp [Go.Lib.trimPrefix, Go.Lib.hasPrefix, List.isPrefixOf]
            rw [e1, e2, e3, cond_false, cond_true, bF hx, hv2']
        · have e1 : Go.Lib.hasPrefix (c :: d :: r) [35, 120] = false := by simp [Go.Lib.hasPrefix, List.isPrefixOf, Ne.symm h]
          have e2 : Go.Lib.hasPrefix (c :: d :: r) [35] = false := by simp [Go.Lib.hasPrefix, List.isPrefixOf, Ne.symm h]
          rw [e1, e2, cond_false, cond_false, decide_eq_false h]; rfl
  have named : ∀ (n : Bs) (k : Int) (x : Bs), (mhas [(([97, 109, 112] : List UInt8), (38 : Int)), (([108, 116] : List UInt8), 60), (([103, 116] : List UInt8), 62), (([113, 117, 111, 116] : List UInt8), 34), (([97, 112, 111, 115] : List UInt8), 39)] n = true) →
      cG (mget [(([97, 109, 112] : List UInt8), (38 : Int)), (([108, 116] : List UInt8), 60), (([103, 116] : List UInt8), 62), (([113, 117, 111, 116] : List UInt8), 34), (([97, 112, 111, 115] : List UInt8), 39)] n) = x → iq F n = some (x, true) := by
    intro n k x h1 h2
    unfold iq kJ
    simp only [aU, bk, h1, h2, cond_true]
  by_cases n1 : b = [97, 109, 112]
  · subst n1; rw [named _ 38 [38] (by decide +kernel) (by decide +kernel)]; rfl
  by_cases n2 : b = [108, 116]
  · subst n2; rw [named _ 60 [60] (by decide +kernel) (by decide +kernel)]; rfl
  by_cases n3 : b = [103, 116]
  · subst n3; rw [named _ 62 [62] (by decide +kernel) (by decide +kernel)]; rfl
  by_cases n4 : b = [113, 117, 111, 116]
  · subst n4; rw [named _ 34 [34] (by decide +kernel) (by decide +kernel)]; rfl
  by_cases n5 : b = [97, 112, 111, 115]
  · subst n5; rw [named _ 39 [39] (by decide +kernel) (by decide +kernel)]; rfl
  refine fallback ?_ n1 n2 n3 n4 n5
  simp [mhas, List.lookup, beq_false_of_ne n1, beq_false_of_ne n2, beq_false_of_ne n3, beq_false_of_ne n4, beq_false_of_ne n5]
end Go.Pn
namespace Go.Pn
open Go.Pv Go.Av
theorem getD_at (s : Bs) (k : Nat) (h : k < s.length) : (⟨s.toArray⟩ : ByteArray).get! k = s[k] := by
  show (s.toArray)[k]! = _
  simp [h]
theorem yR (s : Bs) (p m : Nat) (hm : 0 < m) (hk : m < (mQ s p).2) : ∃ h : p + m < s.length, 128 ≤ (s[p + m]).toNat := by
  have key : ∀ k, (decide (p + k < (⟨s.toArray⟩ : ByteArray).size) && ((⟨s.toArray⟩ : ByteArray).get! (p + k)).toNat / 64 == 2) = true → ∃ h : p + k < s.length, 128 ≤ (s[p + k]).toNat := by
    intro k hk
    simp only [Bool.and_eq_true, decide_eq_true_eq, beq_iff_eq] at hk
    obtain ⟨h1, h2⟩ := hk
    have h1' : p + k < s.length := h1
    rw [getD_at s (p + k) h1'] at h2
    exact ⟨h1', by omega⟩
  unfold mQ Utf8.decode at hk
  simp only at hk
  split at hk
  · simp at hk; omega
  · split at hk
    · rename_i h2
      simp only [Bool.and_eq_true] at h2
      split at hk
      · have : m = 1 := by simp at hk; omega
        subst this;exact key 1 (by simpa using h2.2)
      · simp at hk; omega
    · split at hk
      · rename_i h2
        simp only [Bool.and_eq_true] at h2
        split at hk
        · have : m = 1 ∨ m = 2 := by simp at hk; omega
          rcases this with rfl | rfl
          · exact key 1 (by simpa using h2.1.2)
          · exact key 2 (by simpa using h2.2)
        · simp at hk; omega
      · split at hk
        · rename_i h2
          simp only [Bool.and_eq_true] at h2
          split at hk
          · have : m = 1 ∨ m = 2 ∨ m = 3 := by simp at hk; omega
            rcases this with rfl | rfl | rfl
            · exact key 1 (by simpa using h2.1.1.2)
            · exact key 2 (by simpa using h2.1.2)
            · exact key 3 (by simpa using h2.2)
          · simp at hk; omega
        · simp at hk; omega
theorem decR_low (s : Bs) (p : Nat) (h : p < s.length) (hb : (s[p]).toNat < 128) : mQ s p = ((s[p]).toNat, 1) := decode_ascii (⟨s.toArray⟩ : ByteArray) p h hb
theorem yS (s : Bs) (p : Nat) (h : p < s.length) (hb : 128 ≤ (s[p]).toNat) : 128 ≤ (mQ s p).1 := (decode_high (⟨s.toArray⟩ : ByteArray) p h hb).1
theorem wt (F : Nat) (hF : 5 ≤ F) (r : Int) (hr : 128 ≤ r) : iG F [38, 59] r = some (-1) := by
  obtain ⟨k1, k2⟩ := qd r hr
  have k3 := lk r
  unfold iG
  have hf : ((decide (0 ≤ r)) && (decide (r < 128))) = false := by rw [decide_eq_false (by omega : ¬ r < 128), Bool.and_false]
  rw [hf, cond_false]
  by_cases h2 : r = 65533
  · rw [bT h2]
    obtain ⟨m, rfl⟩ : ∃ m, F = m + 3 := ⟨F - 3, by omega⟩
    have e0 : mQ [38, 59] 0 = (38, 1) := by decide +kernel
    have e1 : mQ [38, 59] 1 = (59, 1) := by decide +kernel
    show eC [38, 59] (iw [38, 59] (m + 2)) 0 = _
    unfold eC
    simp only [e0]
    show eC [38, 59] (iw [38, 59] (m + 1)) 1 = _
    unfold eC
    simp only [e1]
    rfl
  · rw [bF h2]
    have hv : ∃ b, jC F r = some b := by
      unfold jC
      cases (decide (0 ≤ r)) && (decide (r < 55296)) with
      | true => exact ⟨true, rfl⟩
      | false =>
        rw [cond_false]
        cases (decide (57343 < r)) && (decide (r ≤ 1114111)) with
        | true => exact ⟨true, rfl⟩
        | false => exact ⟨false, rfl⟩
    obtain ⟨b, hb⟩ := hv
    rw [hb, aU]
    cases b with
    | false => rfl
    | true =>
      obtain ⟨m, rfl⟩ : ∃ m, F = m + 1 := ⟨F - 1, by omega⟩
      simp (disch := omega) only [Bool.not_true, cond_false, bk, bQ]
      show ix [38, 59] (cG r) (kT [38, 59] (cG r) m) = _
      unfold ix ju
      by_cases h3 : (cG r).length = 2
      · have e1 : ((cG r).length : Int) - 1 = 1 := by omega
        have e2 : at_ ([38, 59] : Bs) 1 = 59 := rfl
        have e3 : cY ([38, 59] : Bs) (1 + 1) = [] := rfl
        rw [e1]
        simp (disch := (first | omega | (simp; done) | (simp; omega))) only [bT, cT, bk, e2, decide_eq_false (k2 h3), Bool.not_false, mV, bQ, dZ, e3]
        rfl
      · have : ¬ ((cG r).length : Int) - 1 < (([38, 59] : Bs).length : Int) := by simp; omega
        rw [bF this]
def nxt (s : Bs) (y : Nat) : Int := if Go.Lib.indexAny (s.drop y) [38, 59] = -1 then -1 else (y : Int) + Go.Lib.indexAny (s.drop y) [38, 59]
theorem vy (s : Bs) (y : Nat) (h : y < s.length) (hc : ([38, 59] : Bs).contains s[y] = false) : nxt s (y + 1) = nxt s y := by
  unfold nxt
  rw [aZ h]
  simp only [Go.Lib.indexAny, hc]
  have := (mu (s.drop (y + 1)) [38, 59]).1
  by_cases e : Go.Lib.indexAny (s.drop (y + 1)) [38, 59] = -1
  · simp [e]
  · have e2 : (Go.Lib.indexAny (s.drop (y + 1)) [38, 59] == -1) = false := by simpa using e
    have e3 : ¬ Go.Lib.indexAny (s.drop (y + 1)) [38, 59] + 1 = -1 := by omega
    simp [e, e2, e3]; omega
theorem nxt_hi (s : Bs) (y : Nat) (h : y < s.length) (hb : 128 ≤ (s[y]).toNat) : nxt s (y + 1) = nxt s y := by
  refine vy s y h ?_
  have h1 : s[y] ≠ 38 := by intro e; rw [e] at hb; revert hb; decide
  have h2 : s[y] ≠ 59 := by intro e; rw [e] at hb; revert hb; decide
  simp [h1, h2]
theorem nxt_skip (s : Bs) (y : Nat) : ∀ k, (∀ m, m < k → ∃ h : y + m < s.length, 128 ≤ (s[y + m]).toNat) → nxt s (y + k) = nxt s y := by
  intro k
  induction k with
  | zero => intro _; rfl
  | succ k ih =>
    intro h;obtain ⟨h1, h2⟩ := h k (by omega)
    rw [show y + (k + 1) = y + k + 1 by omega, nxt_hi s (y + k) h1 h2]
    exact ih (fun m hm => h m (by omega))
theorem wv (F : Nat) (hF : 5 ≤ F) (s : Bs) : ∀ (n y : Nat), s.length - y < n → iz F s [38, 59] n y = some (nxt s y) := by
  intro n
  induction n with
  | zero => intro y h; omega
  | succ n ih =>
    intro y hy;show iA F s [38, 59] (iz F s [38, 59] n) y = _
    unfold iA jw
    by_cases h : y < s.length
    · rw [bT h]
      by_cases hb : (s[y]).toNat < 128
      · rw [decR_low s y h hb]
        have hi : iG F [38, 59] ((s[y]).toNat : Int) = some (Go.Lib.indexByte [38, 59] s[y]) := by
          unfold iG
          have e : ((decide ((0 : Int) ≤ ((s[y]).toNat : Int))) && (decide (((s[y]).toNat : Int) < 128))) = true := by
            rw [decide_eq_true (by omega : (0 : Int) ≤ ((s[y]).toNat : Int)), decide_eq_true (by omega : ((s[y]).toNat : Int) < 128)]; rfl
          rw [e, cond_true, bk, px _ (s[y]).toNat rfl, UInt8.ofNat_toNat]
        simp only [hi, aU]
        by_cases hc : ([38, 59] : Bs).contains s[y] = true
        · have h0 : 0 ≤ Go.Lib.indexByte [38, 59] s[y] := by
            have : s[y] = 38 ∨ s[y] = 59 := by simpa using hc
            rcases this with e | e <;> rw [e] <;> decide
          rw [bT h0]
          unfold nxt
          rw [aZ h]
          simp only [Go.Lib.indexAny, hc, if_true]
          simp
        · have hc' : ([38, 59] : Bs).contains s[y] = false := by simpa using hc
          have h0 : ¬ 0 ≤ Go.Lib.indexByte [38, 59] s[y] := by
            have hne : ¬ s[y] = 38 ∧ ¬ s[y] = 59 := by simpa using hc'
            have := pc (c := s[y]) (s := [38, 59]) (fun b hb e => by
              simp at hb
              rcases hb with rfl | rfl
              · exact hne.1 e.symm
              · exact hne.2 e.symm)
            omega
          rw [bF h0, ih (y + 1) (by omega), vy s y h hc']
      · have hh := yS s y h (by omega)
        have hp := vO s y
        rw [wt F hF _ (by omega), aU, bF (by omega), ih _ (by omega)]
        rw [nxt_skip s y (mQ s y).2 (fun m hm => by
          cases m with
          | zero => exact ⟨h, by simpa using hb⟩
          | succ m => exact yR s y (m + 1) (by omega) hm)]
    · rw [bF h]
      unfold nxt
      rw [bg (by omega)]
      rfl
theorem xL (F : Nat) (s : Bs) (hF : 20 ≤ F) : lV F s [38, 59] = some (Go.Lib.indexAny s [38, 59]) := by
  unfold lV
  by_cases h : 8 < s.length
  · simp [h]
  · have e : ((decide (8 < s.length)) && (decide (2 ≤ ([38, 59] : Bs).length))) = false := by simp [h]
    rw [e, cond_false]
    unfold mO rK jv
    have e3 : decide ((8 : Int) < (s.length : Int)) = false := decide_eq_false (by omega)
    simp (disch := (first | omega | (simp; done) | (simp; omega))) only [bF, aU, e3, Bool.not_false, mV]
    rw [wv F (by omega) s F 0 (by omega)]
    unfold nxt
    rw [List.drop_zero]
    split
    · rename_i e; rw [e]
    · simp
end Go.Pn
namespace Go.Pn
open Go.Pv Go.Av
abbrev amp : Bs := [38, 59]
theorem any_cons (c : UInt8) (r : Bs) : Go.Lib.indexAny (c :: r) amp = if c = 38 ∨ c = 59 then 0 else if Go.Lib.indexAny r amp = -1 then -1 else Go.Lib.indexAny r amp + 1 := by
  simp [Go.Lib.indexAny]
theorem any_is (r : Bs) : ∀ (k : Nat) (h : k < r.length), Go.Lib.indexAny r amp = (k : Int) → r[k] = 38 ∨ r[k] = 59 := by
  induction r with
  | nil => intro k h; simp at h
  | cons c r ih =>
    intro k h hk
    rw [any_cons] at hk
    by_cases hc : c = 38 ∨ c = 59
    · rw [if_pos hc] at hk
      have : k = 0 := by omega
      subst this; simpa using hc
    · rw [if_neg hc] at hk
      split at hk
      · omega
      · cases k with
        | zero => have := (mu r amp).1; omega
        | succ k => simpa using ih k (by simpa using h) (by omega)
def dH (r : Bs) : Bs × Bool :=
  if 0 ≤ Go.Lib.indexAny r amp ∧ Go.Lib.indexAny r amp ≤ 10 ∧ r.getD (Go.Lib.indexAny r amp).toNat 0 = 59 then (r.take (Go.Lib.indexAny r amp).toNat, decide (0 < Go.Lib.indexAny r amp)) else ([], false)
theorem body_len (r : Bs) : (dH r).1.length ≤ 10 := by
  unfold dH
  split
  · rename_i h; simp; omega
  · simp
theorem first_eq (F : Nat) (r : Bs) (hs : r.length ≤ 100000) (hF : 150000 < F) : ∃ x k, kS F (dH r).1 = some (x, k) ∧ jB F (38 :: r) = some (if (dH r).2 = true ∧ k = true then (x, ((dH r).1.length : Int) + 2) else ([], 0)) := by
  have hbl := body_len r
  obtain ⟨x, k, hx, _⟩ := vq F (dH r).1 (by omega) (by omega);refine ⟨x, k, by rw [← xA F _ hbl (by omega)]; exact hx, ?_⟩;obtain ⟨hj1, hj2⟩ := mu r amp
  have h1 : cY (38 :: r) 1 = r := rfl
  have ha : iV [38, 59] = true := by decide
  have hl : ((38 :: r : Bs).length : Int) = (r.length : Int) + 1 := by simp
  unfold jB lW
  simp (disch := (first | omega | (simp; done) | (simp; omega))) only [dZ, bk, ha, mV, mb, h1, xL F r (by omega), aU]
  by_cases h : 1 ≤ Go.Lib.indexAny r amp ∧ Go.Lib.indexAny r amp ≤ 10
  · obtain ⟨j, hj⟩ : ∃ j : Nat, Go.Lib.indexAny r amp = j := ⟨(Go.Lib.indexAny r amp).toNat, by omega⟩
    have hjl : j < r.length := by omega
    have hc := any_is r j hjl hj
    have hx' : ((decide (1 ≤ Go.Lib.indexAny r amp)) && (decide (Go.Lib.indexAny r amp ≤ 10))) = true := by simp [h]
    have hat : at_ (38 :: r) ((j : Int) + 1) = r[j] := by
      rw [show (j : Int) + 1 = ((j + 1 : Nat) : Int) from rfl, fw (by simp; omega)]; simp
    have hsub : sub (38 :: r) 1 ((j : Int) + 1) = r.take j := by
      rw [show (j : Int) + 1 = ((j + 1 : Nat) : Int) from rfl, show (1 : Int) = ((1 : Nat) : Int) from rfl, qN]; simp
    rw [hj] at hx' h ⊢
    simp (disch := (first | omega | (simp; done) | (simp; omega))) only [hx', Bool.not_true, Bool.not_false, ky, bQ, cT, Bool.false_or, hat]
    have hget : r.getD (j : Int).toNat 0 = r[j] := by simp [hjl]
    rcases hc with hc | hc
    · have hb : dH r = ([], false) := by
        unfold dH
        rw [hj, hget, hc, if_neg (by simp)]
      rw [bT hc, hb]; simp
    · have hb : dH r = (r.take j, true) := by
        unfold dH
        rw [hj, hget, hc, if_pos ⟨by omega, by omega, rfl⟩, decide_eq_true (by omega)]
        simp
      rw [hb] at hx ⊢
      have hlt : ((r.take j).length : Int) = (j : Int) := by simp; omega
      rw [bF (by rw [hc]; decide)]
      simp (disch := (first | omega | (simp; done) | (simp; omega))) only [pz, bk, hsub, hx, aO]
      cases k with
      | false => simp
      | true =>
        simp (disch := (first | omega | (simp; done) | (simp; omega))) only [Bool.not_true, cond_false, bQ]
        simp [hlt]; omega
  · have hx' : ((decide (1 ≤ Go.Lib.indexAny r amp)) && (decide (Go.Lib.indexAny r amp ≤ 10))) = false := by
      cases hq : (decide (1 ≤ Go.Lib.indexAny r amp)) && (decide (Go.Lib.indexAny r amp ≤ 10)) with
      | false => rfl
      | true => exact absurd (by simpa using hq) h
    simp only [hx', Bool.not_false, Bool.not_true, eB, Bool.true_or, cond_true]
    have hb : (dH r).2 = false := by
      unfold dH
      split
      · rename_i hh; simp; omega
      · rfl
    rw [hb]; simp
end Go.Pn
namespace Go.Pn
open Go.Pv Go.Av
def ent1 (F : Nat) (r : Bs) : Option (Bs × Nat) :=
  match kS F (dH r).1 with
  | some (x, true) => bif (dH r).2 then some (x, (dH r).1.length + 2) else none
  | _ => none
def G1 (F : Nat) : Nat → Bs → Bool → Bs → Bs × Bool
  | 0, _, ok, acc => (acc, ok)
  | _ + 1, [], ok, acc => (acc, ok)
  | m + 1, c :: r, ok, acc =>
    if c = 38 then
      match ent1 F r with
      | some (x, k) => G1 F m ((c :: r).drop k) ok (acc ++ x)
      | none => G1 F m r false (acc ++ [38])
    else G1 F m r ok (acc ++ [c])
theorem ent1_two {F : Nat} {r : Bs} {x : Bs} {k : Nat} (h : ent1 F r = some (x, k)) : 2 ≤ k := by
  unfold ent1 at h
  split at h
  · cases hb : (dH r).2 with
    | true => rw [hb] at h; simp at h; omega
    | false => rw [hb] at h; simp at h
  · cases h
theorem G1_fuel (F : Nat) : ∀ (m m' : Nat) (s : Bs) (ok : Bool) (acc : Bs), s.length < m → s.length < m' → G1 F m s ok acc = G1 F m' s ok acc := by
  intro m
  induction m with
  | zero => intro m' s ok acc h; omega
  | succ m ih =>
    intro m' s ok acc h h';obtain ⟨m'', rfl⟩ : ∃ m'', m' = m'' + 1 := ⟨m' - 1, by omega⟩
    cases s with
    | nil => rfl
    | cons c r =>
      simp only [List.length_cons] at h h'
      simp only [G1]
      by_cases hc : c = 38
      · rw [if_pos hc, if_pos hc]
        cases he : ent1 F r with
        | none => exact ih _ _ _ _ (by omega) (by omega)
        | some p =>
          have := ent1_two (x := p.1) (k := p.2) he
          exact ih _ _ _ _ (by simp; omega) (by simp; omega)
      · rw [if_neg hc, if_neg hc]
        exact ih _ _ _ _ (by omega) (by omega)
theorem xp (F : Nat) : ∀ (p t : Bs) (m : Nat) (ok : Bool) (acc : Bs), (∀ b ∈ p, b ≠ 38) → p.length + t.length < m → G1 F m (p ++ t) ok acc = G1 F m t ok (acc ++ p) := by
  intro p
  induction p with
  | nil => intro t m ok acc _ _; simp
  | cons c r ih =>
    intro t m ok acc hp hm;obtain ⟨m', rfl⟩ : ∃ m', m = m' + 1 := ⟨m - 1, by omega⟩
    simp only [List.length_cons] at hm
    simp only [List.cons_append, G1]
    rw [if_neg (hp c (by simp)), ih t m' ok _ (fun b hb => hp b (by simp [hb])) (by omega), G1_fuel F m' (m' + 1) t ok _ (by omega) (by omega)]
    simp
theorem qB (s : Bs) (i : Nat) (h : Go.Lib.indexByte s 38 = (i : Int)) : (∀ b ∈ s.take i, b ≠ 38) ∧ ∃ r, s.drop i = 38 :: r := by
  induction s generalizing i with
  | nil => simp [Go.Lib.indexByte] at h
  | cons c r ih =>
    unfold Go.Lib.indexByte at h
    by_cases hc : c = 38
    · subst hc
      have : i = 0 := by simp at h; omega
      subst this;exact ⟨by simp, r, rfl⟩
    · have hcb : (c == 38) = false := by simpa using hc
      rw [hcb] at h
      by_cases hn : Go.Lib.indexByte r 38 = -1
      · simp [hn] at h
      · have hnb : (Go.Lib.indexByte r 38 == -1) = false := by simpa using hn
        rw [hnb] at h
        have hr := ln r 38
        simp at h
        obtain ⟨j, rfl⟩ : ∃ j, i = j + 1 := ⟨i - 1, by omega⟩;obtain ⟨h1, t, h2⟩ := ih j (by omega);refine ⟨fun b hb => ?_, t, by simpa using h2⟩
        simp only [List.take_succ_cons, List.mem_cons] at hb
        rcases hb with rfl | hb
        · exact hc
        · exact h1 b hb
theorem sr (s : Bs) (h : Go.Lib.indexByte s 38 < 0) : ∀ b ∈ s, b ≠ 38 := by
  induction s with
  | nil => simp
  | cons c r ih =>
    have hr := ln r 38
    unfold Go.Lib.indexByte at h
    split at h
    · omega
    · rename_i hc
      have hc' : c ≠ 38 := by simpa using hc
      split at h
      · rename_i hn
        have hn' : Go.Lib.indexByte r 38 = -1 := by simpa using hn
        intro b hb
        rcases List.mem_cons.1 hb with rfl | hb
        · exact hc'
        · exact ih (by omega) b hb
      · rename_i hn
        have hn' : ¬ Go.Lib.indexByte r 38 = -1 := by simpa using hn
        omega
theorem vj (F : Nat) (hF : 200000 < F) : ∀ (n : Nat) (s : Bs) (ok : Bool) (acc : Bs) (m : Nat), s.length < n → s.length < m → s.length ≤ 100000 → acc.length + 4 * s.length ≤ 1000000 → eO F n (s, ok, acc) = some (G1 F m s ok acc) := by
  intro n
  induction n with
  | zero => intro s ok acc m h; omega
  | succ n ih =>
    intro s ok acc m hn hm hs ha;show gt F (eO F n) s ok acc = _
    unfold gt gr
    obtain ⟨hi1, hi2⟩ := ln s 38
    by_cases h : Go.Lib.indexByte s 38 < 0
    · simp (disch := (first | omega | (simp; done) | (simp; omega))) only [bk, bT, qF]
      have := xp F s [] m ok acc (sr s h) (by simpa using hm)
      rw [List.append_nil] at this
      rw [this]
      obtain ⟨m', rfl⟩ : ∃ m', m = m' + 1 := ⟨m - 1, by omega⟩
      rfl
    · obtain ⟨i, hi⟩ : ∃ i : Nat, Go.Lib.indexByte s 38 = i := ⟨(Go.Lib.indexByte s 38).toNat, by omega⟩
      obtain ⟨hp, r, hr⟩ := qB s i hi
      have il : i < s.length := by omega
      have l1 : (to_ s (i : Int)).length = i := by simp [mR]; omega
      have e2 : cY s (i : Int) = 38 :: r := by rw [lb, hr]
      have hsp : s = s.take i ++ 38 :: r := by rw [← hr, List.take_append_drop]
      have lr : r.length = s.length - i - 1 := by
        have := congrArg List.length hr
        simp at this; omega
      have e1 : to_ s (i : Int) = s.take i := mR
      obtain ⟨x, k, hx, hf⟩ := first_eq F r (by omega) (by omega);obtain ⟨o, kk, ho, hk⟩ := sY F (38 :: r) (by simp) (by simp; omega) (by simp; omega)
      rw [hf] at ho
      have hG : G1 F m s ok acc = G1 F m (38 :: r) ok (acc ++ s.take i) := by
        have := xp F (s.take i) (38 :: r) m ok acc hp (by simp; omega)
        rw [← hsp] at this; exact this
      obtain ⟨m', rfl⟩ : ∃ m', m = m' + 1 := ⟨m - 1, by omega⟩
      have ltk : (s.take i).length = i := by simp; omega
      rw [hG]
      simp (disch := (first | omega | (simp; done) | (simp; omega))) only [bk, hi, bF, dZ, qF, e2, hf]
      simp only [G1, if_true, ent1, hx]
      by_cases hb : (dH r).2 = true ∧ k = true
      · rw [if_pos hb] at ho ⊢
        obtain ⟨hb1, rfl⟩ := hb
        have ho' := ak ho
        have hk1 : ((dH r).1.length : Int) + 2 = kk := (Prod.mk.inj ho').2
        have ho1 : x = o := (Prod.mk.inj ho').1
        subst ho1
        rcases hk with rfl | ⟨k3, kl, ol⟩
        · omega
        · simp only [List.length_cons] at kl
          have ef : cY (38 :: r) (((dH r).1.length : Int) + 2) = (38 :: r).drop ((dH r).1.length + 2) := by
            rw [show ((dH r).1.length : Int) + 2 = (((dH r).1.length + 2 : Nat) : Int) from rfl, lb]
          simp only [hb1, cond_true, aO, ef]
          simp (disch := (first | omega | (simp; done) | (simp; omega))) only [bF, qF, bk, dZ, e1]
          rw [ih _ ok _ m' (by simp; omega) (by simp; omega) (by simp; omega) (by simp; omega)]
      · rw [if_neg hb]
        have e0 : cY (38 :: r) 1 = r := rfl
        have hm1 : (match (some (x, k) : Option (Bs × Bool)) with | some (x, true) => bif (dH r).2 then some (x, (dH r).1.length + 2) else none | _ => none) = none := by
          cases k with
          | false => rfl
          | true =>
            have : (dH r).2 = false := by
              cases hq : (dH r).2 with
              | false => rfl
              | true => exact absurd ⟨hq, rfl⟩ hb
            rw [this]; rfl
        simp only [aO]
        simp (disch := (first | omega | (simp; done) | (simp; omega))) only [decide_true, cond_true, qF, bk, dZ, e0, e1]
        rw [ih r false _ m' (by omega) (by omega) (by omega) (by simp; omega)]
        have hm2 : ent1 F r = none := by unfold ent1; rw [hx]; exact hm1
        unfold ent1 at hm2; rw [hx] at hm2
        cases k with
        | false => rfl
        | true => 
          cases hq : (dH r).2 with
          | false => rfl
          | true => exact absurd ⟨hq, rfl⟩ hb
end Go.Pn
namespace Go.Pn
open Go.Pv Go.Av
theorem goneG (F : Nat) (hF : 200000 < F) (s : Bs) (hs : s.length ≤ 100000) : nw F s = some (G1 F (s.length + 1) s true []) := vj F hF F s true [] (s.length + 1) (by omega) (by omega) hs (by simp; omega)
theorem decG (F : Nat) (hF : 200000 < F) (s : Bs) (hs : s.length ≤ 100000) : kX F s = some (bif (G1 F (s.length + 1) s true []).2 then ((G1 F (s.length + 1) s true []).1, 0) else ([], 2)) := by
  unfold kX; rw [goneG F hF s hs]
  obtain ⟨o, k⟩ := G1 F (s.length + 1) s true []
  rw [aO]
  cases k <;> rfl
end Go.Pn
namespace Go.Xm
open Go.Pv Go.Av
theorem pJ {α : Type} {a b : α} : (bif true then a else b) = a := Eq.symm (Eq.symm rfl)
theorem ie {α : Type} {a b : α} : (bif false then a else b) = b := Eq.symm (Eq.symm rfl)
theorem bnT {α : Type} {a b : α} : (bif !true then a else b) = b := Eq.symm (Eq.symm rfl)
theorem bnF {α : Type} {a b : α} : (bif !false then a else b) = a := Eq.symm (Eq.symm rfl)
theorem notT : (!true) = false := Eq.symm (Eq.symm rfl)
theorem notF : (!false) = true := Eq.symm (Eq.symm rfl)
theorem ands {a b : Bool} (h : (a && b) = true) : a = true ∧ b = true := by cases a <;> cases b <;> first | exact ⟨rfl, rfl⟩ | cases h
theorem gcS {α : Type} {k : Option α} {c : Bool} {n : Nat} (h : n < 4294967281) : fq c (okS n) k = k := by
  cases c
  · exact eB
  · rw [ky, mb h]
theorem gcA {α : Type} {k : Option α} {c : Bool} : fq c (iV xmla_k1) k = k := by
  have : iV xmla_k1 = true := by decide +kernel
  rw [this]; cases c <;> rfl
theorem all8 (p : UInt8 → Bool) (h : ∀ k : Fin 256, p (UInt8.ofNat k.val) = true) (b : UInt8) : p b = true := by
  have := h ⟨b.toNat, b.toNat_lt⟩
  simpa using this
theorem vD (x : UInt8) (r u : Bs) : Go.Lib.index (x :: r) u = if u.isPrefixOf (x :: r) = true then 0 else if Go.Lib.index r u = -1 then -1 else Go.Lib.index r u + 1 := by
  by_cases h : u.isPrefixOf (x :: r) = true
  · simp [Go.Lib.index, h]
  · simp [Go.Lib.index, h]
def cutO : Option (Bs × Bs) → Bs → Bs × Bs × Bool
  | none, s => (s, [], false)
  | some (a, b), _ => (a, b, true)
theorem cut_eq {p : Bs} (hp : p ≠ []) : ∀ s : Bs, Go.Lib.cut s p = cutO (lE p s) s
  | [] => by
    have : p.isEmpty = false := by cases p with | nil => exact absurd rfl hp | cons a b => rfl
    unfold Go.Lib.cut lE
    rw [if_neg hp]
    simp [Go.Lib.index, this, cutO]
  | c :: r => by
    have ih := cut_eq hp r
    have hg := Go.Lib.index_ge r p
    unfold Go.Lib.cut at ih ⊢
    unfold lE
    rw [vD]
    by_cases h : p.isPrefixOf (c :: r) = true
    · rw [if_pos h, if_pos h, if_pos (Int.le_refl 0)]
      simp [cutO]
    · rw [if_neg h, if_neg h]
      by_cases h1 : Go.Lib.index r p = -1
      · rw [if_neg (by omega)] at ih
        rw [if_pos h1, if_neg (by omega)]
        cases e : lE p r with
        | none => rfl
        | some x => rw [e] at ih; obtain ⟨a, b⟩ := x; have := congrArg (fun x => x.2.2) ih; simp [cutO] at this
      · rw [if_pos (by omega)] at ih
        rw [if_neg h1, if_pos (by omega)]
        obtain ⟨n, hn⟩ : ∃ n : Nat, Go.Lib.index r p = (n : Int) := ⟨(Go.Lib.index r p).toNat, by omega⟩
        rw [hn] at ih ⊢
        cases e : lE p r with
        | none => rw [e] at ih; have := congrArg (fun x => x.2.2) ih; simp [cutO] at this
        | some x =>
          obtain ⟨a, b⟩ := x
          rw [e] at ih
          simp only [cutO, Prod.mk.injEq, Int.toNat_natCast, and_true] at ih ⊢
          have e1 : ((n : Int) + 1).toNat = n + 1 := by omega
          rw [e1]
          refine ⟨by rw [List.take_succ_cons, ih.1], ?_⟩
          rw [show n + 1 + p.length = (n + p.length) + 1 by omega, List.drop_succ_cons, ih.2]
theorem xk (s p : Bs) : Go.Lib.hasPrefix s p = p.isPrefixOf s := rfl
theorem lT {F : Nat} {s p : Bs} {o : List Bs} {k : Int} {l : List Tok} (h : p.isPrefixOf s = false) : ff F s o k l p = some (false, s) := by
  unfold ff Go.Lib.trimPrefix
  rw [bk, xk, h]; rfl
theorem lc {F : Nat} {s p : Bs} {o : List Bs} {k : Int} {l : List Tok} (h : p.isPrefixOf s = true) : ff F s o k l p = some (true, s.drop p.length) := by
  unfold ff Go.Lib.trimPrefix
  rw [bk, xk, h]; rfl
theorem qI {F : Nat} : cI F true = some (.ok ()) := Eq.symm (Eq.symm rfl)
theorem pH {F : Nat} : cI F false = some (.pan 2) := Eq.symm (Eq.symm rfl)
def cutR : Option (Bs × Bs) → Res (Bs × Bs)
  | none => .pan 2
  | some x => .ok x
theorem uo {F : Nat} {s p : Bs} {o : List Bs} {k : Int} {l : List Tok} (hp : p ≠ []) (hs : s.length ≤ 1000000) : iC F s o k l p = some (cutR (lE p s)) := by
  unfold iC
  rw [mb (by omega), bk, cut_eq hp]
  cases lE p s with
  | none => simp only [cutO]; rw [pH, bS]; rfl
  | some x => obtain ⟨a, b⟩ := x; simp only [cutO]; rw [qI, bM]; rfl
theorem blk_c (c : UInt8) : ([9, 10, 13, 32] : Bs).contains c = ic c := by
  have := all8 (fun c => ([9, 10, 13, 32] : Bs).contains c == ic c) (by decide +kernel) c
  simpa using this
theorem sK {F : Nat} {s : Bs} {o : List Bs} {k : Int} {l : List Tok} : kE F s o k l = some (decide (((s.dropWhile ic).length : Int) < (s.length : Int)), s.dropWhile ic) := by
  have h : iV ([9, 10, 13, 32] : List UInt8) = true := by decide +kernel
  have e : (fun x => ([9, 10, 13, 32] : Bs).contains x) = ic := funext blk_c
  unfold kE Go.Lib.trimLeftS
  rw [mb (by simp), h, mV, bk, e]
theorem sgn_i (c : UInt8) : decide (0 ≤ Go.Lib.indexByte xmla_k1 c) = lR c := by
  have := all8 (fun c => decide (0 ≤ Go.Lib.indexByte xmla_k1 c) == lR c) (by decide +kernel) c
  simpa using this
theorem sgn_n (c : UInt8) : decide (Go.Lib.indexByte xmla_k1 c < 0) = !lR c := by
  rw [← sgn_i]
  by_cases h : 0 ≤ Go.Lib.indexByte xmla_k1 c
  · rw [decide_eq_true h, decide_eq_false (by omega)]; rfl
  · rw [decide_eq_false h, decide_eq_true (by omega)]; rfl
theorem sgn_c (c : UInt8) : xmla_k1.contains c = lR c := by
  have := all8 (fun c => xmla_k1.contains c == lR c) (by decide +kernel) c
  simpa using this
theorem let_c (c : UInt8) : Go.Lib.contains xmla_k2 [c] = letB c := by
  have := all8 (fun c => Go.Lib.contains xmla_k2 [c] == letB c) (by decide +kernel) c
  simpa using this
theorem tw_at {f : UInt8 → Bool} : ∀ {s : Bs} {i : Nat}, i ≤ s.length → (s.take i).all f = true → (∀ h : i < s.length, f s[i] = false) → s.takeWhile f = s.take i ∧ s.dropWhile f = s.drop i
  | [], i, h, _, _ => by simp
  | c :: s, 0, h, _, g => by
    have := g (by simp)
    rw [List.getElem_cons_zero] at this
    rw [List.takeWhile_cons, List.dropWhile_cons, this]; simp
  | c :: s, i + 1, h, ha, g => by
    rw [List.take_succ_cons, List.all_cons] at ha
    obtain ⟨h1, h2⟩ := ands ha
    have := tw_at (s := s) (i := i) (by simpa using h) h2 fun q => by
      have := g (by simpa using q)
      rw [List.getElem_cons_succ] at this; exact this
    rw [List.takeWhile_cons, List.dropWhile_cons, h1]
    simp [this.1, this.2]
theorem ru (s : Bs) (hs : s.length ≤ 1000000) : ∀ (n i : Nat), s.length - i < n → i ≤ s.length → jM s n (i : Int) = some ((s.drop i).all lR)
  | 0, i, h, _ => by omega
  | n + 1, i, h, hi => by
    show jN s (jM s n) (i : Int) = _
    unfold jN
    by_cases g : i < s.length
    · rw [bT (by omega), cT (by omega), bk, fw g, bk, sgn_n, aZ g, List.all_cons]
      cases lR s[i] with
      | false => rw [notF, pJ, Bool.false_and]
      | true =>
        rw [notT, ie, bQ (by omega), cr, ru s hs n (i + 1) (by omega) (by omega), Bool.true_and]
    · rw [bF (by omega), bg (by omega)]; rfl
theorem inner_eq (F : Nat) (s : Bs) (hs : s.length ≤ 1000000) (hF : s.length < F) : ph F s = some (s.all lR) := ru s hs F 0 (by omega) (by omega)
theorem uG (f : UInt8 → Bool) : ∀ l : Bs, l.dropWhile f = [] ↔ ∀ x ∈ l, f x = true
  | [] => by simp
  | c :: l => by
    have ih := uG f l
    cases h : f c with
    | true => simp [List.dropWhile_cons, h, ih]
    | false => simp [List.dropWhile_cons, h]
theorem trim_sgn (t : Bs) : decide (Go.Lib.trimS t xmla_k1 = []) = t.all lR := by
  unfold Go.Lib.trimS Go.Lib.trimLeftS Go.Lib.trimRightS
  have e : (fun x => xmla_k1.contains x) = lR := funext sgn_c
  rw [e]
  cases h : t.all lR with
  | true =>
    rw [List.all_eq_true] at h
    refine decide_eq_true ?_
    have : t.reverse.dropWhile lR = [] := by
      rw [uG]; intro x hx; exact h x (List.mem_reverse.1 hx)
    rw [this]; rfl
  | false =>
    rw [List.all_eq_false] at h
    obtain ⟨x, hx, hn⟩ := h
    refine decide_eq_false fun q => ?_
    rw [uG] at q
    have hne : t.reverse.dropWhile lR ≠ [] := by
      intro e
      rw [uG] at e
      exact hn (e x (List.mem_reverse.2 hx))
    have := List.head_dropWhile_not lR (l := t.reverse) hne
    have hm := q _ (List.mem_reverse.2 (List.head_mem hne))
    rw [hm] at this
    simp at this
theorem to1 (c : UInt8) (r : Bs) : to_ (c :: r) 1 = [c] := rfl
theorem wr (c : UInt8) (r : Bs) : lv (c :: r) = (letB c && ((c :: r).all lR && decide ((c :: r).length ≤ 60))) := Eq.symm (Eq.symm rfl)
theorem Name_eq (F : Nat) (s : Bs) (hs : s.length ≤ 1000000) (hF : 100 < F) : pu F s = some (lv s) := by
  unfold pu
  have l1 : xmla_k1.length < 4294967281 := by decide +kernel
  have l2 : xmla_k2.length < 4294967281 := by decide +kernel
  simp only [bk, gcS l1, gcS l2, gcS (n := s.length) (by omega), gcA]
  cases s with
  | nil => simp [fq, kz, lv]
  | cons c r =>
    rw [decide_eq_false (p := c :: r = ([] : List UInt8)) (by simp), notF, Bool.true_and, to1, let_c, trim_sgn]
    rw [wr]
    have hp : 0 < (c :: r).length := by simp
    by_cases h : (c :: r).length ≤ 60
    · rw [decide_eq_true h, decide_eq_true (p := (((c :: r).length : Nat) : Int) ≤ 60) (by omega), ky, dZ (by omega), Bool.true_and]
      cases hc : letB c with
      | false => rw [Bool.false_and, ld, Bool.false_and, Bool.false_and]
      | true =>
        cases ha : (c :: r).all lR with
        | false => rw [Bool.and_false, ld, Bool.false_and, Bool.false_and, Bool.and_false]
        | true => rw [inner_eq F (c :: r) hs (by omega), ha, dk]; rfl
    · rw [decide_eq_false h, decide_eq_false (p := (((c :: r).length : Nat) : Int) ≤ 60) (by omega), eB, Bool.false_and, Bool.false_and, ld, Bool.false_and, Bool.and_false, Bool.and_false]
def nW : Option (Bs × Bs) → Res (Bs × Bs)
  | none => .pan 2
  | some x => .ok x
theorem sN (F : Nat) (hF : 100 < F) (s : Bs) (hs : s.length ≤ 1000000) : ∀ (n i : Nat), s.length - i < n → i ≤ s.length → (s.take i).all lR = true → kP F s n (i : Int) = some (nW (iU s))
  | 0, i, h, _, _ => by omega
  | n + 1, i, h, hi, ha => by
    have fin : (∀ h : i < s.length, lR s[i] = false) → jr F s (i : Int) = some (nW (iU s)) := fun q => by
      obtain ⟨e1, e2⟩ := tw_at hi ha q
      unfold jr iU
      rw [dZ (by omega), bk, mR, lb, Name_eq F _ (by rw [List.length_take]; omega) hF, aU, e1, e2]
      cases lv (s.take i) with
      | false => rw [pH, bS]; rfl
      | true => rw [qI, bM, dZ (by omega), bk]; rfl
    show kQ F s (kP F s n) (i : Int) = _
    unfold kQ
    by_cases g : i < s.length
    · rw [decide_eq_true (p := (i : Int) < (s.length : Int)) (by omega), ky, cT (by omega), bk, fw g, bk, sgn_i, Bool.true_and]
      cases hc : lR s[i] with
      | false => rw [ie]; exact fin fun _ => hc
      | true =>
        rw [pJ, bQ (by omega), cr]
        refine sN F hF s hs n (i + 1) (by omega) (by omega) ?_
        rw [List.take_succ_eq_append_getElem g, List.all_append, ha, List.all_cons, hc]; rfl
    · rw [decide_eq_false (p := (i : Int) < (s.length : Int)) (by omega), eB, bk, bk, Bool.false_and, ie]
      exact fin fun q => absurd q g
theorem uv {F : Nat} {s : Bs} {o : List Bs} {k : Int} {l : List Tok} (hF : 100 < F) (hs : s.length ≤ 1000000) (hl : s.length < F) : lH F s o k l = some (nW (iU s)) :=
  sN F hF s hs F 0 (by omega) (by omega) (by simp)
end Go.Xm
namespace Go.Xm
open Go.Pv Go.Av
def dec (F : Nat) (s : Bs) : Option Bs := bif (Go.Pn.G1 F (s.length + 1) s true []).2 then some (Go.Pn.G1 F (s.length + 1) s true []).1 else none
def oR {α : Type} : Option α → Res α
  | none => .pan 2
  | some x => .ok x
section
variable {F : Nat} (hF : 1500000 < F)
include hF
theorem tE {s : Bs} (hs : s.length ≤ 100000) : iM F s = some (oR (dec F s)) := by
  unfold iM dec
  rw [Go.Pn.decG F (by omega) s hs]
  cases (Go.Pn.G1 F (s.length + 1) s true []).2 with
  | true => rw [pJ, pJ, aO, decide_eq_true rfl, qI, bM]; rfl
  | false => rw [ie, ie, aO, decide_eq_false (by decide), pH, bS]; rfl
omit hF in
theorem wV {s t : Bs} {o : List Bs} {k : Int} {l : List Tok} (hl : l.length ≤ 1000000) : nN F s o k l t = some (lZ t l) := by
  unfold nN lZ
  by_cases h : t = []
  · rw [decide_eq_true h, bnT, if_pos h]
  · rw [decide_eq_false h, bnF, if_neg h, dS (by simp; omega), bk]
omit hF in
theorem at_last {o : List Bs} (h : o ≠ []) : at_ o ((o.length : Int) - 1) = o.getLast h := by
  have hp := List.length_pos_iff.2 h
  rw [show (o.length : Int) - 1 = ((o.length - 1 : Nat) : Int) by omega, fw (by omega), List.getLast_eq_getElem]
def vQ : Rx → Res (List Tok × List Bs)
  | .ok x => .ok (x.2.2.2, x.2.1)
  | .no e => .pan e
omit hF in
theorem xa {s n : Bs} {o : List Bs} {k : Nat} {l : List Tok} (ho : o.length ≤ 100) (hl : l.length ≤ 1000000) : lG F s o (k : Int) l n = some (vQ (ma n s o k l)) := by
  unfold lG ma
  rw [bQ (by omega)]
  by_cases h : o = []
  · subst h
    rw [decide_eq_false (p := 0 ≤ ((([] : List Bs).length : Nat) : Int) - 1) (by simp), eB, eB, bk, Bool.false_and, pH, bS, if_neg (by simp)]; rfl
  · have hp := List.length_pos_iff.2 h
    rw [decide_eq_true (p := 0 ≤ (o.length : Int) - 1) (by omega), ky, ky, cT (by omega), cT (by omega), bk, at_last h, Bool.true_and, List.getLast?_eq_some_getLast h]
    by_cases g : o.getLast h = n
    · rw [decide_eq_true g, qI, bM, dZ (by omega), bk, dS (by simp; omega), bk, if_pos (by rw [g])]
      rw [show (o.length : Int) - 1 = ((o.length - 1 : Nat) : Int) by omega, mR, ← List.dropLast_eq_take]; rfl
    · rw [decide_eq_false g, pH, bS, if_neg (by simpa using g)]; rfl
omit hF in
theorem ib_eq : ∀ s : Bs, (Go.Lib.indexByte s 60 = -1 ∧ (s.takeWhile fun c => decide (c ≠ 60)) = s ∧ (s.dropWhile fun c => decide (c ≠ 60)) = []) ∨
    ∃ i : Nat, Go.Lib.indexByte s 60 = (i : Int) ∧ i < s.length ∧ (s.takeWhile fun c => decide (c ≠ 60)) = s.take i ∧ (s.dropWhile fun c => decide (c ≠ 60)) = s.drop i
  | [] => .inl ⟨rfl, rfl, rfl⟩
  | c :: r => by
    by_cases h : c = 60
    · right; subst h; exact ⟨0, by simp [Go.Lib.indexByte], by simp, by simp, by simp⟩
    · have hb : (c == 60) = false := by simpa using h
      rcases ib_eq r with ⟨h1, h2, h3⟩ | ⟨i, h1, h2, h3, h4⟩
      · left
        refine ⟨by simp [Go.Lib.indexByte, hb, h1], ?_, ?_⟩
        · rw [List.takeWhile_cons, if_pos (by simpa using h), h2]
        · rw [List.dropWhile_cons, if_pos (by simpa using h), h3]
      · right
        refine ⟨i + 1, ?_, by simpa using h2, ?_, ?_⟩
        · have : ¬ ((i : Int) = -1) := by omega
          simp [Go.Lib.indexByte, hb, h1, this]
        · rw [List.takeWhile_cons, if_pos (by simpa using h), h3]; rfl
        · rw [List.dropWhile_cons, if_pos (by simpa using h), h4]; rfl
omit hF in
theorem bl_blk (c : UInt8) : Go.Pn.bl c = ic c := Eq.symm (Eq.symm rfl)
omit hF in
theorem vo : ∀ s : Bs, decide (Go.Pn.trim s = []) = s.all ic
  | [] => rfl
  | c :: r => by
    rw [Go.Pn.trim, List.all_cons, bl_blk]
    cases ic c with
    | true => rw [pJ, Bool.true_and, vo r]
    | false => rw [ie, Bool.false_and]; simp
def wN : Rx → Res (Bool × Bs × List Tok)
  | .ok x => .ok (true, x.1, x.2.2.2)
  | .no e => .pan e
theorem xc {s : Bs} {o : List Bs} {k : Nat} {l : List Tok} (i : Nat) (hs : s.length ≤ 100000) (hl : l.length ≤ 1000000) (hi : i ≤ s.length) (h0 : i ≠ 0)
    (e1 : (s.takeWhile fun c => decide (c ≠ 60)) = s.take i) (e2 : (s.dropWhile fun c => decide (c ≠ 60)) = s.drop i) : fF F s o (k : Int) l (i : Int) = some (wN (kx (dec F) s o k l)) := by
  have h1 : (s.take i).length ≤ 100000 := by rw [List.length_take]; omega
  unfold fF kx
  rw [bF (by omega), dZ (by omega), bk, dZ (by omega), bk, mR, lb, tE hF h1, e1, e2]
  cases dec F (s.take i) with
  | none => simp only [oR]; rw [bS]; rfl
  | some t =>
    simp only [oR]
    rw [bM]
    by_cases ho : o = []
    · subst ho
      rw [bT (by simp), Go.Pn.ent_Trim_eq F _ (by omega) (by omega), aU, vo, if_pos rfl]
      cases (s.take i).all ic with
      | true => rw [qI, bM]; rfl
      | false => rw [pH, bS]; rfl
    · have := List.length_pos_iff.2 ho
      rw [bF (by omega), wV hl, aU, if_neg ho]; rfl
theorem plain_eq {s : Bs} {o : List Bs} {k : Nat} {l : List Tok} (hs : s.length ≤ 100000) (hl : l.length ≤ 1000000) (h0 : s ≠ []) (h : ([60] : Bs).isPrefixOf s = false) :
    jj F s o (k : Int) l = some (wN (kx (dec F) s o k l)) := by
  have hp := List.length_pos_iff.2 h0
  unfold jj
  rw [bk]
  rcases ib_eq s with ⟨h1, h2, h3⟩ | ⟨i, h1, h2, h3, h4⟩
  · rw [h1, bT (by omega)]
    exact xc hF s.length hs hl (Nat.le_refl _) (by omega) (by rw [List.take_length]; exact h2) (by rw [List.drop_length]; exact h3)
  · rw [h1, bF (by omega)]
    refine xc hF i hs hl (by omega) (fun e => ?_) h3 h4;subst e
    cases s with
    | nil => exact h0 rfl
    | cons c r =>
      by_cases g : c = 60
      · subst g; simp at h
      · have hb : (c == 60) = false := by simpa using g
        have hg := Go.Lib.indexByte_ge r 60
        rw [Go.Lib.indexByte, hb] at h1
        simp only [Bool.false_eq_true, if_false] at h1
        by_cases q : Go.Lib.indexByte r 60 = -1
        · rw [q] at h1; simp at h1
        · simp only [beq_iff_eq, q, if_false] at h1; omega
omit hF in
theorem plain_no {s : Bs} {o : List Bs} {k : Int} {l : List Tok} (h : ([60] : Bs).isPrefixOf s = true) : jj F s o k l = some (.ok (false, s, l)) := by
  cases s with
  | nil => cases h
  | cons c r =>
    have hc : c = 60 := by
      by_cases g : c = 60
      · exact g
      · have : (60 == c) = false := by simpa using fun q => g q.symm
        simp [List.isPrefixOf, this] at h
    subst hc
    have : Go.Lib.indexByte (60 :: r) 60 = 0 := by simp [Go.Lib.indexByte]
    unfold jj
    rw [bk, this, bF (by omega)]
    unfold fF
    rw [bT rfl]
end
end Go.Xm
namespace Go.Xm
open Go.Pv Go.Av
theorem ib_ge (s : Bs) : -1 ≤ Go.Lib.index s [60] := Go.Lib.index_ge s [60]
theorem xl : ∀ s : Bs, Go.Lib.contains s [60] = decide (60 ∈ s)
  | [] => by simp [Go.Lib.contains, Go.Lib.index]
  | c :: r => by
    have ih := xl r
    have hg := ib_ge r
    unfold Go.Lib.contains at ih ⊢
    rw [vD]
    by_cases h : c = 60
    · subst h; simp
    · have hb : (60 == c) = false := by simpa using fun q => h q.symm
      have hm : (60 ∈ c :: r) ↔ 60 ∈ r := by rw [List.mem_cons]; exact ⟨fun q => q.elim (fun e => absurd e.symm h) id, .inr⟩
      rw [if_neg (by simp [List.isPrefixOf, hb]), decide_eq_decide.2 hm, ← ih]
      by_cases g : Go.Lib.index r [60] = -1
      · rw [if_pos g, g]
      · rw [if_neg g]; exact decide_eq_decide.2 (by omega)
def attrR : Option (At × Bs) → Res (Bs × Bs × Bs)
  | none => .pan 2
  | some (a, r) => .ok (a.1, a.2, r)
theorem sP (F : Nat) (as_ : List At) (n v : Bs) (hl : as_.length ≤ 1000000) : ∀ (m i : Nat), as_.length - i < m → i ≤ as_.length → ∃ j : Int, eG F as_ n v m (i : Int) = some j ∧ decide (0 ≤ j) = (as_.drop i).any fun x => decide (x.1 = n)
  | 0, i, h, _ => by omega
  | m + 1, i, h, hi => by
    show ∃ j : Int, fN F as_ n v (eG F as_ n v m) (i : Int) = some j ∧ _
    unfold fN
    by_cases g : i < as_.length
    · rw [bT (by omega), cT (by omega), bk, fw g, aZ g, List.any_cons]
      unfold pi
      rw [aU]
      by_cases e : n = as_[i].1
      · rw [decide_eq_true e, pJ, decide_eq_true e.symm, Bool.true_or]
        exact ⟨_, rfl, decide_eq_true (by omega)⟩
      · rw [decide_eq_false e, ie, bQ (by omega), cr, decide_eq_false (fun q => e q.symm), Bool.false_or]
        exact sP F as_ n v hl m (i + 1) (by omega) (by omega)
    · rw [bF (by omega), bg (by omega)]
      exact ⟨-1, rfl, rfl⟩
theorem cont_eq (F : Nat) (as_ : List At) (n v : Bs) (hl : as_.length ≤ 1000000) (hF : as_.length < F) : fO F as_ n v = some (as_.any fun x => decide (x.1 = n)) := by
  obtain ⟨j, h1, h2⟩ := sP F as_ n v hl F 0 (by omega) (by omega)
  unfold fO ko
  show bnd (eG F as_ n v F ((0 : Nat) : Int)) _ = _
  rw [h1, aU, h2, List.drop_zero]
section
variable {F : Nat} (hF : 1500000 < F)
include hF
theorem attr_j {s : Bs} {o : List Bs} {k : Int} {l : List Tok} {x : Bs × Bs} (q : UInt8) (hs : s.length ≤ 100000) : iu F o k l x [q] s = some (attrR (qH (dec F) x.1 q s)) := by
  unfold iu qH
  rw [uo (by simp) (by omega)]
  cases e : lE [q] s with
  | none => simp only [cutR]; rw [bS]; rfl
  | some y =>
    obtain ⟨raw, r⟩ := y
    have hl := congrArg List.length (mj (by simp) e)
    simp only [List.length_append] at hl
    simp only [cutR]
    rw [bM, mb (by simp; omega), bk]
    simp only []
    rw [xl]
    by_cases g : 60 ∈ raw
    · rw [decide_eq_true g, notT, pH, bS, if_pos g]; rfl
    · rw [decide_eq_false g, notF, qI, bM, if_neg g, tE hF (by omega)]
      cases dec F raw with
      | none => simp only [oR]; rw [bS]; rfl
      | some t => simp only [oR]; rw [bM]; rfl
theorem attr_eq {s : Bs} {o : List Bs} {k : Int} {l : List Tok} (hs : s.length ≤ 100000) : mK F s o k l = some (attrR (mW (dec F) s)) := by
  unfold mK mW
  rw [uv (by omega) (by omega) (by omega)]
  cases e : iU s with
  | none => simp only [nW]; rw [bS]; rfl
  | some y =>
    obtain ⟨n, r⟩ := y
    have hl := congrArg List.length (iE e).1
    rw [List.length_append] at hl
    simp only [nW]
    rw [bM]
    simp only []
    by_cases h1 : ([61, 34] : Bs).isPrefixOf r = true
    · rw [lc h1, aO, bnT, if_pos h1]
      exact attr_j hF 34 (by simp; omega)
    · rw [lT (eq_false_of_ne_true h1), aO, bnF, if_neg h1]
      by_cases h2 : ([61, 39] : Bs).isPrefixOf r = true
      · rw [lc h2, aO, qI, bM, if_pos h2]
        exact attr_j hF 39 (by simp; omega)
      · rw [lT (eq_false_of_ne_true h2), aO, pH, bS, if_neg h2]; rfl
abbrev ER := Bool × Bs × Int × List Tok × List Bs
def vT : Rx → Res ER
  | .ok x => .ok (true, x.1, (x.2.2.1 : Int), x.2.2.2, x.2.1)
  | .no e => .pan e
omit hF in
theorem xd {s n v : Bs} {as_ : List At} {em : Bool} {o : List Bs} {k : Nat} {l : List Tok} (ho : o.length ≤ 20) (hl : l.length ≤ 999000) :
    eR F o l (n, v) em s as_ (k : Int) = some (vT (if 20 ≤ o.length then .no 5 else if em = true then .ok (s, o, k, (l ++ [(0, n, [], as_)]) ++ [(1, n, [], [])]) else .ok (s, o ++ [n], k, l ++ [(0, n, [], as_)]))) := by
  have hn : (o ++ [n]).length = o.length + 1 := by simp
  unfold eR gL
  dsimp only
  rw [dS (by simp; omega), bk]
  by_cases h : 20 ≤ o.length
  · rw [bT (by omega), if_pos h]; rfl
  · rw [bF (by omega), if_neg h]
    unfold gM gN
    dsimp only
    rw [dS (by simp; omega), bk]
    cases em with
    | false => rw [ie, if_neg (by decide)]; rfl
    | true =>
      rw [pJ, if_pos rfl, xa (by omega) (by simp; omega)]
      unfold ma
      rw [if_pos (by simp)]
      simp only [vQ]
      rw [bM]
      simp [fW, vT]
omit hF in
theorem xe {s n v : Bs} {as_ : List At} {em : Bool} {o : List Bs} {k : Nat} {l : List Tok} (ho : o.length ≤ 20) (hl : l.length ≤ 999000) (hk : k ≤ 1) :
    eQ F o (k : Int) l (n, v) em s as_ = some (vT (nU n as_ em s o k l)) := by
  unfold eQ nU
  by_cases h : o = []
  · subst h
    rw [bT (by simp), bQ (by omega)]
    by_cases g : k = 0
    · subst g
      rw [decide_eq_true (p := ((0 : Nat) : Int) + 1 = 1) (by omega), qI, bM, if_neg (by simp), if_pos rfl]
      exact xd (k := 1) (by simp) hl
    · rw [decide_eq_false (p := (k : Int) + 1 = 1) (by omega), pH, bS, if_pos ⟨rfl, g⟩]; rfl
  · have := List.length_pos_iff.2 h
    rw [bF (by omega), if_neg (fun q => h q.1), if_neg h]
    exact xd ho hl
def elemP' (F : Nat) (n : Bs) (o : List Bs) (k : Nat) (l : List Tok) : Option (List At × Bool × Bs) → Rx
  | none => .no 2
  | some (as_, em, r) => nU n as_ em r o k l
theorem tC {n v : Bs} {o : List Bs} {k : Nat} {l : List Tok} (ho : o.length ≤ 20) (hl : l.length ≤ 999000) (hk : k ≤ 1) : ∀ (m : Nat) (as_ : List At) (s : Bs), s.length < m → as_.length + s.length ≤ 100000 →
    gO F o (k : Int) l (n, v) m (as_, s) = some (vT (elemP' F n o k l (ig (dec F) (s.length + 1) as_ s)))
  | 0, as_, s, h, _ => by omega
  | m + 1, as_, s, h, hs => by
    show gP F o (k : Int) l (n, v) (gO F o (k : Int) l (n, v) m) as_ s = _
    have hd := rQ ic s
    unfold gP ig
    rw [sK, aO]
    by_cases h1 : ([62] : Bs).isPrefixOf (s.dropWhile ic) = true
    · rw [lc h1, aO, pJ, if_pos h1]
      exact xe ho hl hk
    · rw [lT (eq_false_of_ne_true h1), aO, ie, if_neg h1]
      by_cases h2 : ([47, 62] : Bs).isPrefixOf (s.dropWhile ic) = true
      · rw [lc h2, aO, pJ, if_pos h2]
        exact xe ho hl hk
      · rw [lT (eq_false_of_ne_true h2), aO, ie, if_neg h2]
        by_cases h3 : (s.dropWhile ic).length = s.length
        · rw [if_pos h3, decide_eq_false (by omega), pH, bS]; rfl
        · rw [if_neg h3, decide_eq_true (by omega), qI, bM, attr_eq hF (by omega)]
          cases e : mW (dec F) (s.dropWhile ic) with
          | none => simp only [attrR]; rw [bS]; rfl
          | some y =>
            obtain ⟨a, r⟩ := y
            have hr := nI e
            simp only [attrR]
            rw [bM, cont_eq F as_ _ _ (by omega) (by omega), aU]
            cases hc : as_.any fun x => decide (x.1 = a.1) with
            | true => rw [notT, pH, bS, if_pos rfl]; rfl
            | false =>
              rw [notF, qI, bM, if_neg (by decide), dS (by simp; omega), bk]
              have := tC (n := n) (v := v) ho hl hk m (as_ ++ [a]) r (by omega) (by simp; omega)
              rw [qq (k := s.length) (m := r.length + 1) (by omega) (by omega)]
              exact this
theorem yQ {s : Bs} {o : List Bs} {k : Nat} {l : List Tok} (hs : s.length ≤ 100000) (ho : o.length ≤ 20) (hl : l.length ≤ 999000) (hk : k ≤ 1) (h : ([60] : Bs).isPrefixOf s = true) :
    ir F s o (k : Int) l = some (vT (nZ (dec F) (s.drop 1) o k l)) := by
  unfold ir nZ
  rw [lc h, aO, bnT, uv (by omega) (by simp; omega) (by simp; omega)]
  show eF (some (nW (iU (s.drop 1)))) _ = _
  cases e : iU (s.drop 1) with
  | none => simp only [nW]; rw [bS]; rfl
  | some y =>
    obtain ⟨n, r⟩ := y
    have hr := congrArg List.length (iE e).1
    rw [List.length_append, List.length_drop] at hr
    simp only [nW]
    rw [bM]
    refine Eq.trans (tC hF ho hl hk F [] r (by omega) (by simp; omega)) ?_
    cases ig (dec F) (r.length + 1) [] r with
    | none => rfl
    | some z => rfl
def rO : Rx → Res (Bool × Bs)
  | .ok x => .ok (true, x.1)
  | .no e => .pan e
def endR : Rx → Res (Bool × Bs × List Tok × List Bs)
  | .ok x => .ok (true, x.1, x.2.2.2, x.2.1)
  | .no e => .pan e
omit hF in
theorem ur {s p q : Bs} {o : List Bs} {k : Nat} {l : List Tok} (hs : s.length ≤ 1000000) (hp : p ≠ []) : (eF (iC F s o (k : Int) l p) fun x14 => some (Res.ok (true, x14.2))) = some (rO (jn p s o k l)) := by
  rw [uo hp hs]
  unfold jn
  cases lE p s with
  | none => simp only [cutR]; rw [bS]; rfl
  | some y => simp only [cutR]; rw [bM]; rfl
omit hF in
theorem data_eq {s : Bs} {o : List Bs} {k : Nat} {l : List Tok} (hs : s.length ≤ 1000000) (hl : l.length ≤ 1000000) (h : ([60, 33, 91, 67, 68, 65, 84, 65, 91] : Bs).isPrefixOf s = true) :
    lI F s o (k : Int) l = some (wN (oa (s.drop 9) o k l)) := by
  unfold lI oa
  rw [lc h, aO, bnT, uo (by simp) (by simp; omega)]
  show eF (some (cutR (lE [93, 93, 62] (s.drop 9)))) _ = _
  cases lE [93, 93, 62] (s.drop 9) with
  | none => simp only [cutR]; rw [bS]; rfl
  | some y =>
    obtain ⟨t, r⟩ := y
    simp only [cutR]
    rw [bM]
    by_cases ho : o = []
    · subst ho
      rw [decide_eq_false (by simp), pH, bS, if_pos rfl]; rfl
    · have := List.length_pos_iff.2 ho
      rw [decide_eq_true (by omega), qI, bM, wV hl, aU, if_neg ho]; rfl
theorem end_eq {s : Bs} {o : List Bs} {k : Nat} {l : List Tok} (hs : s.length ≤ 100000) (ho : o.length ≤ 20) (hl : l.length ≤ 999000) (h : ([60, 47] : Bs).isPrefixOf s = true) :
    iL F s o (k : Int) l = some (endR (sx (s.drop 2) o k l)) := by
  unfold iL sx
  rw [lc h, aO, bnT, uv (by omega) (by simp; omega) (by simp; omega)]
  show eF (some (nW (iU (s.drop 2)))) _ = _
  cases iU (s.drop 2) with
  | none => simp only [nW]; rw [bS]; rfl
  | some y =>
    obtain ⟨n, r⟩ := y
    simp only [nW]
    rw [bM, sK, aO]
    simp only []
    by_cases h1 : ([62] : Bs).isPrefixOf (r.dropWhile ic) = true
    · rw [lc h1, aO, qI, bM, if_pos h1, xa (by omega) (by omega)]
      show eF (some (vQ (ma n ((r.dropWhile ic).drop 1) o k l))) _ = _
      unfold ma
      by_cases g : o.getLast? = some n
      · rw [if_pos g]; simp only [vQ]; rw [bM]; rfl
      · rw [if_neg g]; simp only [vQ]; rw [bS]; rfl
    · rw [lT (eq_false_of_ne_true h1), aO, pH, bS, if_neg h1]; rfl
def stepR : Rx → Res (Bs × Int × List Tok × List Bs)
  | .ok x => .ok (x.1, (x.2.2.1 : Int), x.2.2.2, x.2.1)
  | .no e => .pan e
omit hF in
theorem nt {p s : Bs} {o : List Bs} {k : Nat} {l : List Tok} {x : Sx} (h : jn p s o k l = .ok x) : x.2 = (o, k, l) := by
  unfold jn at h
  split at h
  · cases h
  · cases h; rfl
theorem step_eq {s : Bs} {o : List Bs} {k : Nat} {l : List Tok} (h0 : s ≠ []) (hs : s.length ≤ 100000) (ho : o.length ≤ 20) (hl : l.length ≤ 999000) (hk : k ≤ 1) :
    mJ F s o (k : Int) l = some (stepR (gH (dec F) s o k l)) := by
  unfold mJ gH
  by_cases h1 : ([60] : Bs).isPrefixOf s = true
  · rw [plain_no h1, bM, ie, if_neg (by rw [h1]; decide)]
    simp only []
    unfold js
    by_cases h2 : ([60, 33, 45, 45] : Bs).isPrefixOf s = true
    · rw [lc h2, aO, bnT, ur (q := []) (by simp; omega) (by simp), if_pos h2]
      show eF (some (rO (jn [45, 45, 62] (s.drop 4) o k l))) _ = _
      cases e : jn [45, 45, 62] (s.drop 4) o k l with
      | no e => rfl
      | ok x =>
        have := nt e
        obtain ⟨a, b⟩ := x
        simp only at this; subst this
        simp only [rO]; rw [bM]; rfl
    · rw [lT (eq_false_of_ne_true h2), aO, bnF, bM, ie, if_neg h2]
      simp only []
      unfold qs
      by_cases h3 : ([60, 63] : Bs).isPrefixOf s = true
      · rw [lc h3, aO, bnT, ur (q := []) (by simp; omega) (by simp), if_pos h3]
        show eF (some (rO (jn [63, 62] (s.drop 2) o k l))) _ = _
        cases e : jn [63, 62] (s.drop 2) o k l with
        | no e => rfl
        | ok x =>
          have := nt e
          obtain ⟨a, b⟩ := x
          simp only at this; subst this
          simp only [rO]; rw [bM]; rfl
      · rw [lT (eq_false_of_ne_true h3), aO, bnF, bM, ie, if_neg h3]
        simp only []
        by_cases h4 : ([60, 33, 91, 67, 68, 65, 84, 65, 91] : Bs).isPrefixOf s = true
        · rw [data_eq (by omega) (by omega) h4, if_pos h4]
          unfold oa
          cases lE [93, 93, 62] (s.drop 9) with
          | none => rfl
          | some y =>
            obtain ⟨t, r⟩ := y
            simp only []
            by_cases g : o = []
            · rw [if_pos g]; rfl
            · rw [if_neg g]; rfl
        · rw [if_neg h4]
          unfold lI
          rw [lT (eq_false_of_ne_true h4), aO, bnF, bM, ie]
          simp only []
          unfold qr
          by_cases h5 : ([60, 33] : Bs).isPrefixOf s = true
          · rw [lc h5, aO, bnT, ur (q := []) (by simp; omega) (by simp), if_pos h5]
            show eF (some (rO (jn [62] (s.drop 2) o k l))) _ = _
            cases e : jn [62] (s.drop 2) o k l with
            | no e => rfl
            | ok x =>
              have := nt e
              obtain ⟨a, b⟩ := x
              simp only at this; subst this
              simp only [rO]; rw [bM]; rfl
          · rw [lT (eq_false_of_ne_true h5), aO, bnF, bM, ie, if_neg h5]
            simp only []
            by_cases h6 : ([60, 47] : Bs).isPrefixOf s = true
            · rw [end_eq hF hs ho hl h6, if_pos h6]
              unfold sx
              cases iU (s.drop 2) with
              | none => rfl
              | some y =>
                obtain ⟨n, r⟩ := y
                simp only []
                by_cases g : ([62] : Bs).isPrefixOf (r.dropWhile ic) = true
                · rw [if_pos g]
                  unfold ma
                  by_cases g2 : o.getLast? = some n
                  · rw [if_pos g2]; rfl
                  · rw [if_neg g2]; rfl
                · rw [if_neg g]; rfl
            · rw [if_neg h6]
              unfold iL
              rw [lT (eq_false_of_ne_true h6), aO, bnF, bM, ie]
              simp only []
              rw [yQ hF hs ho hl hk h1]
              cases nZ (dec F) (s.drop 1) o k l with
              | no e => rfl
              | ok x => rfl
  · rw [plain_eq hF hs (by omega) h0 (eq_false_of_ne_true h1), if_pos (eq_false_of_ne_true h1)]
    unfold kx
    cases dec F (s.takeWhile fun c => decide (c ≠ 60)) with
    | none => rfl
    | some t =>
      simp only []
      by_cases g : o = []
      · rw [if_pos g]
        cases (s.takeWhile fun c => decide (c ≠ 60)).all ic with
        | true => rw [if_pos rfl]; rfl
        | false => rw [if_neg (by decide)]; rfl
      · rw [if_neg g]; rfl
end
end Go.Xm
namespace Go.Xm
open Go.Pv Go.Av
theorem sJ (t : Bs) (l : List Tok) : (lZ t l).length ≤ l.length + 1 := by
  unfold lZ; split <;> simp
def Kp (o : List Bs) (k : Nat) (l : List Tok) (m : Nat) : Prop := o.length ≤ 20 ∧ k ≤ 1 ∧ l.length ≤ m
theorem uq {p s : Bs} {o : List Bs} {k : Nat} {l : List Tok} {m : Nat} {x : Sx} (h : Kp o k l m) (e : jn p s o k l = .ok x) : Kp x.2.1 x.2.2.1 x.2.2.2 (m + 2) := by
  have := nt e
  obtain ⟨a, b⟩ := x
  simp only at this; subst this
  obtain ⟨h1, h2, h3⟩ := h;exact ⟨h1, h2, by simp only; omega⟩
theorem wY {d : Bs → Option Bs} {s : Bs} {o : List Bs} {k : Nat} {l : List Tok} {m : Nat} {x : Sx} (h : Kp o k l m) (e : gH d s o k l = .ok x) : Kp x.2.1 x.2.2.1 x.2.2.2 (m + 2) := by
  obtain ⟨h1, h2, h3⟩ := id h
  unfold gH at e
  split at e
  · unfold kx at e
    split at e
    · cases e
    · split at e
      · split at e
        · cases e; exact ⟨h1, h2, by simp only; omega⟩
        · cases e
      · rename_i t _ _
        cases e
        have := sJ t l
        exact ⟨h1, h2, by simp only; omega⟩
  split at e
  · exact uq h e
  split at e
  · exact uq h e
  split at e
  · unfold oa at e
    split at e
    · cases e
    · split at e
      · cases e
      · rename_i t r _ _
        cases e
        have := sJ t l
        exact ⟨h1, h2, by simp only; omega⟩
  split at e
  · exact uq h e
  split at e
  · unfold sx at e
    split at e
    · cases e
    · split at e
      · unfold ma at e
        split at e
        · cases e; exact ⟨by simp only [List.length_dropLast]; omega, h2, by simp only [List.length_append, List.length_singleton]; omega⟩
        · cases e
      · cases e
  · unfold nZ at e
    split at e
    · cases e
    · split at e
      · cases e
      · unfold nU at e
        split at e
        · cases e
        · rename_i g
          split at e
          · cases e
          · have hk : (if o = [] then k + 1 else k) ≤ 1 := by
              by_cases q : o = []
              · rw [if_pos q]
                have : k = 0 := Classical.byContradiction fun z => g ⟨q, z⟩
                omega
              · rw [if_neg q]; exact h2
            split at e
            · cases e; exact ⟨h1, hk, by simp; omega⟩
            · cases e; exact ⟨by simp; omega, hk, by simp; omega⟩
def tokE : Rx → List Tok × Int
  | .ok (_, o, k, l) => if o = [] ∧ 0 < k then (l, 0) else ([], 2)
  | .no e => ([], e)
theorem pw (d : Bs → Option Bs) (s : Bs) : mS d s = tokE (lS d (s.length + 1) (s, [], 0, [])) := by
  unfold mS
  cases lS d (s.length + 1) (s, [], 0, []) with
  | ok x => rfl
  | no e => rfl
theorem vp {F : Nat} (hF : 1500000 < F) : ∀ (n m : Nat) (s : Bs) (o : List Bs) (k : Nat) (l : List Tok), s.length < n → s.length < m → s.length ≤ 100000 → Kp o k l (900000 - 2 * s.length) →
    ja F n (s, o, (k : Int), l) = some (tokE (lS (dec F) m (s, o, k, l)))
  | 0, _, s, o, k, l, h, _, _, _ => by omega
  | _, 0, s, o, k, l, _, h, _, _ => by omega
  | n + 1, m + 1, s, o, k, l, hn, hm, hs, hk => by
    show jb F (ja F n) s o (k : Int) l = _
    unfold jb lS
    by_cases h0 : s = []
    · rw [decide_eq_true h0, bnT, if_pos h0]
      unfold iZ tokE
      simp only []
      by_cases ho : o = []
      · subst ho
        by_cases g : 0 < k
        · rw [decide_eq_true (by simp), decide_eq_true (by omega), Bool.and_self, qI, jX, if_pos ⟨rfl, g⟩]
        · rw [decide_eq_true (by simp), decide_eq_false (p := (0 : Int) < (k : Int)) (by omega), Bool.and_false, pH, gB, if_neg fun q => g q.2]
      · have := List.length_pos_iff.2 ho
        rw [decide_eq_false (p := (o.length : Int) = 0) (by omega), Bool.false_and, pH, gB, if_neg fun q => ho q.1]
    · rw [decide_eq_false h0, bnF, if_neg h0, step_eq hF h0 hs hk.1 (by have := hk.2.2; omega) hk.2.1]
      cases e : gH (dec F) s o k l with
      | no e => simp only [stepR]; rw [gB]; rfl
      | ok x =>
        obtain ⟨s', o', k', l'⟩ := x
        have h1 := nq h0 e
        have h2 := wY hk e
        simp only at h1 h2
        simp only [stepR]
        rw [jX]
        simp only []
        exact vp hF n m s' o' k' l' (by omega) (by omega) (by omega) ⟨h2.1, h2.2.1, by have := h2.2.2; omega⟩
theorem tok_eq {F : Nat} (hF : 1500000 < F) {s : Bs} (hs : s.length ≤ 100000) : mc F s = some (mS (dec F) s) := by
  unfold mc
  rw [bF (by omega), pw]
  exact vp hF F (s.length + 1) s [] 0 [] (by omega) (by omega) hs ⟨by simp, by omega, by simp⟩
theorem run_kp {d : Bs → Option Bs} : ∀ {n : Nat} {s : Bs} {o : List Bs} {k : Nat} {l : List Tok} {m : Nat} {x : Sx}, s.length ≤ m → Kp o k l (900000 - 2 * m) → m ≤ 100000 → lS d n (s, o, k, l) = .ok x → x.2.2.2.length ≤ 900000
  | 0, s, o, k, l, m, x, _, _, _, h => by cases h
  | n + 1, s, o, k, l, m, x, hs, hk, hm, h => by
    unfold lS at h
    by_cases h0 : s = []
    · rw [if_pos h0] at h; cases h; have := hk.2.2; simp only; omega
    · rw [if_neg h0] at h
      cases e : gH d s o k l with
      | no e' => rw [e] at h; cases h
      | ok y =>
        rw [e] at h
        obtain ⟨s', o', k', l'⟩ := y
        have h1 := nq h0 e
        have h2 := wY hk e
        have hp := List.length_pos_iff.2 h0
        simp only at h1 h2 h
        exact run_kp (m := m - 1) (by omega) ⟨h2.1, h2.2.1, by have := h2.2.2; omega⟩ (by omega) h
theorem tok_len {d : Bs → Option Bs} {s : Bs} (hs : s.length ≤ 100000) : (mS d s).1.length ≤ 900000 := by
  rw [pw]
  cases e : lS d (s.length + 1) (s, [], 0, []) with
  | no e => simp [tokE]
  | ok x =>
    have := run_kp (m := s.length) (Nat.le_refl _) ⟨by simp, by omega, by simp⟩ hs e
    obtain ⟨s', o', k', l'⟩ := x;show (if o' = [] ∧ 0 < k' then (l', (0 : Int)) else ([], 2)).1.length ≤ _
    split
    · exact this
    · simp
end Go.Xm
namespace Go.Xm
open Go.Pv Go.Av
theorem up {p s : Bs} {o : List Bs} {k : Nat} {l : List Tok} {e : Int} (h : jn p s o k l = .no e) : e ≠ 0 := by
  unfold jn at h
  split at h <;> (cases h; try decide)
theorem step_no {d : Bs → Option Bs} {s : Bs} {o : List Bs} {k : Nat} {l : List Tok} {e : Int} (h : gH d s o k l = .no e) : e ≠ 0 := by
  unfold gH at h
  split at h
  · unfold kx at h
    split at h
    · cases h; decide
    · split at h
      · split at h <;> (cases h; try decide)
      · cases h
  split at h
  · exact up h
  split at h
  · exact up h
  split at h
  · unfold oa at h
    split at h
    · cases h; decide
    · split at h <;> (cases h; try decide)
  split at h
  · exact up h
  split at h
  · unfold sx at h
    split at h
    · cases h; decide
    · split at h
      · unfold ma at h
        split at h <;> (cases h; try decide)
      · cases h; decide
  · unfold nZ at h
    split at h
    · cases h; decide
    · split at h
      · cases h; decide
      · unfold nU at h
        split at h
        · cases h; decide
        · split at h
          · cases h; decide
          · split at h <;> cases h
theorem run_no {d : Bs → Option Bs} : ∀ {n : Nat} {x : Sx} {e : Int}, lS d n x = .no e → e ≠ 0
  | 0, x, e, h => by cases h; decide
  | n + 1, (s, o, k, l), e, h => by
    unfold lS at h
    split at h
    · cases h
    · cases g : gH d s o k l with
      | no e' => rw [g] at h; cases h; exact step_no g
      | ok y => rw [g] at h; exact run_no h
def AtS (l : List Tok) (m : Nat) : Prop := ∀ t ∈ l, t.2.2.2.length ≤ m
theorem qo {d : Bs → Option Bs} : ∀ {k : Nat} {as_ : List At} {s : Bs} {bs : List At} {e : Bool} {r : Bs}, ig d k as_ s = some (bs, e, r) → bs.length ≤ as_.length + s.length
  | 0, _, _, _, _, _, h => by cases h
  | k + 1, as_, s, bs, e, r, h => by
    have hd := rQ ic s
    unfold ig at h
    split at h
    · cases h; omega
    · split at h
      · cases h; omega
      · split at h
        · cases h
        · cases ea : mW d (s.dropWhile ic) with
          | none => rw [ea] at h; cases h
          | some x =>
            obtain ⟨a, r'⟩ := x
            rw [ea] at h
            simp only at h
            have h1 := nI ea
            split at h
            · cases h
            · have := qo h
              rw [List.length_append, List.length_singleton] at this
              omega
theorem pA {l : List Tok} {m : Nat} (h : AtS l m) {t : Tok} (ht : t.2.2.2.length ≤ m) : AtS (l ++ [t]) m := fun x hx => by
  rcases List.mem_append.1 hx with hx | hx
  · exact h x hx
  · rw [List.mem_singleton.1 hx]; exact ht
theorem vP {l : List Tok} {m : Nat} (h : AtS l m) (t : Bs) : AtS (lZ t l) m := by
  unfold lZ
  split
  · exact h
  · exact pA h (by simp)
theorem ats_step {d : Bs → Option Bs} {s : Bs} {o : List Bs} {k : Nat} {l : List Tok} {m : Nat} {x : Sx} (h : AtS l m) (hs : s.length ≤ m) (e : gH d s o k l = .ok x) : AtS x.2.2.2 m := by
  have sk : ∀ {p s' : Bs} {y : Sx}, jn p s' o k l = .ok y → AtS y.2.2.2 m := fun q => by
    rw [nt q]; exact h
  unfold gH at e
  split at e
  · unfold kx at e
    split at e
    · cases e
    · split at e
      · split at e
        · cases e; exact h
        · cases e
      · cases e; exact vP h _
  split at e
  · exact sk e
  split at e
  · exact sk e
  split at e
  · unfold oa at e
    split at e
    · cases e
    · split at e
      · cases e
      · cases e; exact vP h _
  split at e
  · exact sk e
  split at e
  · unfold sx at e
    split at e
    · cases e
    · split at e
      · unfold ma at e
        split at e
        · cases e; exact pA h (by simp)
        · cases e
      · cases e
  · unfold nZ at e
    split at e
    · cases e
    · rename_i n r en
      have hr := congrArg List.length (iE en).1
      rw [List.length_append, List.length_drop] at hr
      split at e
      · cases e
      · rename_i as_ em r' ea
        have ha := qo ea
        rw [List.length_nil] at ha
        have ha' : as_.length ≤ m := by omega
        unfold nU at e
        split at e
        · cases e
        · split at e
          · cases e
          · split at e
            · cases e; exact pA (pA h ha') (by simp)
            · cases e; exact pA h ha'
theorem xn {d : Bs → Option Bs} {m : Nat} : ∀ {n : Nat} {x y : Sx}, AtS x.2.2.2 m → x.1.length ≤ m → lS d n x = .ok y → AtS y.2.2.2 m
  | 0, _, _, _, _, h => by cases h
  | n + 1, (s, o, k, l), y, ha, hs, h => by
    unfold lS at h
    by_cases h0 : s = []
    · rw [if_pos h0] at h; cases h; exact ha
    · rw [if_neg h0] at h
      cases e : gH d s o k l with
      | no e' => rw [e] at h; cases h
      | ok z =>
        rw [e] at h
        have h1 := nq h0 e
        exact xn (ats_step ha hs e) (by simp only at hs; omega) h
theorem tok_ats {d : Bs → Option Bs} {s : Bs} {m : Nat} (hs : s.length ≤ m) : AtS (mS d s).1 m := by
  rw [pw]
  cases e : lS d (s.length + 1) (s, [], 0, []) with
  | no e => exact fun t ht => by cases ht
  | ok x =>
    have := xn (m := m) (x := (s, [], 0, [])) (fun t ht => by cases ht) hs e
    obtain ⟨s', o', k', l'⟩ := x;show AtS (if o' = [] ∧ 0 < k' then (l', (0 : Int)) else ([], 2)).1 m
    split
    · exact this
    · exact fun t ht => by cases ht
end Go.Xm
namespace Go.Fd
open Go.Pv Go.Av
open Go.Xm
theorem gcI {α : Type} {c : Bool} {n : Int} {k : Option α} (h : -9223372036854775808 ≤ n ∧ n ≤ 9223372036854775807) : fq c (okI n) k = k := by
  cases c with
  | false => exact eB
  | true => rw [ky, bQ h]
theorem tH {α β ρ : Type} {f : α → β → Option ρ} : ft (none : Option (α × β)) f = none := Eq.symm (Eq.symm rfl)
theorem last_at {o : List Bs} (h : o ≠ []) : at_ o ((o.length : Int) - 1) = o.getLast h := by
  have h1 := List.length_pos_iff.2 h
  have e : (o.length : Int) - 1 = ((o.length - 1 : Nat) : Int) := by omega
  rw [e, fw (by omega), List.getLast_eq_getElem]
theorem to_last {o : List Bs} (h : o ≠ []) : to_ o ((o.length : Int) - 1) = o.dropLast := by
  have h1 := List.length_pos_iff.2 h
  have e : (o.length : Int) - 1 = ((o.length - 1 : Nat) : Int) := by omega
  rw [e, mR, List.dropLast_eq_take]
theorem qh (a : El) (ha : a.length ≤ 1000000) : ∀ (n i : Nat) (o : List Bs), a.length - i < n → i ≤ a.length → o.length ≤ i →
    dE a n (o, (i : Int)) = some (if i = 0 ∧ a = [] then false else nV (decide (i = 0)) o (a.drop i))
  | 0, i, o, h, _, _ => by omega
  | n + 1, i, o, hn, hi, ho => by
    show gn a (dE a n) o (i : Int) = _
    unfold gn
    by_cases h : i < a.length
    · have hd : a.drop i = a[i] :: a.drop (i + 1) := aZ h
      have h0 : ¬ (i = 0 ∧ a = []) := fun z => by rw [z.2] at h; simp at h
      have hs : ∀ o' : List Bs, o'.length ≤ i + 1 → dD (i : Int) (dE a n) o' = some (nV false o' (a.drop (i + 1))) := fun o' ho' => by
        unfold dD
        rw [bQ (by omega), cr, qh a ha n (i + 1) o' (by omega) (by omega) ho', if_neg (by omega), decide_eq_false (by omega)]
      rw [bT (by omega), cT (by omega), bk, fw h, if_neg h0, hd]
      have e1 : ((decide (0 < (i : Int))) && (decide ((o.length : Int) = 0))) = decide (decide (i = 0) = false ∧ o = []) := by
        cases o with
        | nil => by_cases z : i = 0 <;> simp [z] <;> omega
        | cons x r => simp; omega
      rw [e1, nV]
      by_cases c0 : decide (i = 0) = false ∧ o = []
      · rw [decide_eq_true c0, if_pos c0]; rfl
      rw [decide_eq_false c0, if_neg c0, cond_false]
      by_cases c1 : a[i].1 = 0
      · rw [decide_eq_true c1, if_pos c1, cond_true, dS (by simp; omega), bk, hs _ (by simp; omega)]
      rw [decide_eq_false c1, if_neg c1, cond_false]
      by_cases hoe : o = []
      · subst hoe
        have e2 : (decide (a[i].1 = 1) && decide (0 < ((([] : List Bs).length : Nat) : Int))) = false := by simp
        rw [e2, eB, eB, eB, bk, Bool.false_and, cond_false, if_neg (by simp)]
        have e3 : ((!decide (a[i].1 = 2)) || (decide (((([] : List Bs).length : Nat) : Int) = 0))) = true := by simp
        rw [e3, cond_true]; simp
      · have h1 := List.length_pos_iff.2 hoe
        have g1 : ∀ {α : Type} (c : Bool) (k : Option α), fq c (okI ((o.length : Int) - 1)) k = k := fun c k => gcI (by omega)
        have g2 : ∀ {α : Type} (c : Bool) (k : Option α), fq c (dr ((o.length : Int) - 1) o.length) k = k := fun c k => nR fun _ => ⟨by omega, by omega⟩
        rw [g1, g2, g2, bk, last_at hoe]
        have e2 : decide (0 < (o.length : Int)) = true := decide_eq_true (by omega)
        rw [e2, Bool.and_true, List.getLast?_eq_some_getLast hoe]
        by_cases c2 : a[i].1 = 1 ∧ some (o.getLast hoe) = some a[i].2.1
        · rw [if_pos c2, decide_eq_true c2.1, decide_eq_true (ak c2.2), Bool.and_true, cond_true, bQ (by omega), dZ (by omega), bk, to_last hoe, hs _ (by rw [List.length_dropLast]; omega)]
        · have e3 : (decide (a[i].1 = 1) && decide (o.getLast hoe = a[i].2.1)) = false := by
            cases q : decide (a[i].1 = 1) && decide (o.getLast hoe = a[i].2.1) with
            | false => rfl
            | true =>
              rw [Bool.and_eq_true] at q
              exact absurd ⟨of_decide_eq_true q.1, congrArg some (of_decide_eq_true q.2)⟩ c2
          rw [if_neg c2, e3, cond_false]
          by_cases c3 : a[i].1 = 2
          · have e4 : ((!decide (a[i].1 = 2)) || (decide ((o.length : Int) = 0))) = false := by rw [decide_eq_true c3, decide_eq_false (by omega)]; rfl
            rw [e4, cond_false, if_neg (fun z => z.elim (fun q => q c3) hoe), hs _ (by omega)]
          · rw [decide_eq_false c3, if_pos (.inl c3)]; rfl
    · have hi2 : i = a.length := by omega
      rw [bF (by omega)]
      unfold gm
      subst hi2
      rw [List.drop_length]
      cases a with
      | nil => simp
      | cons x r =>
        rw [if_neg (by simp)]
        cases o with
        | nil => simp [nV] <;> omega
        | cons y q => simp [nV] <;> omega
theorem xK {F : Nat} (a : El) (ha : a.length ≤ 1000000) (hF : a.length < F) : jQ F a = some (nV true [] a) := by
  unfold jQ
  rw [show ((([] : List Bs), (0 : Int)) : List Bs × Int) = ([], ((0 : Nat) : Int)) from rfl, qh a ha F 0 [] (by omega) (by omega) (by simp)]
  by_cases h : a = []
  · subst h; rfl
  · rw [if_neg (fun z => h z.2), decide_eq_true rfl, List.drop_zero]
def nY {σ α : Type} (k : σ → α → Option (σ × Bool)) : σ → List α → Option σ
  | s, [] => some s
  | s, p :: ps => ft (k s p) fun s' b => bif !b then some s' else nY k s' ps
theorem np (a : El) {f i : Nat} (hf : f ≤ i) (hi : i < a.length) : (a.drop f).take (i - f) ++ [a[i]] = (a.drop f).take (i + 1 - f) := by
  have e : i + 1 - f = (i - f) + 1 := by omega
  rw [e, List.take_succ_eq_append_getElem (by simp; omega)]
  congr 2
  simp
  congr 1
  omega
theorem rr {σ : Type} (a : El) (ha : a.length ≤ 1000000) (k : σ → El → Option (σ × Bool)) : ∀ (n f i : Nat) (d : Int) (s : σ), a.length - i < n → f ≤ i → i ≤ a.length → - (i : Int) ≤ d → d ≤ i →
    dY a k n (d, (f : Int), (i : Int), s) = nY k s (fT d ((a.drop f).take (i - f)) (a.drop i))
  | 0, f, i, d, s, h, _, _, _, _ => by omega
  | n + 1, f, i, d, s, hn, hf, hi, hd1, hd2 => by
    show gY a k (dY a k n) d (f : Int) (i : Int) s = _
    unfold gY
    by_cases h : i < a.length
    · have hd : a.drop i = a[i] :: a.drop (i + 1) := aZ h
      have hj : ∀ (f' : Nat) (d' : Int) (s' : σ), f' ≤ i + 1 → - ((i + 1 : Nat) : Int) ≤ d' → d' ≤ ((i + 1 : Nat) : Int) → cU (i : Int) (dY a k n) d' (f' : Int) s' = nY k s' (fT d' ((a.drop f').take (i + 1 - f')) (a.drop (i + 1))) := fun f' d' s' h1 h2 h3 => by
        unfold cU
        rw [bQ (by omega), cr, rr a ha k n f' (i + 1) d' s' (by omega) h1 (by omega) h2 h3]
      rw [bT (by omega), cT (by omega), bk, fw h, hd, fT]
      by_cases c1 : a[i].1 = 0
      · rw [decide_eq_true c1, if_pos c1, cond_true, bQ (by omega)]
        by_cases c2 : d + 1 = 2
        · rw [decide_eq_true c2, if_pos c2, cond_true, hj i (d + 1) s (by omega) (by omega) (by omega)]
          have : (a.drop i).take (i + 1 - i) = [a[i]] := by
            rw [hd, show i + 1 - i = 1 by omega]; rfl
          rw [this]
        · rw [decide_eq_false c2, if_neg c2, cond_false, hj f (d + 1) s (by omega) (by omega) (by omega), np a hf h]
      rw [decide_eq_false c1, if_neg c1, cond_false]
      by_cases c3 : a[i].1 = 1
      · rw [decide_eq_true c3, if_pos c3, cond_true, bQ (by omega)]
        by_cases c4 : d - 1 = 1
        · rw [decide_eq_true c4, if_pos c4, cond_true, bQ (by omega), bQ (by omega), pz (by omega), bk]
          have e : sub a (f : Int) ((i : Int) + 1) = (a.drop f).take (i - f) ++ [a[i]] := by
            rw [np a hf h, cr, qN, List.drop_take]
          rw [e, nY]
          cases k s ((a.drop f).take (i - f) ++ [a[i]]) with
          | none => rw [tH, tH]
          | some r =>
            obtain ⟨s', b⟩ := r
            rw [aO, aO]
            cases b with
            | false => rw [Bool.not_false, cond_true, cond_true]
            | true =>
              rw [Bool.not_true, cond_false, cond_false, hj f (d - 1) s' (by omega) (by omega) (by omega), np a hf h]
        · rw [decide_eq_false c4, if_neg c4, cond_false, hj f (d - 1) s (by omega) (by omega) (by omega), np a hf h]
      · rw [decide_eq_false c3, if_neg c3, cond_false, hj f d s (by omega) (by omega) (by omega), np a hf h]
    · rw [bF (by omega), bg (show a.length ≤ i by omega), fT, nY]
theorem vt {σ : Type} {F : Nat} (a : El) (ha : a.length ≤ 1000000) (hF : a.length < F) (k : σ → El → Option (σ × Bool)) (s : σ) : fc F k s a = nY k s (lU a) := by
  unfold fc
  have := rr a ha k F 0 0 0 s (by omega) (by omega) (by omega) (by omega) (by omega)
  simpa [lU] using this
theorem xQ (p : El → Bool) (k : Bool × El × Nat → El → Option ((Bool × El × Nat) × Bool)) (ps : List El)
    (hk : ∀ y ∈ ps, ∀ (f : Bool) (x : El), k (f, x, 0) y = if p y = true then some ((true, y, 1), false) else some ((f, x, 0), true)) :
    ∀ (f : Bool) (x : El), nY k (f, x, 0) ps = some (match ps.find? p with | none => (f, x, 0) | some y => (true, y, 1)) := by
  induction ps with
  | nil => intro f x; rfl
  | cons y ps ih =>
    intro f x
    rw [nY, hk y List.mem_cons_self, List.find?_cons]
    cases h : p y with
    | true => rfl
    | false =>
      rw [if_neg (by simp), aO, Bool.not_true, cond_false, ih fun z hz => hk z (List.mem_cons_of_mem _ hz)]
def ul (o : Option El) : El × Bool := match o with | none => ([], false) | some y => (y, true)
end Go.Fd
namespace Go.Pn
open Go.Pv Go.Av
theorem gone_43 (F : Nat) : ∀ (n : Nat) (s : Bs) (ok : Bool) (acc : Bs), s.length < n → s.length ≤ 100000 → s.length + 20 < F → acc.length + 2 * s.length ≤ 1000000 → ∃ o k, eO F n (s, ok, acc) = some (o, k) ∧ 3 * o.length ≤ 3 * acc.length + 4 * s.length := by
  intro n
  induction n with
  | zero => intro s ok acc h; omega
  | succ n ih =>
    intro s ok acc hn hs hF ha;show ∃ o k, gt F (eO F n) s ok acc = some (o, k) ∧ _
    unfold gt gr
    obtain ⟨hi1, hi2⟩ := ln s 38
    by_cases h : Go.Lib.indexByte s 38 < 0
    · simp (disch := (first | omega | (simp; done) | (simp; omega))) only [bk, bT, qF]
      exact ⟨_, _, rfl, by simp; omega⟩
    · obtain ⟨i, hi⟩ : ∃ i : Nat, Go.Lib.indexByte s 38 = i := ⟨(Go.Lib.indexByte s 38).toNat, by omega⟩
      have il : i < s.length := by omega
      have l1 : (to_ s (i : Int)).length = i := by simp [mR]; omega
      have l2 : (cY s (i : Int)).length = s.length - i := by simp [lb]
      obtain ⟨o, k, ho, hk⟩ := sY F (cY s (i : Int)) (by omega) (by omega) (by omega)
      simp (disch := (first | omega | (simp; done) | (simp; omega))) only [bk, hi, bF, dZ, qF, ho, aO]
      rcases hk with rfl | ⟨k3, kl, ol⟩
      · have l3 : (cY (cY s (i : Int)) 1).length = s.length - i - 1 := by simp [cY, l2]; omega
        simp (disch := (first | omega | (simp; done) | (simp; omega))) only [decide_true, cond_true, qF, bk, dZ]
        obtain ⟨o', k', e1, e2⟩ := ih (cY (cY s (i : Int)) 1) false (acc ++ to_ s (i : Int) ++ [38]) (by omega) (by omega) (by omega) (by simp; omega);exact ⟨o', k', e1, by simp at e2; omega⟩
      · have l3 : (cY (cY s (i : Int)) k).length = s.length - i - k.toNat := by simp [cY]; omega
        simp (disch := (first | omega | (simp; done) | (simp; omega))) only [bF, qF, bk, dZ]
        obtain ⟨o', k', e1, e2⟩ := ih (cY (cY s (i : Int)) k) ok (acc ++ to_ s (i : Int) ++ o) (by omega) (by omega) (by omega) (by simp; omega);exact ⟨o', k', e1, by simp at e2; omega⟩
end Go.Pn
namespace Go.Fd
open Go.Pv Go.Av
open Go.Xm
def DecT (d : Bs → Option Bs) : Prop := ∀ s t : Bs, s.length ≤ 100000 → d s = some t → 3 * t.length ≤ 4 * s.length
theorem dec_43 {F : Nat} (hF : 1500000 < F) : DecT (dec F) := fun s t hs h => by
  obtain ⟨o, k, h1, h2⟩ := Go.Pn.gone_43 F F s true [] (by omega) hs (by omega) (by simp; omega)
  have h3 : nw F s = some (o, k) := h1
  rw [Go.Pn.goneG F (by omega) s hs] at h3
  have e := ak h3
  unfold dec at h
  rw [e] at h
  rw [List.length_nil] at h2
  cases k with
  | false => cases h
  | true => have : o = t := ak h; rw [← this]; omega
theorem tw_le (f : UInt8 → Bool) (s : Bs) : (s.takeWhile f).length + (s.dropWhile f).length = s.length := by
  have := congrArg List.length (List.takeWhile_append_dropWhile (p := f) (l := s))
  rwa [List.length_append] at this
def tx (l : El) : Nat := (dq l).length
theorem wU (t : Bs) (l : El) : tx (lZ t l) = tx l + t.length := by
  unfold lZ
  by_cases h : t = []
  · rw [if_pos h, h]; rfl
  · rw [if_neg h]
    unfold tx
    rw [mr, List.length_append, lj, if_pos rfl]
    simp [dq]
theorem uB (l : El) {x : Tok} (h : x.1 ≠ 2) : tx (l ++ [x]) = tx l := by
  unfold tx
  rw [mr, List.length_append, lj, if_neg h]
  simp [dq]
section
variable {d : Bs → Option Bs} (hd : DecT d)
include hd
theorem step_tx {s : Bs} {o : List Bs} {k : Nat} {l : El} {x : Sx} (hs : s.length ≤ 100000) (h : gH d s o k l = .ok x) : 3 * tx x.2.2.2 + 4 * x.1.length ≤ 3 * tx l + 4 * s.length := by
  have sk : ∀ {p s' : Bs} {y : Sx}, p ≠ [] → s'.length ≤ s.length → jn p s' o k l = .ok y → 3 * tx y.2.2.2 + 4 * y.1.length ≤ 3 * tx l + 4 * s.length := fun hp hl q => by
    obtain ⟨h1, h2⟩ := im hp q
    rw [h2]
    simp only
    omega
  unfold gH at h
  split at h
  · unfold kx at h
    have hl := tw_le (fun c => decide (c ≠ 60)) s
    split at h
    · cases h
    · rename_i t ht
      have := hd _ t (by omega) ht
      split at h
      · split at h
        · cases h; simp only; omega
        · cases h
      · cases h
        simp only [wU]; omega
  split at h
  · exact sk (by simp) (by simp) h
  split at h
  · exact sk (by simp) (by simp) h
  split at h
  · unfold oa at h
    cases e : lE [93, 93, 62] (s.drop 9) with
    | none => rw [e] at h; cases h
    | some y =>
      obtain ⟨t, r⟩ := y
      have hl := congrArg List.length (mj (by simp) e)
      simp only [List.length_append, List.length_drop] at hl
      rw [e] at h
      simp only at h
      split at h
      · cases h
      · cases h
        simp only [wU]; omega
  split at h
  · exact sk (by simp) (by simp) h
  split at h
  · unfold sx at h
    cases e : iU (s.drop 2) with
    | none => rw [e] at h; cases h
    | some y =>
      obtain ⟨n, r⟩ := y
      have hl := congrArg List.length (iE e).1
      simp only [List.length_append, List.length_drop] at hl
      have hw := rQ ic r
      rw [e] at h
      simp only at h
      split at h
      · unfold ma at h
        split at h
        · cases h
          simp only [List.length_drop]
          rw [uB _ (by simp)]
          omega
        · cases h
      · cases h
  · have hz := nq (dec := d) (s := s) (o := o) (k := k) (l := l) (x := x)
    unfold nZ at h
    cases e : iU (s.drop 1) with
    | none => rw [e] at h; cases h
    | some y =>
      obtain ⟨n, r⟩ := y
      have hl := congrArg List.length (iE e).1
      simp only [List.length_append, List.length_drop] at hl
      have hp := vB (iE e).2
      rw [e] at h
      simp only at h
      cases ea : ig d (r.length + 1) [] r with
      | none => rw [ea] at h; cases h
      | some z =>
        obtain ⟨as_, em, r'⟩ := z
        have hw := oG ea
        rw [ea] at h
        simp only at h
        unfold nU at h
        split at h
        · cases h
        · split at h
          · cases h
          · split at h
            · cases h
              simp only
              rw [uB _ (by simp), uB _ (by simp)]
              omega
            · cases h
              simp only
              rw [uB _ (by simp)]
              omega
theorem run_tx : ∀ {n : Nat} {x y : Sx}, x.1.length ≤ 100000 → lS d n x = .ok y → 3 * tx y.2.2.2 + 4 * y.1.length ≤ 3 * tx x.2.2.2 + 4 * x.1.length
  | 0, _, _, _, h => by cases h
  | n + 1, (s, o, k, l), y, hs, h => by
    unfold lS at h
    by_cases h0 : s = []
    · rw [if_pos h0] at h; cases h; exact Nat.le_refl _
    · rw [if_neg h0] at h
      cases e : gH d s o k l with
      | no e' => rw [e] at h; cases h
      | ok z =>
        rw [e] at h
        have h1 := nq h0 e
        have h2 := step_tx hd hs e
        simp only at hs h2 ⊢
        have := run_tx (x := z) (by omega) h
        omega
theorem tok_tx {s : Bs} (hs : s.length ≤ 100000) : 3 * tx (mS d s).1 ≤ 4 * s.length := by
  rw [pw]
  cases e : lS d (s.length + 1) (s, [], 0, []) with
  | no e => simp [tokE, tx, dq]
  | ok x =>
    have := run_tx hd (x := (s, [], 0, [])) hs e
    obtain ⟨s', o', k', l'⟩ := x
    have e0 : tx [] = 0 := rfl
    simp only [e0] at this
    show 3 * tx (if o' = [] ∧ 0 < k' then (l', (0 : Int)) else ([], 2)).1 ≤ _
    split
    · simp only; omega
    · simp [tx, dq]
end
end Go.Fd
namespace Go.Fd
open Go.Pv Go.Av
open Go.Xm
structure LocK (s : Bs) (k i : Nat) : Prop where
  le : k ≤ i
  at' : k = 0 ∨ ∃ h : k - 1 < s.length, s[k - 1] = 58
  no : ∀ (m : Nat) (h : m < s.length), k ≤ m → m < i → s[m] ≠ 58
theorem sO (s : Bs) (hs : s.length ≤ 1000000) : ∀ (n j : Nat), j < n → j ≤ s.length → (∀ (m : Nat) (h : m < s.length), j ≤ m → s[m] ≠ 58) → ∃ k : Nat, LocK s k s.length ∧ gQ s 58 n ((j : Int) - 1) = some ((k : Int) - 1)
  | 0, j, h, _, _ => by omega
  | n + 1, j, h, hj, hn => by
    show ∃ k : Nat, _ ∧ gR s 58 (gQ s 58 n) ((j : Int) - 1) = _
    unfold gR
    by_cases g : j = 0
    · subst g
      refine ⟨0, ⟨by omega, .inl rfl, fun m h h1 _ => hn m h h1⟩, ?_⟩
      rw [bF (by omega)]; rfl
    · have g1 : j - 1 < s.length := by omega
      rw [bT (by omega), show (j : Int) - 1 = ((j - 1 : Nat) : Int) by omega, cT (by omega), bk, fw g1]
      by_cases c : s[j - 1] = 58
      · rw [bT c]
        exact ⟨j, ⟨hj, .inr ⟨g1, c⟩, fun m h h1 _ => hn m h h1⟩, by congr 1; omega⟩
      · rw [bF c, bQ (by omega)]
        refine sO s hs n (j - 1) (by omega) (by omega) fun m h h1 => ?_
        by_cases w : j ≤ m
        · exact hn m h w
        · have : m = j - 1 := by omega
          subst this; exact c
theorem loc_drop {s : Bs} {k : Nat} (h : LocK s k s.length) : s.drop k = locB s := by
  have ha : ∀ c ∈ (s.drop k).reverse, decide (c ≠ (58 : UInt8)) = true := fun c hc => by
    obtain ⟨m, hm, rfl⟩ := List.getElem_of_mem (List.mem_reverse.1 hc)
    rw [List.getElem_drop]
    rw [List.length_drop] at hm
    exact decide_eq_true (h.no (k + m) (by omega) (by omega) (by omega))
  have e : s.reverse = (s.drop k).reverse ++ (s.take k).reverse := by rw [← List.reverse_append, List.take_append_drop]
  unfold locB
  rw [e, List.takeWhile_append_of_pos ha]
  have : (s.take k).reverse.takeWhile (fun c => decide (c ≠ (58 : UInt8))) = [] := by
    rcases h.at' with q | ⟨h1, h2⟩
    · subst q; rfl
    · have hk : 0 < k ∨ k = 0 := by omega
      rcases hk with hk | rfl
      · have e2 : s.take k = s.take (k - 1) ++ [s[k - 1]] := by
          have := List.take_succ_eq_append_getElem h1
          rwa [show k - 1 + 1 = k by omega] at this
        rw [e2, List.reverse_append, h2]; rfl
      · rfl
  rw [this, List.append_nil, List.reverse_reverse]
theorem local_eq {F : Nat} {s : Bs} (hs : s.length ≤ 1000000) (hF : 1500000 < F) : nn F s = some (locB s) := by
  obtain ⟨k, h1, h2⟩ := sO s hs F s.length (by omega) (Nat.le_refl _) fun m h h1 => by omega
  have := h1.le
  unfold nn gz mq
  rw [bQ (by omega), h2, aU, aU, bQ (by omega), dZ (by omega), bk, show (k : Int) - 1 + 1 = (k : Int) by omega, lb, loc_drop h1]
theorem loc_len (s : Bs) : (locB s).length ≤ s.length := by
  unfold locB
  rw [List.length_reverse]
  have := (List.takeWhile_sublist (fun c => decide (c ≠ (58 : UInt8))) (l := s.reverse)).length_le
  rwa [List.length_reverse] at this
structure Sm (x : El) : Prop where
  len : x.length ≤ 1000000
  tx : tx x ≤ 1000000
  nm : ∀ t ∈ x, t.2.1.length ≤ 1000
  at' : ∀ t ∈ x, t.2.2.2.length ≤ 1000000
theorem Sm.part {x y : El} (h : Sm x) (hy : y ∈ lU x) : Sm y := by
  obtain ⟨h1, h2, h3⟩ := nB hy;exact ⟨Nat.le_trans h2 h.len, Nat.le_trans h1 h.tx, fun t ht => h.nm t (h3 t ht), fun t ht => h.at' t (h3 t ht)⟩
theorem ut {x y : El} (hy : y ∈ lU x) : y ≠ [] := jt x 0 [] y hy
section
variable {F : Nat} (hF : 1500000 < F)
include hF
theorem kG {x : El} (h : Sm x) (hx : x ≠ []) : fe F x = some (qJ x) ∧ (qJ x).length ≤ 1000 := by
  obtain ⟨t, r, rfl⟩ := List.exists_cons_of_ne_nil hx
  have hn := h.nm t List.mem_cons_self
  have hl := loc_len t.2.1
  refine ⟨?_, Nat.le_trans hl hn⟩
  unfold fe
  rw [cT (by simp <;> omega), bk, show at_ (t :: r) 0 = t from rfl, local_eq (by omega) hF, aU]
  rfl
omit hF in
theorem tI (n : Bs) (t : Tok) (ha : t.2.2.2.length ≤ 1000000) : ∀ (m i : Nat), t.2.2.2.length - i < m → i ≤ t.2.2.2.length → je n t m (i : Int) = some (match attL n (t.2.2.2.drop i) with | none => ([], false) | some s => (s, true))
  | 0, i, h, _ => by omega
  | m + 1, i, hm, hi => by
    show jf n t (je n t m) (i : Int) = _
    unfold jf
    by_cases h : i < t.2.2.2.length
    · have hd : t.2.2.2.drop i = t.2.2.2[i] :: t.2.2.2.drop (i + 1) := aZ h
      rw [bT (by omega), cT (by omega), bk, fw h, hd]
      unfold attL
      rw [List.find?_cons]
      by_cases c : t.2.2.2[i].1 = n
      · rw [decide_eq_true c]; rfl
      · rw [decide_eq_false c, cond_false, bQ (by omega), cr, tI n t ha m (i + 1) (by omega) (by omega)]
        rfl
    · rw [bF (by omega), bg (by omega)]
      rfl
theorem vI {x : El} (h : Sm x) (hx : x ≠ []) (n : Bs) : kH F x n = some (match attO n x with | none => ([], false) | some s => (s, true)) := by
  obtain ⟨t, r, rfl⟩ := List.exists_cons_of_ne_nil hx
  have ht := h.at' t List.mem_cons_self
  unfold kH
  rw [cT (by simp <;> omega), bk, show at_ (t :: r) 0 = t from rfl]
  have := tI n t ht F 0 (by omega) (by omega)
  simpa [attO] using this
theorem oz (a : El) (ha : Sm a) : ∀ (n i : Nat) (acc : Bs), a.length - i < n → i ≤ a.length → acc.length + tx (a.drop i) ≤ 1000000 →
    eT F a n ((i : Int), acc) = some (Go.Pn.trim (acc ++ dq (a.drop i)))
  | 0, i, acc, h, _, _ => by omega
  | n + 1, i, acc, hn, hi, hx => by
    show hO F a (eT F a n) (i : Int) acc = _
    unfold hO
    by_cases h : i < a.length
    · have hd : a.drop i = a[i] :: a.drop (i + 1) := aZ h
      rw [bT (by omega), cT (by omega), bk, fw h, hd, lj]
      have hl := ha.len
      have hx2 : acc.length + ((if a[i].1 = 2 then a[i].2.2.1 else []).length + tx (a.drop (i + 1))) ≤ 1000000 := by
        have := hx
        unfold tx at this ⊢
        rw [hd, lj, List.length_append] at this
        exact this
      unfold ge
      by_cases c : a[i].1 = 2
      · rw [if_pos c] at hx2 ⊢
        rw [decide_eq_true c, cond_true]
        unfold okW
        rw [jZ (by omega), bk, bQ (by omega), cr, oz a ha n (i + 1) _ (by omega) (by omega) (by rw [List.length_append]; omega), List.append_assoc]
      · rw [if_neg c] at hx2 ⊢
        rw [decide_eq_false c, cond_false, bQ (by omega), cr, oz a ha n (i + 1) _ (by omega) (by omega) (by simp at hx2; omega), List.nil_append]
    · rw [bg (by omega)] at hx ⊢
      have hx3 : acc.length ≤ 1000000 := by omega
      rw [bF (by omega)]
      unfold hM okW
      rw [jZ (by simp; omega), Go.Pn.ent_Trim_eq F acc hx3 (by omega), aU]
      simp [dq]
theorem vn {a : El} (ha : Sm a) : gy F a = some (valP a) := by
  have hl := ha.len
  have := oz hF a ha F 0 [] (by omega) (by omega) (by simpa using ha.tx)
  unfold gy
  rw [show ((0 : Int), ([] : Bs)) = (((0 : Nat) : Int), []) from rfl, this, List.nil_append, List.drop_zero]
  rfl
omit hF in
theorem sm_nil : Sm [] := ⟨by simp, by simp [tx, dq], fun t h => (by cases h), fun t h => (by cases h)⟩
structure NsOK (ns : List Bs) : Prop where
  join : oI ns [124] = true
  len : (Str.join [124] ns).length ≤ 1000
theorem xw {ns : List Bs} (hn : NsOK ns) {x : El} (h : Sm x) (hx : x ≠ []) : jP F x ns = some (hasN ns x) := by
  obtain ⟨h1, h2⟩ := kG hF h hx
  have hj := hn.len
  unfold jP
  rw [hn.join, mV, bk, dS (by simp; omega), bk, dS (by simp; omega), bk, h1, aU, dS (by simp; omega), bk, dS (by simp; omega), bk, mb (by simp; omega), bk]
  unfold hasN
  cases Go.Lib.contains ([124] ++ Str.join [124] ns ++ [124]) ([124] ++ qJ x ++ [124]) with
  | false => simp only [ld, eB, bk, Bool.false_and]
  | true => rw [wS, aU, ky, mb (by omega), bk]
theorem topC_eq {x : El} (h : Sm x) (hx : x ≠ []) : me F x = some (isN [99, 104, 97, 110, 110, 101, 108] x) := by
  unfold me
  rw [(kG hF h hx).1, aU]
  rfl
end
end Go.Fd
namespace Go.Fd
open Go.Pv Go.Av
open Go.Xm (Bs At Tok)
open Go.Pn (bl T1 T2 trim)
abbrev n_guid : Bs := [103, 117, 105, 100]
abbrev nQ : Bs := [116, 105, 116, 108, 101]
abbrev n_link : Bs := [108, 105, 110, 107]
abbrev n_desc : Bs := [100, 101, 115, 99, 114, 105, 112, 116, 105, 111, 110]
abbrev n_id : Bs := [105, 100]
abbrev n_summ : Bs := [115, 117, 109, 109, 97, 114, 121]
abbrev n_cont : Bs := [99, 111, 110, 116, 101, 110, 116]
abbrev n_upd : Bs := [117, 112, 100, 97, 116, 101, 100]
abbrev n_rel : Bs := [114, 101, 108]
abbrev n_alt : Bs := [97, 108, 116, 101, 114, 110, 97, 116, 101]
abbrev uF : Bs := [104, 114, 101, 102]
abbrev qu : Bs := [99, 104, 97, 110, 110, 101, 108]
abbrev wP : Bs := [105, 116, 101, 109]
abbrev uw : Bs := [101, 110, 116, 114, 121]
abbrev n_rss : Bs := [114, 115, 115]
abbrev n_feed : Bs := [102, 101, 101, 100]
def rssE (x : El) : Ent := (lQ [n_guid] x, lQ [nQ] x, lQ [n_link] x, lQ [n_desc] x, 0)
def rP (y : El) : Bool := isN n_link y && (match attO n_rel y with | none => true | some r => decide (r = n_alt))
def linkV (x : El) : Bs := match mI rP x with | none => [] | some y => optS (attO uF y)
def atV (r : Int × Int) : Int := if r.2 = 0 ∧ 0 ≤ r.1 ∧ r.1 ≤ 253402300799 then r.1 else 0
def um (stp : Bs → Int × Int) (x : El) : Ent := (lQ [n_id] x, lQ [nQ] x, linkV x, lQ [n_summ, n_cont] x, atV (stp (lQ [n_upd] x)))
def cutE (e : Ent) : Ent := (e.1, e.2.1, e.2.2.1, e.2.2.2.1.take 4000, e.2.2.2.2)
abbrev Fe := Bs × List Ent
def entL (item : Bs) (mk : El → Ent) (ps : List El) : List Ent := ((ps.filter (isN item)).take 200).map fun x => cutE (mk x)
def topP (top : El) (item : Bs) (mk : El → Ent) : Fe := (lQ [nQ] top, entL item mk (lU top))
def qK (stp : Bs → Int × Int) (x : El) : Fe × Int :=
  if nV true [] x = false then (([], []), 2)
  else if qJ x = n_rss then match mI (isN qu) x with
    | none => (([], []), 2)
    | some c => (topP c wP rssE, 0)
  else if qJ x = n_feed then (topP x uw (um stp), 0)
  else (([], []), 2)
def okE (e : Ent) : Prop := trim e.1 = e.1 ∧ trim e.2.1 = e.2.1 ∧ trim e.2.2.2.1 = e.2.2.2.1 ∧ e.2.2.2.1.length ≤ 4000 ∧ 0 ≤ e.2.2.2.2 ∧ e.2.2.2.2 ≤ 253402300799 ∧ e.1.length ≤ 4000 ∧ e.2.1.length ≤ 4000
theorem cut_id {e : Ent} (h : e.2.2.2.1.length ≤ 4000) : cutE e = e := by
  obtain ⟨a, b, c, t, n⟩ := e;show (a, b, c, t.take 4000, n) = _
  rw [List.take_of_length_le h]
theorem okE_cut {e : Ent} (h : okE e) : okE (cutE e) := by
  rw [cut_id h.2.2.2.1]; exact h
theorem rss_ok {x : El} (h : (dq x).length ≤ 4000) : okE (rssE x) :=
  ⟨jy _ _, jy _ _, jy _ _, Nat.le_trans (jY _ _) h, by simp [rssE], by simp [rssE], Nat.le_trans (jY _ _) h, Nat.le_trans (jY _ _) h⟩
theorem atV_ok (r : Int × Int) : 0 ≤ atV r ∧ atV r ≤ 253402300799 := by
  unfold atV
  split
  · rename_i h; exact h.2
  · exact ⟨by decide, by decide⟩
theorem atom_ok (stp : Bs → Int × Int) {x : El} (h : (dq x).length ≤ 4000) : okE (um stp x) :=
  ⟨jy _ _, jy _ _, jy _ _, Nat.le_trans (jY _ _) h, (atV_ok _).1, (atV_ok _).2, Nat.le_trans (jY _ _) h, Nat.le_trans (jY _ _) h⟩
theorem entL_ok (item : Bs) (mk : El → Ent) (ps : List El) (h : ∀ x ∈ ps, okE (mk x)) : ∀ e ∈ entL item mk ps, okE e := fun e he => by
  obtain ⟨x, hx, rfl⟩ := List.mem_map.1 he;exact okE_cut (h x (List.mem_filter.1 (List.mem_of_mem_take hx)).1)
theorem top_ok {top : El} (ht : (dq top).length ≤ 4000) (item : Bs) (mk : El → Ent) (hm : ∀ x : El, (dq x).length ≤ 4000 → okE (mk x)) : (trim (topP top item mk).1 = (topP top item mk).1 ∧ (topP top item mk).1.length ≤ 4000) ∧ ∀ e ∈ (topP top item mk).2, okE e :=
  ⟨⟨jy _ _, Nat.le_trans (jY _ _) ht⟩, entL_ok _ _ _ fun x hx => hm x (Nat.le_trans (nB hx).1 ht)⟩
theorem ext_ok (stp : Bs → Int × Int) {x : El} (h : (dq x).length ≤ 4000) : ((qK stp x).2 ≠ 0 → (qK stp x).1 = ([], [])) ∧ (trim (qK stp x).1.1 = (qK stp x).1.1 ∧ (qK stp x).1.1.length ≤ 4000) ∧ ∀ e ∈ (qK stp x).1.2, okE e := by
  have no : (((([], []) : Fe), (2 : Int)).2 ≠ 0 → ((([], []) : Fe), (2 : Int)).1 = ([], [])) ∧ (trim ((([], []) : Fe), (2 : Int)).1.1 = ((([], []) : Fe), (2 : Int)).1.1 ∧ ((([], []) : Fe), (2 : Int)).1.1.length ≤ 4000) ∧ ∀ e ∈ ((([], []) : Fe), (2 : Int)).1.2, okE e :=
    ⟨fun _ => rfl, ⟨rfl, by simp⟩, fun e he => by cases he⟩
  unfold qK
  split
  · exact no
  split
  · split
    · exact no
    · rename_i c hc
      have := top_ok (top := c) (Nat.le_trans (nB (List.mem_of_find?_eq_some hc)).1 h) wP rssE fun x hx => rss_ok hx
      exact ⟨fun z => absurd rfl z, this⟩
  split
  · have := top_ok (top := x) h uw (um stp) fun x hx => atom_ok stp hx
    exact ⟨fun z => absurd rfl z, this⟩
  · exact no
theorem vJ (item : Bs) (mk : El → Ent) (ps : List El) : (entL item mk ps).length ≤ 200 := by
  unfold entL
  rw [List.length_map, List.length_take]
  omega
theorem ext_few (stp : Bs → Int × Int) (x : El) : (qK stp x).1.2.length ≤ 200 := by
  unfold qK
  split
  · simp
  split
  · split
    · simp
    · exact vJ _ _ _
  split
  · exact vJ _ _ _
  · simp
end Go.Fd
namespace Go.Fd
open Go.Pv Go.Av
open Go.Xm
section
variable {F : Nat} (hF : 1500000 < F)
include hF
theorem rG {a : El} (ha : Sm a) (p : El → Bool) (kk : Bool → El → Nat → El → Option ((Bool × El × Nat) × Bool))
    (hk : ∀ y : El, Sm y → y ≠ [] → ∀ (f : Bool) (x : El), kk f x 0 y = if p y = true then some ((true, y, 1), false) else some ((f, x, 0), true)) :
    (bnd (fc F (fun s x => kk s.1 s.2.1 s.2.2 x) (false, ([] : El), 0) a) fun x20 => bif decide (x20.2.2 = 0) then some (([] : El), false) else bif decide (x20.2.2 = 1) then some (x20.2.1, x20.1) else none) = some (ul (mI p a)) := by
  have hl := ha.len
  rw [vt a ha.len (by omega), xQ p _ (lU a) (fun y hy f x => hk y (ha.part hy) (ut hy) f x), aU]
  unfold mI ul
  cases (lU a).find? p with
  | none => rfl
  | some y => rfl
theorem findV_eq {a : El} (ha : Sm a) {ns : List Bs} (hn : NsOK ns) : kU F a ns = some (ul (mI (hasN ns) a)) := by
  refine Eq.trans ?_ (rG hF ha (hasN ns) (gb F ns) fun y hy h0 f x => ?_)
  · unfold kU dG gZ
    rw [aU]
  · unfold gb
    rw [jZ rfl, xw hF hn hy h0, aU]
    cases hasN ns y with
    | false => rw [if_neg (by simp)]; rfl
    | true => rw [if_pos rfl]; rfl
theorem findT_eq {a : El} (ha : Sm a) : kV F a = some (ul (mI (isN qu) a)) := by
  refine Eq.trans ?_ (rG hF ha (isN qu) (gc F) fun y hy h0 f x => ?_)
  · unfold kV dG hC
    rw [aU]
  · unfold gc
    rw [jZ rfl, topC_eq hF hy h0, aU]
    cases isN qu y with
    | false => rw [if_neg (by simp)]; rfl
    | true => rw [if_pos rfl]; rfl
theorem xS {x : El} (h : Sm x) (hx : x ≠ []) : jR F x = some (rP x) := by
  unfold jR rP isN
  rw [vI hF h hx]
  cases attO n_rel x with
  | none => rw [aO, (kG hF h hx).1, aU, Bool.not_false, Bool.true_or]
  | some r => rw [aO, (kG hF h hx).1, aU, Bool.not_true, Bool.false_or]
theorem findE_eq {a : El} (ha : Sm a) : kW F a = some (ul (mI rP a)) := by
  refine Eq.trans ?_ (rG hF ha rP (gd F) fun y hy h0 f x => ?_)
  · unfold kW dG hH
    rw [aU]
  · unfold gd
    rw [jZ rfl, xS hF hy h0, aU]
    cases rP y with
    | false => rw [if_neg (by simp)]; rfl
    | true => rw [if_pos rfl]; rfl
theorem kC {a : El} (ha : Sm a) {ns : List Bs} (hn : NsOK ns) : da F a ns = some (lQ ns a) := by
  unfold da lQ
  rw [findV_eq hF ha hn]
  cases e : mI (hasN ns) a with
  | none =>
    show (ft (some (([] : El), false)) fun x6 x7 => bnd (gy F x6) fun x9 => some x9) = _
    rw [aO, vn hF sm_nil, aU]
    rfl
  | some y =>
    have hy := ha.part (List.mem_of_find?_eq_some e)
    show (ft (some (y, true)) fun x6 x7 => bnd (gy F x6) fun x9 => some x9) = _
    rw [aO, vn hF hy, aU]
    rfl
omit hF in
theorem ok1 {n : Bs} (h : n.length ≤ 900) : NsOK [n] := ⟨by
    unfold oI
    refine decide_eq_true ⟨?_, ?_⟩
    · simp [Str.total]; omega
    · simp, by simp [Str.join, Str.rest]; omega⟩
theorem rss_eq {a : El} (ha : Sm a) : jz F a = some (rssE a) := by
  unfold jz rssE
  rw [kC hF ha (ok1 (by decide)), aU, kC hF ha (ok1 (by decide)), aU, kC hF ha (ok1 (by decide)), aU, kC hF ha (ok1 (by decide)), aU]
end
end Go.Fd
namespace Go.Fd
open Go.Pv Go.Av
def leap (y : Int) : Bool := (decide (y % 4 = 0)) && ((!decide (y % 100 = 0)) || (decide (y % 400 = 0)))
theorem Leap_eq (F : Nat) (y : Int) (h : 1 ≤ y ∧ y ≤ 9999) : kY F y = some (leap y) := by
  have hg : ∀ (q : Bool) (c : Int) (x : Option Bool), 1 ≤ c → fq q (fE y c) x = x := fun q c x hc => by
    cases q with
    | false => exact eB
    | true => rw [ky, nS (by omega)]
  unfold kY
  rw [nS (by omega), hg _ _ _ (by omega), hg _ _ _ (by omega)]; rfl
def dm (y m : Int) : Int := at_ ([0, 31, bif leap y then 29 else 28, 31, 30, 31, 30, 31, 31, 30, 31, 30, 31] : List Int) m
theorem Days_eq (F : Nat) (y m : Int) (h : 1 ≤ y ∧ y ≤ 9999) : kZ F y m = some (bif (decide (m < 1)) || (decide (12 < m)) then 0 else dm y m) := by
  unfold kZ jJ nH
  rw [Leap_eq F y h, aU]
  cases hm : (decide (m < 1)) || (decide (12 < m)) with
  | true => rfl
  | false =>
    simp only [Bool.or_eq_false_iff, decide_eq_false_iff_not] at hm
    rw [cond_false]
    have hg : grd (okI (28 + 1)) (some ((28 : Int) + 1)) = some 29 := by rw [bQ (by omega)]; rfl
    rw [hg]
    unfold dm
    cases leap y <;> simp only [cond_true, cond_false, aU] <;> rw [cT (by omega), bk]
def num (y m d : Int) : Int :=
  let y' := if m ≤ 2 then y - 1 else y
  let m' := if m ≤ 2 then m + 12 else m
  ((((((((146097 * (y' / 400)) + (365 * (y' % 400))) + ((y' % 400) / 4)) - ((y' % 400) / 100)) + (((153 * (m' - 3)) + 2) / 5)) + d) - 1) - 719468)
theorem vz (d y m : Int) (hy : 0 ≤ y ∧ y ≤ 9999) (hm : 3 ≤ m ∧ m ≤ 14) (hd : 1 ≤ d ∧ d ≤ 31) : dM d y m = some ((((((((146097 * (y / 400)) + (365 * (y % 400))) + ((y % 400) / 4)) - ((y % 400) / 100)) + (((153 * (m - 3)) + 2) / 5)) + d) - 1) - 719468) := by
  unfold dM
  simp (disch := omega) only [nS, bQ]
theorem xI (F : Nat) (y m d : Int) (hy : 1 ≤ y ∧ y ≤ 9999) (hm : 1 ≤ m ∧ m ≤ 12) (hd : 1 ≤ d ∧ d ≤ 31) : jh F y m d = some (num y m d) := by
  unfold jh num
  by_cases h : m ≤ 2
  · rw [bT h, bQ (by omega), bQ (by omega), vz d (y - 1) (m + 12) (by omega) (by omega) hd]
    simp only [if_pos h]
  · rw [bF h, vz d y m (by omega) (by omega) hd]
    simp only [if_neg h]
theorem dm_le (y m : Int) (hm : 1 ≤ m ∧ m ≤ 12) : dm y m ≤ 31 := by
  unfold dm
  obtain ⟨k, rfl⟩ : ∃ k : Nat, m = k := ⟨m.toNat, by omega⟩
  have hk : k < 13 := by omega
  rw [fw (by simpa using hk)]
  have h2 : ∀ k : Fin 13, ([0, 31, bif leap y then 29 else 28, 31, 30, 31, 30, 31, 31, 30, 31, 30, 31] : List Int)[k] ≤ 31 := by
    intro k
    cases leap y <;> revert k <;> decide
  exact h2 ⟨k, hk⟩
def pI (y m d : Int) : Bool := !((((decide (y < 1)) || (decide (9999 < y))) || (decide (d < 1))) || (decide ((bif (decide (m < 1)) || (decide (12 < m)) then 0 else dm y m) < d)))
theorem xi {y m d : Int} (h : pI y m d = true) : (1 ≤ y ∧ y ≤ 9999) ∧ (1 ≤ m ∧ m ≤ 12) ∧ (1 ≤ d ∧ d ≤ 31) := by
  unfold pI at h
  simp only [Bool.not_eq_true', Bool.or_eq_false_iff, decide_eq_false_iff_not] at h
  obtain ⟨⟨⟨h1, h2⟩, h3⟩, h4⟩ := h
  cases hm : (decide (m < 1)) || (decide (12 < m)) with
  | true => rw [hm, cond_true] at h4; omega
  | false =>
    rw [hm, cond_false] at h4
    simp only [Bool.or_eq_false_iff, decide_eq_false_iff_not] at hm
    have := dm_le y m (by omega)
    omega
theorem Ord_eq (F : Nat) (y m d : Int) : kM F y m d = some (bif pI y m d then (num y m d, 0) else (0, 1)) := by
  unfold kM
  cases hc : ((decide (y < 1)) || (decide (9999 < y))) || (decide (d < 1)) with
  | true =>
    have : pI y m d = false := by unfold pI; rw [hc]; rfl
    rw [this]; rfl
  | false =>
    have hc' := hc
    simp only [Bool.or_eq_false_iff, decide_eq_false_iff_not] at hc'
    rw [Days_eq F y m (by omega)]
    simp only [Bool.not_false, wS, aU, Bool.false_or]
    have e : pI y m d = !decide ((bif (decide (m < 1)) || (decide (12 < m)) then 0 else dm y m) < d) := by unfold pI; rw [hc, Bool.false_or]
    cases hd : decide ((bif (decide (m < 1)) || (decide (12 < m)) then 0 else dm y m) < d) with
    | true => rw [e, hd]; rfl
    | false =>
      rw [hd] at e
      obtain ⟨h1, h2, h3⟩ := xi (e.trans rfl)
      rw [e, xI F y m d h1 h2 h3]; rfl
theorem xJ (y m d : Int) (h : pI y m d = true) : -1000000 ≤ num y m d ∧ num y m d ≤ 10000000 := by
  obtain ⟨h1, h2, h3⟩ := xi h
  unfold num
  by_cases h : m ≤ 2
  · simp only [if_pos h]; omega
  · simp only [if_neg h]; omega
end Go.Fd
namespace Go.Fd
open Go.Pv Go.Av
abbrev Bs := List UInt8
def Tl {α : Type} (s : Bs) (q : α → Prop) (o : Option (Res (α × Bs))) : Prop := ∃ r, o = some r ∧ match r with
  | .pan _ => True
  | .ok x => q x.1 ∧ x.2.length ≤ s.length
theorem xj (F : Nat) (s : Bs) (n : Nat) (h1 : 1 ≤ n) : Tl s (fun t => t.length = n) (fa F s (n : Int)) := by
  unfold fa
  by_cases h : s.length < n
  · rw [bT (by omega)]
    exact ⟨_, rfl, trivial⟩
  · rw [bF (by omega)]
    unfold fX
    rw [dZ (by omega), bk, dZ (by omega), bk]
    refine ⟨_, rfl, ?_, ?_⟩
    · simp [mR]; omega
    · simp [lb]
def mx : Nat → Int
  | 0 => 0
  | 1 => 9
  | 2 => 99
  | 3 => 999
  | _ => 9999
theorem mx_le (i : Nat) : mx i ≤ 9999 := by
  have : i = 0 ∨ i = 1 ∨ i = 2 ∨ i = 3 ∨ ∃ j, i = j + 4 := by
    by_cases h : i < 4
    · omega
    · exact .inr (.inr (.inr (.inr ⟨i - 4, by omega⟩)))
  rcases this with rfl | rfl | rfl | rfl | ⟨j, rfl⟩
  · decide
  · decide
  · decide
  · decide
  · exact Int.le_refl _
theorem mx_step {i : Nat} (h : i < 4) : mx i * 10 + 9 ≤ mx (i + 1) := by
  have : i = 0 ∨ i = 1 ∨ i = 2 ∨ i = 3 := by omega
  rcases this with rfl | rfl | rfl | rfl <;> decide
theorem qg (x : Bs × Bs) (hx : x.1.length ≤ 4) : ∀ (n i : Nat) (a : Int), x.1.length - i < n → i ≤ x.1.length → 0 ≤ a → a ≤ mx i → ∃ r, dJ x n (a, (i : Int)) = some r ∧ match r with
    | .pan _ => True
    | .ok y => (0 ≤ y.1 ∧ y.1 ≤ 9999) ∧ y.2 = x.2
  | 0, i, a, h, _, _, _ => by omega
  | n + 1, i, a, hn, hi, h0, ha => by
    have h99 := mx_le i
    show ∃ r, fQ x (dJ x n) a (i : Int) = some r ∧ _
    unfold fQ
    by_cases h : i < x.1.length
    · rw [bT (by omega), cT (by omega), bk, fw h]
      cases hc : (decide ((x.1[i].toNat : Int) < 48)) || (decide (57 < (x.1[i].toNat : Int))) with
      | true => exact ⟨_, rfl, trivial⟩
      | false =>
        rw [Bool.or_eq_false_iff] at hc
        have c1 := of_decide_eq_false hc.1
        have c2 := of_decide_eq_false hc.2
        have e : ((x.1[i] - 48).toNat : Int) = (x.1[i].toNat : Int) - 48 := by
          rw [UInt8.toNat_sub_of_le _ _ (by rw [UInt8.le_iff_toNat_le]; show 48 ≤ _; omega)]
          show ((x.1[i].toNat - 48 : Nat) : Int) = _
          omega
        have hs := mx_step (i := i) (by omega)
        rw [cond_false]
        unfold fP
        rw [e, bQ (by omega), bQ (by omega), bQ (by omega), cr]
        exact qg x hx n (i + 1) _ (by omega) (by omega) (by omega) (by omega)
    · rw [bF (by omega)]
      exact ⟨_, rfl, ⟨h0, by omega⟩, rfl⟩
theorem bif_any {α : Type} {p : α → Prop} {c : Bool} {x y : α} (h1 : p x) (h2 : p y) : p (bif c then x else y) := by
  cases c
  · exact h2
  · exact h1
def In9 (n : Int) : Prop := 0 ≤ n ∧ n ≤ 9999
section
variable {F : Nat} (hF : 1500000 < F)
include hF
theorem pK (s : Bs) (n : Nat) (h1 : 1 ≤ n) (h4 : n ≤ 4) : Tl s In9 (dU F s (n : Int)) := by
  obtain ⟨r, e, hr⟩ := xj F s n h1
  unfold dU
  rw [e]
  cases r with
  | pan p => rw [bS]; exact ⟨_, rfl, trivial⟩
  | ok x =>
    obtain ⟨k1, k2⟩ := hr
    rw [bM, dS (by omega)]
    obtain ⟨q, e2, hq⟩ := qg x (by omega) F 0 0 (by omega) (by omega) (by omega) (by decide);refine ⟨q, e2, ?_⟩
    cases q with
    | pan p => trivial
    | ok y => exact ⟨hq.1, by rw [hq.2]; exact k2⟩
theorem one_tl (s w : Bs) (hw : w.length ≤ 100) : Tl s (fun _ => True) (iO F s w) := by
  obtain ⟨r, e, hr⟩ := xj F s 1 (by omega)
  unfold iO
  rw [show (1 : Int) = ((1 : Nat) : Int) from rfl, e]
  cases r with
  | pan p => rw [bS]; exact ⟨_, rfl, trivial⟩
  | ok x =>
    obtain ⟨k1, k2⟩ := hr
    rw [bM, mb (by omega), bk]
    cases Go.Lib.contains w x.1 with
    | false => exact ⟨_, rfl, trivial⟩
    | true =>
      rw [Bool.not_true, cond_false]
      unfold jd
      rw [cT (by omega), bk]
      exact ⟨_, rfl, trivial, k2⟩
theorem mM (s w : Bs) (hw : w.length ≤ 100) (n : Nat) (h1 : 1 ≤ n) (h4 : n ≤ 4) : Tl s In9 (dw F s w (n : Int)) := by
  obtain ⟨r, e, hr⟩ := one_tl hF s w hw
  unfold dw
  rw [e]
  cases r with
  | pan p => rw [bS]; exact ⟨_, rfl, trivial⟩
  | ok x =>
    obtain ⟨q, e2, hq⟩ := pK hF x.2 n h1 h4
    rw [bM, e2]
    cases q with
    | pan p => rw [bS]; exact ⟨_, rfl, trivial⟩
    | ok y => rw [bM]; exact ⟨_, rfl, hq.1, Nat.le_trans hq.2 hr.2⟩
def Tf (s : Bs) (o : Option (Res Bs)) : Prop := ∃ r, o = some r ∧ match r with
  | .pan _ => True
  | .ok x => x.length ≤ s.length
theorem sW : ∀ (n : Nat) (s : Bs), s.length < n → Tf s (eL F n s)
  | 0, s, h => by omega
  | n + 1, s, h => by
    show Tf s (eM F (eL F n) s)
    unfold eM
    by_cases hs : s = []
    · subst hs
      have e : (!decide (([] : List UInt8) = [])) = false := by decide
      rw [e, eB, bk, Bool.false_and, eB, bk, Bool.false_and, cond_false]
      exact ⟨_, rfl, Nat.le_refl _⟩
    · have hp := List.length_pos_iff.2 hs
      rw [nR (fun _ => by omega), bk, nR (fun _ => by omega), bk]
      cases ((!decide (s = ([] : List UInt8))) && (decide (48 ≤ ((at_ s 0).toNat : Int)))) && (decide (((at_ s 0).toNat : Int) ≤ 57)) with
      | false => exact ⟨_, rfl, Nat.le_refl _⟩
      | true =>
        rw [cond_true]
        unfold fa
        rw [bF (by omega)]
        unfold fX
        rw [dZ (by omega), bk, dZ (by omega), bk, bM]
        have hl : (cY s 1).length = s.length - 1 := by simp [cY]
        obtain ⟨r, e, hr⟩ := sW n (cY s 1) (by omega);refine ⟨r, e, ?_⟩
        cases r with
        | pan p => trivial
        | ok x => exact Nat.le_trans hr (by omega)
theorem frac_tl (s : Bs) (hs : s.length ≤ 1000000) : Tf s (eu F s) := by
  unfold eu jG iX
  have hg : ∀ {k : Option (Option Bool)} , True := fun {_} => trivial
  by_cases h : ((([46] : List UInt8).length : Nat) : Int) ≤ (s.length : Int)
  · rw [decide_eq_true h, ky, dZ (by simp at h ⊢; omega), bk, aU, aU, Bool.true_and]
    cases decide (to_ s ((([46] : List UInt8).length : Nat) : Int) = [46]) with
    | false => exact ⟨_, rfl, Nat.le_refl _⟩
    | true =>
      rw [Bool.not_true, cond_false]
      obtain ⟨r, e, hr⟩ := mM hF s [46] (by simp) 1 (by omega) (by omega)
      rw [show ((1 : Nat) : Int) = 1 from rfl] at e
      rw [e]
      cases r with
      | pan p => rw [bS]; exact ⟨_, rfl, trivial⟩
      | ok x =>
        rw [bM]
        have := hr.2
        obtain ⟨q, e2, hq⟩ := sW hF F x.2 (by omega);refine ⟨q, e2, ?_⟩
        cases q with
        | pan p => trivial
        | ok y => exact Nat.le_trans hq this
  · rw [decide_eq_false h, eB, bk, aU, aU, Bool.false_and]
    exact ⟨_, rfl, Nat.le_refl _⟩
theorem zone_tl (s : Bs) : Tl s (fun n => -100000000 ≤ n ∧ n ≤ 100000000) (iv F s) := by
  obtain ⟨r, e, hr⟩ := one_tl hF s [90, 122, 43, 45] (by simp)
  unfold iv
  rw [e]
  cases r with
  | pan p => rw [bS]; exact ⟨_, rfl, trivial⟩
  | ok x =>
    rw [bM]
    cases (decide (x.1 = 90)) || (decide (x.1 = 122)) with
    | true => exact ⟨_, rfl, ⟨by simp, by simp⟩, hr.2⟩
    | false =>
      rw [cond_false]
      obtain ⟨q, e2, hq⟩ := pK hF x.2 2 (by omega) (by omega)
      rw [show ((2 : Nat) : Int) = 2 from rfl] at e2
      rw [e2]
      cases q with
      | pan p => rw [bS]; exact ⟨_, rfl, trivial⟩
      | ok y =>
        rw [bM]
        obtain ⟨u, e3, hu⟩ := mM hF y.2 [58] (by simp) 2 (by omega) (by omega)
        rw [show ((2 : Nat) : Int) = 2 from rfl] at e3
        rw [e3]
        cases u with
        | pan p => rw [bS]; exact ⟨_, rfl, trivial⟩
        | ok z =>
          rw [bM]
          unfold jk
          rw [aU, dk]
          have hy := hq.1
          have hz := hu.1
          unfold In9 at hy hz
          have hl := hq.2
          have hm := hu.2
          have hr2 := hr.2
          generalize ((!((decide (0 ≤ y.1)) && (decide (y.1 < 24)))) || (!bif !(!((decide (0 ≤ y.1)) && (decide (y.1 < 24)))) then (decide (0 ≤ z.1)) && (decide (z.1 < 60)) else default)) = b
          cases b with
          | true => exact ⟨_, rfl, trivial⟩
          | false =>
            rw [cond_false]
            unfold gV
            cases decide (x.1 = 45) with
            | true =>
              rw [cond_true, bQ (by omega), bQ (by omega), bQ (by omega), bQ (by omega)]
              exact ⟨_, rfl, ⟨by simp only; omega, by simp only; omega⟩, by simp only; omega⟩
            | false =>
              rw [cond_false, bQ (by omega), bQ (by omega), bQ (by omega)]
              exact ⟨_, rfl, ⟨by simp only; omega, by simp only; omega⟩, by simp only; omega⟩
theorem of_tot (a b c d e f : Int) (h4 : In9 d) (h5 : In9 e) (h6 : In9 f) : ∃ n k, nr F a b c d e f = some (n, k) ∧ -1000000000000000 ≤ n ∧ n ≤ 1000000000000000 := by
  unfold In9 at h4 h5 h6
  unfold nr nz jk
  rw [Ord_eq F a b c]
  cases ho : pI a b c with
  | false =>
    rw [cond_false, aO, dk, dk, dk, aU]
    exact ⟨_, _, rfl, by decide, by decide⟩
  | true =>
    rw [cond_true, aO, dk, dk, dk, aU]
    obtain ⟨r1, r2⟩ := xJ a b c ho
    generalize num a b c = n at r1 r2
    refine bif_any (p := fun o => ∃ n k, o = some (n, k) ∧ -1000000000000000 ≤ n ∧ n ≤ 1000000000000000) ⟨_, _, rfl, by decide, by decide⟩ ?_
    rw [aO, bQ (by omega), bQ (by omega), bQ (by omega), bQ (by omega), bQ (by omega), bQ (by omega)]
    exact ⟨_, _, rfl, by omega, by omega⟩
theorem xG (s : Bs) (hs : s.length ≤ 1000000) : ∃ r, iH F s = some r := by
  unfold iH
  have c2 : ((2 : Nat) : Int) = 2 := rfl
  obtain ⟨r, e, h⟩ := pK hF s 4 (by omega) (by omega)
  rw [show ((4 : Nat) : Int) = 4 from rfl] at e
  rw [e]
  cases r with
  | pan p => rw [gB]; exact ⟨_, rfl⟩
  | ok x1 =>
  rw [jX]
  obtain ⟨r, e, h2⟩ := mM hF x1.2 [45] (by simp) 2 (by omega) (by omega)
  rw [c2] at e; rw [e]
  cases r with
  | pan p => rw [gB]; exact ⟨_, rfl⟩
  | ok x2 =>
  rw [jX]
  obtain ⟨r, e, h3⟩ := mM hF x2.2 [45] (by simp) 2 (by omega) (by omega)
  rw [c2] at e; rw [e]
  cases r with
  | pan p => rw [gB]; exact ⟨_, rfl⟩
  | ok x3 =>
  rw [jX]
  obtain ⟨r, e, h4⟩ := mM hF x3.2 [84, 116] (by simp) 2 (by omega) (by omega)
  rw [c2] at e; rw [e]
  cases r with
  | pan p => rw [gB]; exact ⟨_, rfl⟩
  | ok x4 =>
  rw [jX]
  obtain ⟨r, e, h5⟩ := mM hF x4.2 [58] (by simp) 2 (by omega) (by omega)
  rw [c2] at e; rw [e]
  cases r with
  | pan p => rw [gB]; exact ⟨_, rfl⟩
  | ok x5 =>
  rw [jX]
  obtain ⟨r, e, h6⟩ := mM hF x5.2 [58] (by simp) 2 (by omega) (by omega)
  rw [c2] at e; rw [e]
  cases r with
  | pan p => rw [gB]; exact ⟨_, rfl⟩
  | ok x6 =>
  rw [jX]
  have l1 := h.2
  have l2 := h2.2
  have l3 := h3.2
  have l4 := h4.2
  have l5 := h5.2
  have l6 := h6.2
  obtain ⟨r, e, h7⟩ := frac_tl hF x6.2 (by omega)
  rw [e]
  cases r with
  | pan p => rw [gB]; exact ⟨_, rfl⟩
  | ok x7 =>
  rw [jX]
  obtain ⟨r, e, h8⟩ := zone_tl hF x7
  rw [e]
  cases r with
  | pan p => rw [gB]; exact ⟨_, rfl⟩
  | ok x8 =>
  rw [jX]
  obtain ⟨n, k, e, b1, b2⟩ := of_tot hF x1.1 x2.1 x3.1 x4.1 x5.1 x6.1 h4.1 h5.1 h6.1
  rw [e, aO]
  cases (!decide (k = 0)) || (!decide (x8.2 = ([] : List UInt8))) with
  | true => exact ⟨_, rfl⟩
  | false =>
    rw [cond_false]
    unfold gl
    have := h8.1
    rw [bQ (by omega)]
    exact ⟨_, rfl⟩
end
end Go.Fd
namespace Go.Fd
open Go.Pv Go.Av
open Go.Xm
def stP (F : Nat) (s : Bs) : Int × Int := match iH F s with | none => (0, 0) | some r => r
theorem to_4000 (s : Bs) : to_ s (min (s.length : Int) 4000) = s.take 4000 := by
  have e : (min (s.length : Int) 4000) = ((min s.length 4000 : Nat) : Int) := by omega
  rw [e, mR]
  by_cases h : s.length ≤ 4000
  · rw [Nat.min_eq_left h, List.take_length, List.take_of_length_le h]
  · rw [Nat.min_eq_right (by omega)]
theorem rF (item : Bs) (mk : El → Ent) (k : List Ent × Nat → El → Option ((List Ent × Nat) × Bool)) : ∀ (ps : List El) (l : List Ent), l.length ≤ 200 →
    (∀ y ∈ ps, ∀ l : List Ent, l.length ≤ 200 → k (l, 0) y = if isN item y = true then (if l.length = 200 then some ((l, 1), false) else some ((l ++ [cutE (mk y)], 0), true)) else some ((l, 0), true)) →
    ∃ z : Nat, nY k (l, 0) ps = some (l ++ ((ps.filter (isN item)).take (200 - l.length)).map (fun x => cutE (mk x)), z) ∧ (z = 0 ∨ z = 1)
  | [], l, hl, hk => ⟨0, by rw [nY, List.filter_nil, List.take_nil, List.map_nil, List.append_nil], .inl rfl⟩
  | y :: ps, l, hl, hk => by
    have hk' := fun z hz => hk z (List.mem_cons_of_mem _ hz)
    rw [nY, hk y List.mem_cons_self l hl]
    by_cases h : isN item y = true
    · rw [if_pos h, List.filter_cons_of_pos h]
      by_cases h2 : l.length = 200
      · rw [if_pos h2, aO, Bool.not_false, cond_true]
        refine ⟨1, ?_, .inr rfl⟩
        rw [h2, Nat.sub_self, List.take_zero, List.map_nil, List.append_nil]
      · rw [if_neg h2, aO, Bool.not_true, cond_false]
        obtain ⟨z, e, hz⟩ := rF item mk k ps (l ++ [cutE (mk y)]) (by rw [List.length_append, List.length_singleton]; omega) hk';refine ⟨z, ?_, hz⟩
        have e2 : 200 - l.length = (200 - (l ++ [cutE (mk y)]).length) + 1 := by rw [List.length_append, List.length_singleton]; omega
        rw [e, e2, List.take_succ_cons, List.map_cons, List.append_assoc]
        rfl
    · rw [if_neg h, List.filter_cons_of_neg h, aO, Bool.not_true, cond_false]
      exact rF item mk k ps l hl hk'
section
variable {F : Nat} (hF : 1500000 < F)
include hF
theorem un {a : El} (ha : Sm a) (ns : List Bs) : (lQ ns a).length ≤ 1000000 := Nat.le_trans (jY ns a) ha.tx
theorem ok2 : NsOK [n_summ, n_cont] := ⟨by decide, by decide⟩
theorem atom_eq {a : El} (ha : Sm a) : iB F a = some (um (stP F) a) := by
  have hj : ∀ x9 x11 x13 y : Bs, eU F a x9 x11 x13 y = some (x9, x11, y, x13, atV (stP F (lQ [n_upd] a))) := fun x9 x11 x13 y => by
    unfold eU gg
    obtain ⟨r, hr⟩ := xG hF (lQ [n_upd] a) (un hF ha _)
    have hs : stP F (lQ [n_upd] a) = r := by unfold stP; rw [hr]
    obtain ⟨t, f⟩ := r
    rw [kC hF ha (ok1 (by decide)), aU, hr, aO, hs]
    unfold atV
    by_cases h : f = 0 ∧ 0 ≤ t ∧ t ≤ 253402300799
    · rw [if_pos h, decide_eq_true h.1, decide_eq_true h.2.1, decide_eq_true h.2.2]
      rfl
    · rw [if_neg h]
      have e : (((decide (f = 0)) && (decide (0 ≤ t))) && (decide (t ≤ 253402300799))) = false := by
        cases q : ((decide (f = 0)) && (decide (0 ≤ t))) && (decide (t ≤ 253402300799)) with
        | false => rfl
        | true =>
          rw [Bool.and_eq_true, Bool.and_eq_true] at q
          exact absurd ⟨of_decide_eq_true q.1.1, of_decide_eq_true q.1.2, of_decide_eq_true q.2⟩ h
      rw [e, cond_false]
  unfold iB um
  rw [kC hF ha (ok1 (by decide)), aU, kC hF ha (ok1 (by decide)), aU, kC hF ha (ok2 hF), aU, findE_eq hF ha]
  unfold linkV
  cases e : mI rP a with
  | none =>
    show (ft (some (([] : El), false)) fun x16 x17 => _) = _
    rw [aO, cond_false, hj]
  | some y =>
    have hm := List.mem_of_find?_eq_some e
    show (ft (some (y, true)) fun x16 x17 => _) = _
    rw [aO, cond_true, vI hF (ha.part hm) (ut hm)]
    cases hq : attO uF y with
    | none =>
      rw [aO, hj]
      show _ = some (lQ [n_id] a, lQ [nQ] a, optS (attO uF y), _, _)
      rw [hq]; rfl
    | some s =>
      rw [aO, hj]
      show _ = some (lQ [n_id] a, lQ [nQ] a, optS (attO uF y), _, _)
      rw [hq]; rfl
theorem round_eq {b : Bool} {item : Bs} {mk : El → Ent} (hi : ikm (some b) (nu F) (mg F) = some item) {y : El} (hy : Sm y) (h0 : y ≠ []) (hm : ikm (some b) (jz F y) (iB F y) = some (mk y)) (hl : (mk y).2.2.2.1.length ≤ 1000000)
    (l : List Ent) (hn : l.length ≤ 200) : dh F (some b) l 0 y = if isN item y = true then (if l.length = 200 then some ((l, 1), false) else some ((l ++ [cutE (mk y)], 0), true)) else some ((l, 0), true) := by
  unfold dh
  rw [jZ rfl, (kG hF hy h0).1, aU, hi, aU]
  by_cases h : isN item y = true
  · have h' : decide (qJ y = item) = true := h
    rw [if_pos h, h', Bool.not_true, cond_false]
    by_cases h2 : l.length = 200
    · rw [if_pos h2, decide_eq_true (show (l.length : Int) = 200 by omega), cond_true]
    · rw [if_neg h2, decide_eq_false (show ¬ (l.length : Int) = 200 by omega), cond_false, hm]
      have hl2 := hl
      generalize mk y = e at hl2 ⊢
      obtain ⟨e1, e2, e3, e4, e5⟩ := e
      have hl' : e4.length ≤ 1000000 := hl2
      show (grd _ _) = _
      rw [dZ (by omega), bk, dS (by simp; omega), bk, to_4000]
      rfl
  · have h' : decide (qJ y = item) = false := by
      cases q : decide (qJ y = item) with
      | false => rfl
      | true => exact absurd q h
    rw [if_neg h, h', Bool.not_false, cond_true]
def outF (r : Fe × Int) : Bs × List Ent × Int := (r.1.1, r.1.2, r.2)
theorem wX {b : Bool} {item : Bs} {mk : El → Ent} (hi : ikm (some b) (nu F) (mg F) = some item) (hm : ∀ y : El, Sm y → ikm (some b) (jz F y) (iB F y) = some (mk y) ∧ (mk y).2.2.2.1.length ≤ 1000000) {top : El} (ht : Sm top) :
    (bnd (da F top ([nQ] : List Bs)) fun x19 => bnd (dG F top) fun _ => bnd (fc F (fun s x => dh F (some b) s.1 s.2 x) ([], 0) top) fun x51 =>
      bif decide (x51.2 = 0) then di x19 x51.1 else bif decide (x51.2 = 1) then di x19 x51.1 else none) = some (outF (topP top item mk, 0)) := by
  have hl := ht.len
  unfold dG di
  rw [kC hF ht (ok1 (by decide)), aU, aU, vt top ht.len (by omega)]
  obtain ⟨z, e, hz⟩ := rF item mk (fun s x => dh F (some b) s.1 s.2 x) (lU top) [] (by simp) fun y hy l hn =>
    round_eq hF hi (ht.part hy) (ut hy) (hm y (ht.part hy)).1 (hm y (ht.part hy)).2 l hn
  rw [e, aU]
  rcases hz with rfl | rfl
  · rfl
  · rfl
theorem ext_eq {l : El} (h : Sm l) (h0 : l ≠ []) : jg F l = some (outF (qK (stP F) l)) := by
  have hl := h.len
  unfold jg qK
  rw [xK l h.len (by omega), aU]
  cases hn : nV true [] l with
  | false => rfl
  | true =>
    rw [Bool.not_true, cond_false, if_neg (by simp)]
    unfold qS
    rw [(kG hF h h0).1, aU]
    by_cases h1 : qJ l = n_rss
    · rw [decide_eq_true h1, if_pos h1, cond_true, aO, Bool.not_true, cond_false]
      have e : ikm (some true) (nP F l) (pr F l) = some (ul (mI (isN qu) l)) := by
        show nP F l = _
        unfold nP
        rw [findT_eq hF h]; rfl
      rw [e]
      cases hc : mI (isN qu) l with
      | none => rfl
      | some c =>
        have hm := List.mem_of_find?_eq_some hc
        show (ft (some (c, true)) fun x15 x16 => _) = _
        rw [aO, Bool.not_true, cond_false]
        exact wX hF (b := true) (item := wP) (mk := rssE) rfl (fun y hy => ⟨rss_eq hF hy, un hF hy _⟩) (h.part hm)
    · rw [decide_eq_false h1, if_neg h1, cond_false]
      by_cases h2 : qJ l = n_feed
      · rw [decide_eq_true h2, if_pos h2, cond_true, aO, Bool.not_true, cond_false]
        show (ft (some (l, true)) fun x15 x16 => _) = _
        rw [aO, Bool.not_true, cond_false]
        exact wX hF (b := false) (item := uw) (mk := um (stP F)) rfl (fun y hy => ⟨atom_eq hF hy, un hF hy _⟩) h
      · rw [decide_eq_false h2, if_neg h2]
        rfl
end
end Go.Fd
namespace Go.Xm
section
variable (enc : Bs → Bs)
end
def Dist : List At → Prop
  | [] => True
  | a :: r => (∀ b ∈ r, b.1 ≠ a.1) ∧ Dist r
def oH (t : Tok) : Prop :=
  (t.1 = 0 ∧ lv t.2.1 = true ∧ t.2.2.1 = [] ∧ (∀ a ∈ t.2.2.2, lv a.1 = true) ∧ Dist t.2.2.2) ∨
  (t.1 = 1 ∧ lv t.2.1 = true ∧ t.2.2.1 = [] ∧ t.2.2.2 = []) ∨ (t.1 = 2 ∧ t.2.1 = [] ∧ t.2.2.1 ≠ [] ∧ t.2.2.2 = [])
theorem tD : ∀ {l : List At} {a : At}, Dist l → (∀ b ∈ l, b.1 ≠ a.1) → Dist (l ++ [a])
  | [], a, _, _ => ⟨by simp, trivial⟩
  | x :: l, a, ⟨h1, h2⟩, h => by
    refine ⟨fun b hb => ?_, tD h2 fun b hb => h b (List.mem_cons_of_mem _ hb)⟩
    rcases List.mem_append.1 hb with hb | hb
    · exact h1 b hb
    · rw [List.mem_singleton.1 hb]; exact fun e => h x List.mem_cons_self e.symm
section
variable {dec : Bs → Option Bs}
theorem wG {s : Bs} {a : At} {r : Bs} (h : mW dec s = some (a, r)) : lv a.1 = true := by
  unfold mW at h
  cases e : iU s with
  | none => rw [e] at h; cases h
  | some x =>
    obtain ⟨n, r'⟩ := x
    have hn := (iE e).2
    rw [e] at h
    simp only at h
    have hv : ∀ q s' , qH dec n q s' = some (a, r) → a.1 = n := fun q s' hh => by
      unfold qH at hh
      split at hh
      · cases hh
      · split at hh
        · cases hh
        · split at hh
          · cases hh
          · cases hh; rfl
    split at h
    · rw [hv _ _ h]; exact hn
    · split at h
      · rw [hv _ _ h]; exact hn
      · cases h
theorem qp : ∀ {k : Nat} {as_ : List At} {s : Bs} {bs : List At} {e : Bool} {r : Bs}, ig dec k as_ s = some (bs, e, r) → (∀ a ∈ as_, lv a.1 = true) → Dist as_ → (∀ a ∈ bs, lv a.1 = true) ∧ Dist bs
  | 0, _, _, _, _, _, h, _, _ => by cases h
  | k + 1, as_, s, bs, e, r, h, h1, h2 => by
    unfold ig at h
    split at h
    · cases h; exact ⟨h1, h2⟩
    · split at h
      · cases h; exact ⟨h1, h2⟩
      · split at h
        · cases h
        · cases ea : mW dec (s.dropWhile ic) with
          | none => rw [ea] at h; cases h
          | some x =>
            obtain ⟨a, r'⟩ := x
            rw [ea] at h
            simp only at h
            split at h
            · cases h
            · rename_i g
              refine qp h (fun b hb => ?_) (tD h2 fun b hb e => g ?_)
              · rcases List.mem_append.1 hb with hb | hb
                · exact h1 b hb
                · rw [List.mem_singleton.1 hb]; exact wG ea
              · rw [List.any_eq_true]; exact ⟨b, hb, decide_eq_true e⟩
theorem sQ {l : List Tok} (h : ∀ t ∈ l, oH t) (x : Bs) : ∀ t ∈ lZ x l, oH t := by
  unfold lZ
  split
  · exact h
  · rename_i g
    intro t ht
    rcases List.mem_append.1 ht with ht | ht
    · exact h t ht
    · rw [List.mem_singleton.1 ht]; exact .inr (.inr ⟨rfl, rfl, g, rfl⟩)
theorem rE {l : List Tok} (h : ∀ t ∈ l, oH t) {x : Tok} (hx : oH x) : ∀ t ∈ l ++ [x], oH t := fun t ht => by
  rcases List.mem_append.1 ht with ht | ht
  · exact h t ht
  · rw [List.mem_singleton.1 ht]; exact hx
theorem xM {s : Bs} {o : List Bs} {k : Nat} {l : List Tok} {x : Sx} (h : ∀ t ∈ l, oH t) (e : gH dec s o k l = .ok x) : ∀ t ∈ x.2.2.2, oH t := by
  unfold gH at e
  split at e
  · unfold kx at e
    split at e
    · cases e
    · split at e
      · split at e
        · cases e; exact h
        · cases e
      · cases e; exact sQ h _
  split at e
  · have := (im (by simp) e).2
    rw [this]; exact h
  split at e
  · have := (im (by simp) e).2
    rw [this]; exact h
  split at e
  · unfold oa at e
    split at e
    · cases e
    · split at e
      · cases e
      · cases e; exact sQ h _
  split at e
  · have := (im (by simp) e).2
    rw [this]; exact h
  split at e
  · unfold sx at e
    split at e
    · cases e
    · rename_i n r hn
      split at e
      · unfold ma at e
        split at e
        · cases e; exact rE h (.inr (.inl ⟨rfl, (iE hn).2, rfl, rfl⟩))
        · cases e
      · cases e
  · unfold nZ at e
    split at e
    · cases e
    · rename_i n r hn
      split at e
      · cases e
      · rename_i as_ em r' ha
        obtain ⟨g1, g2⟩ := qp ha (by simp) trivial
        have hn' := (iE hn).2
        have ho := rE h (x := (0, n, [], as_)) (.inl ⟨rfl, hn', rfl, g1, g2⟩)
        unfold nU at e
        split at e
        · cases e
        · split at e
          · cases e
          · split at e
            · cases e; exact rE ho (.inr (.inl ⟨rfl, hn', rfl, rfl⟩))
            · cases e; exact ho
theorem vE : ∀ {n : Nat} {x y : Sx}, (∀ t ∈ x.2.2.2, oH t) → lS dec n x = .ok y → ∀ t ∈ y.2.2.2, oH t
  | 0, x, y, h, e => by cases e
  | n + 1, (s, o, k, l), y, h, e => by
    unfold lS at e
    split at e
    · cases e; exact h
    · cases es : gH dec s o k l with
      | no e' => rw [es] at e; cases e
      | ok z =>
        rw [es] at e
        exact vE (xM h es) e
variable {enc : Bs → Bs}
structure Enc (dec : Bs → Option Bs) (enc : Bs → Bs) : Prop where
  back : ∀ t, dec (enc t) = some t
  no : ∀ t, ∀ c ∈ enc t, c ≠ 60 ∧ c ≠ 34
  ne : ∀ t, t ≠ [] → enc t ≠ []
end
end Go.Xm
namespace Go.Fd
open Go.Pv Go.Av
open Go.Xm
theorem awake : jO 2000000 = some true := by decide +kernel
theorem tok_ok {d : Bs → Option Bs} {s : Bs} (h : (mS d s).2 = 0) : ∃ (s' : Bs) (k : Nat), lS d (s.length + 1) (s, [], 0, []) = .ok (s', [], k, (mS d s).1) ∧ 0 < k := by
  rw [pw] at h ⊢
  cases e : lS d (s.length + 1) (s, [], 0, []) with
  | no e' => rw [e] at h; exact absurd h (run_no e)
  | ok y =>
    obtain ⟨s', o, k, l⟩ := y
    rw [e] at h
    have h1 : (if o = [] ∧ 0 < k then (l, (0 : Int)) else ([], 2)).2 = 0 := h
    by_cases g : o = [] ∧ 0 < k
    · obtain ⟨g1, g2⟩ := g
      subst g1;refine ⟨s', k, ?_, g2⟩;show Rx.ok (s', [], k, l) = Rx.ok (s', [], k, (if ([] : List Bs) = [] ∧ 0 < k then (l, (0 : Int)) else ([], 2)).1)
      rw [if_pos ⟨rfl, g2⟩]
    · rw [if_neg g] at h1
      exact absurd h1 (by decide)
theorem good_len {t : Tok} (h : oH t) : t.2.1.length ≤ 60 := by
  have nl : ∀ n : Bs, lv n = true → n.length ≤ 60 := fun n hn => by
    unfold lv at hn
    simp only [Bool.and_eq_true, decide_eq_true_eq] at hn
    exact hn.2.2
  rcases h with ⟨_, h, _⟩ | ⟨_, h, _⟩ | ⟨_, h, _⟩
  · exact nl _ h
  · exact nl _ h
  · rw [h]; simp
section
variable {F : Nat} (hF : 1500000 < F)
include hF
theorem tok_sm {s : Bs} (hs : s.length ≤ 100000) (h : (mS (dec F) s).2 = 0) : Sm (mS (dec F) s).1 ∧ (mS (dec F) s).1 ≠ [] := by
  obtain ⟨s', k, e, hk⟩ := tok_ok h
  have hl := tok_len (d := dec F) hs
  have ht := tok_tx (dec_43 hF) hs
  have hg := vE (x := (s, [], 0, [])) (fun t ht => by cases ht) e
  have ha := tok_ats (d := dec F) (m := 100000) hs
  have hn : Nest [] k (mS (dec F) s).1 := Nest.run (x := (s, [], 0, [])) nest_nil e
  refine ⟨⟨by omega, by omega, fun t ht => ?_, fun t ht => ?_⟩, fun z => ?_⟩
  · have := good_len (hg t ht)
    omega
  · have := ha t ht
    omega
  · obtain ⟨t, r, q, _⟩ := hn.some (by omega)
    rw [q] at z; cases z
def rdP (F : Nat) (s : Bs) : Fe × Int := if (mS (dec F) s).2 = 0 then qK (stP F) (mS (dec F) s).1 else (([], []), (mS (dec F) s).2)
theorem read_eq {s : Bs} (hs : s.length ≤ 100000) : kI F s = some (outF (rdP F s)) := by
  unfold kI rdP
  rw [tok_eq hF hs]
  by_cases h : (mS (dec F) s).2 = 0
  · obtain ⟨h1, h2⟩ := tok_sm hF hs h
    rw [if_pos h]
    generalize mS (dec F) s = q at h h1 h2 ⊢
    obtain ⟨l, e⟩ := q
    simp only at h h1 h2 ⊢
    rw [aO, decide_eq_true h, Bool.not_true, cond_false, ext_eq hF h1 h2]
    generalize qK (stP F) l = r
    obtain ⟨⟨a, b⟩, c⟩ := r;show (bnd3 (some (a, b, c)) fun x11 x12 x13 => some (x11, x12, x13)) = some (a, b, c)
    rw [tG]
  · rw [if_neg h]
    generalize mS (dec F) s = q at h ⊢
    obtain ⟨l, e⟩ := q
    simp only at h ⊢
    rw [aO, decide_eq_false h, Bool.not_false, cond_true]
    rfl
theorem rd_ok {s : Bs} (hs : s.length ≤ 3000) : ((rdP F s).2 ≠ 0 → (rdP F s).1 = ([], [])) ∧ (Go.Pn.trim (rdP F s).1.1 = (rdP F s).1.1 ∧ (rdP F s).1.1.length ≤ 4000) ∧ ∀ e ∈ (rdP F s).1.2, okE e := by
  unfold rdP
  by_cases h : (mS (dec F) s).2 = 0
  · rw [if_pos h]
    have ht := tok_tx (dec_43 hF) (s := s) (by omega)
    exact ext_ok (stP F) (by unfold tx at ht; omega)
  · rw [if_neg h]
    exact ⟨fun _ => rfl, ⟨rfl, by simp⟩, fun e he => by cases he⟩
theorem rd_few {s : Bs} (hs : s.length ≤ 100000) : (rdP F s).1.2.length ≤ 200 := by
  unfold rdP
  by_cases h : (mS (dec F) s).2 = 0
  · rw [if_pos h]
    exact ext_few _ _
  · rw [if_neg h]; simp
end
end Go.Fd
namespace Go.Fd
open Go.Pv Go.Av
open Go.Xm
open Go.Pn (trim)
section
variable {F : Nat} (hF : 1500000 < F)
include hF
theorem qM {s : Bs} (hs : s.length ≤ 4000) (h : trim s = s) : fK F s = some s := by
  rw [Go.Pn.ref07_Trim_eq F s (by omega) (by omega), h]
theorem rl (l : List Ent) (hl : l.length ≤ 1000000) (h : ∀ e ∈ l, okE e) : ∀ (n i : Nat), l.length - i < n → i ≤ l.length → ej F l n (i : Int) = some true
  | 0, i, h, _ => by omega
  | n + 1, i, hn, hi => by
    show ek F l (ej F l n) (i : Int) = _
    unfold ek
    by_cases hi2 : i < l.length
    · obtain ⟨e1, e2, e3, e4, e5, e6, e7, e8⟩ := h l[i] (List.getElem_mem hi2)
      rw [bT (by omega), cT (by omega), bk, fw hi2, qM hF e8 e2, aU, qM hF e7 e1, dk, qM hF e4 e3, dk]
      generalize l[i] = x at e1 e2 e3 e4 e5 e6 e7 e8 ⊢
      have k1 : (!decide (x.2.1 = x.2.1)) = false := by rw [decide_eq_true rfl]; rfl
      have k2 : (!decide (x.1 = x.1)) = false := by rw [decide_eq_true rfl]; rfl
      have k3 : (!decide (x.2.2.2.1 = x.2.2.2.1)) = false := by rw [decide_eq_true rfl]; rfl
      rw [k1, Bool.not_false, cond_true, Bool.false_or, k2, Bool.not_false, cond_true, k3, decide_eq_false (show ¬ 4000 < (x.2.2.2.1.length : Int) by omega), decide_eq_false (show ¬ x.2.2.2.2 < 0 by omega), decide_eq_false (show ¬ 253402300799 < x.2.2.2.2 by omega), Bool.or_false, Bool.or_false, Bool.or_false, Bool.or_false, cond_false, bQ (by omega), cr]
      exact rl l hl h n (i + 1) (by omega) (by omega)
    · rw [bF (by omega)]
      rfl
end
theorem FeedTrims_t (b : Bs) : hZ 2000000 b = some true := by
  have hF : 1500000 < 2000000 := by omega
  generalize hN : 2000000 = F at hF
  have ha : jO F = some true := by rw [← hN]; exact awake
  unfold hZ
  rw [ha, aU, Bool.not_true, Bool.false_or]
  by_cases h : b.length ≤ 3000
  · rw [bF (by omega), read_eq hF (by omega)]
    obtain ⟨h1, ⟨h2, h3⟩, h4⟩ := rd_ok hF h
    have h5 := rd_few hF (s := b) (by omega)
    generalize rdP F b = r at h1 h2 h3 h4 h5
    obtain ⟨⟨t, l⟩, e⟩ := r
    simp only at h1 h2 h3 h4 h5
    show (bnd3 (some (t, l, e)) fun x8 x9 x10 => _) = _
    rw [tG]
    by_cases he : e = 0
    · rw [decide_eq_true he, Bool.not_true, cond_false, qM hF h3 h2, aU, decide_eq_true rfl, Bool.not_true, cond_false]
      exact rl hF l (by omega) h4 F 0 (by omega) (by omega)
    · have hz := h1 he
      cases hz
      rw [decide_eq_false he]
      rfl
  · rw [bT (by omega)]
end Go.Fd
