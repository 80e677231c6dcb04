/-
  Texts in one (only what FeedMany needs): EntBW, XmlAP, XmlAW, FdBP, FdBW, FdLP, FdLW, LFeedManyP, LFeedManyW.
-/
import Derived.Test.YtkbfjepffpddfaaGreatDoorZFeedMany3
import Derived.Test.YtkbfjepffpddfaaGreatDoorShelf
import Derived.Lib.ItoaNum
import Derived.Lib.IndexLaws
import Derived.Test.YtkbfjepffpddfaaGreatDoorChecked
set_option linter.unusedVariables false
set_option linter.unusedSimpArgs false
set_option linter.unusedSectionVars false
namespace Go.Proofs.YtkbfjepffpddfaaGreatDoor
open Go.RowKit Go.Av Go.Pv
theorem pW : ∀ (args : Array Value) (w : World), (callFunc 17 args).run Tryz.prog w = .ok (.enter 17 args) w := fun _ _ => by kernel_rfl
theorem yZ : ∀ (args : Array Value) (w : World), (callFunc 19 args).run Tryz.prog w = .ok (.enter 19 args) w := fun _ _ => by kernel_rfl
theorem yV : ∀ (args : Array Value) (w : World), (callFunc 44 args).run Tryz.prog w = .ok (.enter 44 args) w := fun _ _ => by kernel_rfl
theorem tB : ∀ (args : Array Value) (w : World), (callFunc 61 args).run Tryz.prog w = .ok (.enter 61 args) w := fun _ _ => by kernel_rfl
theorem yM : ∀ (args : Array Value) (w : World), (callFunc 70 args).run Tryz.prog w = .ok (.enter 70 args) w := fun _ _ => by kernel_rfl
theorem yJ : ∀ (args : Array Value) (w : World), (callFunc 82 args).run Tryz.prog w = .ok (.enter 82 args) w := fun _ _ => by kernel_rfl
theorem yI : ∀ (args : Array Value) (w : World), (callFunc 91 args).run Tryz.prog w = .ok (.enter 91 args) w := fun _ _ => by kernel_rfl
theorem nJ : ∀ (args : Array Value) (w : World), (callFunc 92 args).run Tryz.prog w = .ok (.enter 92 args) w := fun _ _ => by kernel_rfl
theorem yH : ∀ (args : Array Value) (w : World), (callFunc 93 args).run Tryz.prog w = .ok (.enter 93 args) w := fun _ _ => by kernel_rfl
theorem yG : ∀ (args : Array Value) (w : World), (callFunc 98 args).run Tryz.prog w = .ok (.enter 98 args) w := fun _ _ => by kernel_rfl
theorem tw : ∀ (args : Array Value) (w : World), (callFunc 99 args).run Tryz.prog w = .ok (.enter 99 args) w := fun _ _ => by kernel_rfl
theorem xg : ∀ (args : Array Value) (w : World), (callFunc 102 args).run Tryz.prog w = .ok (.enter 102 args) w := fun _ _ => by kernel_rfl
theorem xf : ∀ (args : Array Value) (w : World), (callFunc 103 args).run Tryz.prog w = .ok (.enter 103 args) w := fun _ _ => by kernel_rfl
theorem xe : ∀ (args : Array Value) (w : World), (callFunc 104 args).run Tryz.prog w = .ok (.enter 104 args) w := fun _ _ => by kernel_rfl
set_option maxRecDepth 100000 in
set_option maxHeartbeats 1000000 in
theorem wJ (F : Nat) (a1 : Int) (r2 : List UInt8) (r3 : Bool) (H : jo F a1 = some (r2, r3)) : ACalls Tryz.prog 104 [i64 a1] [] (Ret (.tup [S r2, B r3]) []) := by
 unfold jo at H
 refine ap Tryz.func104 rfl rfl ?_;show AW _ _ 35 _ _ _;refine af <| aa ?_;show AR _ _ _ _ _ [0, 1] _;refine za rfl <| za rfl <| ag <| af <| aa ?_;show AR _ _ _ _ _ [0, 1, 2, 3, 4, 5, 6, 7, 8, 9, 10] _;refine zm rfl <| zS rfl (bL rfl rfl) <| zm rfl <| aY (l := [6, 7, 8, 9, 10]) 10 (B ((decide (a1 = 9)) || (decide (a1 = 10)))) (fun K => ?_) ?_
 ·rcases ak (decide (a1 = 9)) with h4 | h4
  ·refine zF h4 rfl <| zF h4 rfl <| zS rfl (aE (av := .v _) rfl h4 rfl) ?_;exact K _ 2 _ (az (kw h4)) rfl rfl
  ·refine zM h4 rfl <| zU h4 rfl (bL rfl rfl) <| zS rfl (aF (av := .v _) rfl h4 rfl) ?_;exact K _ 2 _ (az (kx h4)) rfl rfl
 refine zm rfl <| aY (l := [10]) 14 (B (((decide (a1 = 9)) || (decide (a1 = 10))) || (decide (a1 = 13)))) (fun K => ?_) ?_
 ·rcases ak ((decide (a1 = 9)) || (decide (a1 = 10))) with h5 | h5
  ·refine zF h5 rfl <| zF h5 rfl <| zS rfl (aE (av := .v _) rfl h5 rfl) ?_;exact K _ 2 _ (az (kw h5)) rfl rfl
  ·refine zM h5 rfl <| zU h5 rfl (bL rfl rfl) <| zS rfl (aF (av := .v _) rfl h5 rfl) ?_;exact K _ 2 _ (az (kx h5)) rfl rfl
 refine za rfl <| ag <| af <| af ?_;obtain ⟨x7, e8, H⟩ := fI H;obtain ⟨x10, e11, H⟩ := fI H;obtain ⟨x13, e14, H⟩ := fI H;refine aa ?_;show AR _ _ _ _ _ [0, 1, 2, 3, 4, 5, 6, 7, 8, 9, 10, 11, 12, 13, 14, 15, 16] _;refine zm rfl <| zS rfl (bG rfl) <| zm rfl <| aY (l := [7, 8, 9, 10, 11, 12, 13, 14, 15, 16]) 21 (B ((!(((decide (a1 = 9)) || (decide (a1 = 10))) || (decide (a1 = 13)))) && (!x7))) (fun K => ?_) ?_
 ·rcases ak (!(((decide (a1 = 9)) || (decide (a1 = 10))) || (decide (a1 = 13)))) with h6 | h6
  ·refine zM h6 rfl <| zT h6 rfl (aC rfl nJ rfl (pn F a1 32 55295 x7 (e8 h6)) ?_);refine zU h6 rfl (bG rfl) <| zS rfl (aE (av := .v _) rfl h6 rfl) ?_;exact K _ 3 _ (az (cB h6)) rfl rfl
  ·refine zF h6 rfl <| zF h6 rfl <| zF h6 rfl <| zS rfl (aF (av := .v _) rfl h6 rfl) ?_;exact K _ 3 _ (az (cC h6)) rfl rfl
 refine zm rfl <| aY (l := [12, 13, 14, 15, 16]) 26 (B (((!(((decide (a1 = 9)) || (decide (a1 = 10))) || (decide (a1 = 13)))) && (!x7)) && (!x10))) (fun K => ?_) ?_
 ·rcases ak ((!(((decide (a1 = 9)) || (decide (a1 = 10))) || (decide (a1 = 13)))) && (!x7)) with h9 | h9
  ·refine zM h9 rfl <| zT h9 rfl (aC rfl nJ rfl (pn F a1 57344 65533 x10 (e11 h9)) ?_);refine zU h9 rfl (bG rfl) <| zS rfl (aE (av := .v _) rfl h9 rfl) ?_;exact K _ 3 _ (az (cB h9)) rfl rfl
  ·refine zF h9 rfl <| zF h9 rfl <| zF h9 rfl <| zS rfl (aF (av := .v _) rfl h9 rfl) ?_;exact K _ 3 _ (az (cC h9)) rfl rfl
 refine zm rfl <| aY (l := []) 31 (B ((((!(((decide (a1 = 9)) || (decide (a1 = 10))) || (decide (a1 = 13)))) && (!x7)) && (!x10)) && (!x13))) (fun K => ?_) ?_
 ·rcases ak (((!(((decide (a1 = 9)) || (decide (a1 = 10))) || (decide (a1 = 13)))) && (!x7)) && (!x10)) with h12 | h12
  ·refine zM h12 rfl <| zT h12 rfl (aC rfl nJ rfl (pn F a1 65536 1114111 x13 (e14 h12)) ?_);refine zU h12 rfl (bG rfl) <| zS rfl (aE (av := .v _) rfl h12 rfl) ?_;exact K _ 3 _ (az (cB h12)) rfl rfl
  ·refine zF h12 rfl <| zF h12 rfl <| zF h12 rfl <| zS rfl (aF (av := .v _) rfl h12 rfl) ?_;exact K _ 3 _ (az (cC h12)) rfl rfl
 refine ag <| ax rfl (fun c15 => ?_) (fun c15 => ?_)
 ·replace H := aW c15 H;refine af <| aa ?_;show AR _ _ _ _ _ [0, 1] _;refine za rfl <| za rfl <| ag <| aG ?_;obtain ⟨rfl, rfl⟩ := dw H;exact And.intro rfl (Exists.intro _ (Exists.intro _ ⟨bm rfl (.refl _) (.refl _), aB [] rfl, rfl, rfl⟩))
 ·replace H := aX c15 H;refine aA <| af ?_;obtain ⟨g16, H⟩ := aM H;obtain ⟨x17, e18, H⟩ := bO H;refine aa ?_;show AR _ _ _ _ _ [0, 1, 2, 3, 4] _;refine zm rfl <| zS rfl (tn (by kernel_rfl) Tryz.underlying21 rfl g16) <| zS rfl (oH Tryz.underlying21 ai rfl e18) <| za rfl <| za rfl <| ag <| aG ?_;obtain ⟨rfl, rfl⟩ := dw H;exact And.intro rfl (Exists.intro _ (Exists.intro _ ⟨bm rfl (.refl _) (.refl _), aB [] rfl, rfl, rfl⟩))
abbrev _root_.Go.Av.ez := @Tryz.underlying129
set_option maxRecDepth 100000 in
set_option maxHeartbeats 1000000 in
theorem vk (F : Nat) (r1 : List (List UInt8 × Int)) (H : kM F = some r1) : ACalls Tryz.prog 98 [] [] (Ret (mpI .i32 r1) []) := by
 unfold kM at H
 refine ap Tryz.func98 rfl rfl ?_;show AW _ _ 3 _ _ _;refine af <| aa ?_;show AR _ _ _ _ _ [0] _;refine za rfl <| ag <| af <| aa ?_;show AR _ _ _ _ _ [0, 1, 2, 3, 4, 5, 6, 7] _;refine AM.make (k := .i32) rfl rfl <| AM.insert (s := ([97, 109, 112] : List UInt8)) rfl ez ai rfl (by decide) <| AM.insert (s := ([108, 116] : List UInt8)) rfl ez ai rfl (by decide) <| AM.insert (s := ([103, 116] : List UInt8)) rfl ez ai rfl (by decide) <| AM.insert (s := ([113, 117, 111, 116] : List UInt8)) rfl ez ai rfl (by decide) <| AM.insert (s := ([97, 112, 111, 115] : List UInt8)) rfl ez ai rfl (by decide) <| AM.done (es := ([(([97, 109, 112] : List UInt8), 38), (([108, 116] : List UInt8), 60), (([103, 116] : List UInt8), 62), (([113, 117, 111, 116] : List UInt8), 34), (([97, 112, 111, 115] : List UInt8), 39)] : List (List UInt8 × Int))) <| zS rfl (ah (av := mpI _ _) rfl) <| zS rfl (aH (av := mpI _ _) rfl) <| ag <| aG ?_;obtain rfl := aj H;exact And.intro rfl (Exists.intro _ (Exists.intro _ ⟨aD rfl (.refl _), aB [] rfl, rfl, rfl⟩))
set_option maxRecDepth 100000 in
set_option maxHeartbeats 1000000 in
theorem pb (F : Nat) (a1 : List UInt8) (a2 : Int) (r3 : List UInt8) (r4 : Bool) (H : dR F a1 a2 = some (r3, r4)) : ACalls Tryz.prog 99 [S a1, i64 a2] [] (Ret (.tup [S r3, B r4]) []) := by
 unfold dR at H
 refine ap Tryz.func99 rfl rfl ?_;show AW _ _ 41 _ _ _;refine af <| aa ?_;show AR _ _ _ _ _ [0, 1] _;refine za rfl <| za rfl <| ag <| af <| af ?_;obtain ⟨g6, H⟩ := cR H;obtain ⟨x7, e8, H⟩ := bO H;obtain ⟨g10, H⟩ := cR H;obtain ⟨x11, e12, H⟩ := bO H;obtain ⟨g14, H⟩ := cR H;obtain ⟨x15, e16, H⟩ := bO H;obtain ⟨x18, e19, H⟩ := fI H;refine aa ?_;show AR _ _ _ _ _ [0, 1, 2, 3, 4, 5, 6, 7, 8, 9, 10, 11, 12, 13, 14, 15, 16, 17, 18, 19, 20] _;refine zm rfl <| zS rfl (ej rfl rfl) <| zm rfl <| aY (l := [7, 8, 9, 10, 11, 12, 13, 14, 15, 16, 17, 18, 19, 20]) 14 (B ((decide (a1 = ([] : List UInt8))) || (decide (x7 = 43)))) (fun K => ?_) ?_
 ·rcases ak (decide (a1 = ([] : List UInt8))) with h5 | h5
  ·refine zF h5 rfl <| zF h5 rfl <| zF h5 rfl <| zS rfl (aE (av := .v _) rfl h5 rfl) ?_;exact K _ 3 _ (az (kw h5)) rfl rfl
  ·refine zM h5 rfl <| zU h5 rfl (bu ai rfl rfl (g6 (nf h5)) e8) <| zU h5 rfl (jv (a := x7) (b := 43) rfl rfl) <| zS rfl (aF (av := .v _) rfl h5 rfl) ?_;exact K _ 3 _ (az (kx h5)) rfl rfl
 refine zm rfl <| aY (l := [12, 13, 14, 15, 16, 17, 18, 19, 20]) 19 (B (((decide (a1 = ([] : List UInt8))) || (decide (x7 = 43))) || (decide (x11 = 45)))) (fun K => ?_) ?_
 ·rcases ak ((decide (a1 = ([] : List UInt8))) || (decide (x7 = 43))) with h9 | h9
  ·refine zF h9 rfl <| zF h9 rfl <| zF h9 rfl <| zS rfl (aE (av := .v _) rfl h9 rfl) ?_;exact K _ 3 _ (az (kw h9)) rfl rfl
  ·refine zM h9 rfl <| zU h9 rfl (bu ai rfl rfl (g10 (nf h9)) e12) <| zU h9 rfl (jv (a := x11) (b := 45) rfl rfl) <| zS rfl (aF (av := .v _) rfl h9 rfl) ?_;exact K _ 3 _ (az (kx h9)) rfl rfl
 refine zm rfl <| aY (l := [17, 18, 19, 20]) 24 (B ((((decide (a1 = ([] : List UInt8))) || (decide (x7 = 43))) || (decide (x11 = 45))) || (decide (x15 = 95)))) (fun K => ?_) ?_
 ·rcases ak (((decide (a1 = ([] : List UInt8))) || (decide (x7 = 43))) || (decide (x11 = 45))) with h13 | h13
  ·refine zF h13 rfl <| zF h13 rfl <| zF h13 rfl <| zS rfl (aE (av := .v _) rfl h13 rfl) ?_;exact K _ 3 _ (az (kw h13)) rfl rfl
  ·refine zM h13 rfl <| zU h13 rfl (bu ai rfl rfl (g14 (nf h13)) e16) <| zU h13 rfl (jv (a := x15) (b := 95) rfl rfl) <| zS rfl (aF (av := .v _) rfl h13 rfl) ?_;exact K _ 3 _ (az (kx h13)) rfl rfl
 refine zm rfl <| aY (l := []) 28 (B (((((decide (a1 = ([] : List UInt8))) || (decide (x7 = 43))) || (decide (x11 = 45))) || (decide (x15 = 95))) || x18)) (fun K => ?_) ?_
 ·rcases ak ((((decide (a1 = ([] : List UInt8))) || (decide (x7 = 43))) || (decide (x11 = 45))) || (decide (x15 = 95))) with h17 | h17
  ·refine zF h17 rfl <| zF h17 rfl <| zS rfl (aE (av := .v _) rfl h17 rfl) ?_;exact K _ 2 _ (az (kw h17)) rfl rfl
  ·refine zM h17 rfl <| zT h17 rfl (aC rfl xg rfl (sp F a1 ([95] : List UInt8) x18 (e19 (nf h17))) ?_);refine zS rfl (aF (av := .v _) rfl h17 rfl) ?_;exact K _ 2 _ (az (kx h17)) rfl rfl
 refine ag <| ax rfl (fun c20 => ?_) (fun c20 => ?_)
 ·replace H := aW c20 H;refine af <| aa ?_;show AR _ _ _ _ _ [0, 1] _;refine za rfl <| za rfl <| ag <| aG ?_;obtain ⟨rfl, rfl⟩ := dw H;exact And.intro rfl (Exists.intro _ (Exists.intro _ ⟨bm rfl (.refl _) (.refl _), aB [] rfl, rfl, rfl⟩))
 ·replace H := aX c20 H;refine aA <| af ?_;obtain ⟨x21, x22, e23, H⟩ := cD H;refine aa ?_;show AR _ _ _ _ _ [0, 1, 2, 3, 4, 5, 6, 7] _;refine zm rfl <| zm rfl <| am rfl rfl (aC rfl xf rfl (ox F a1 a2 0 x21 x22 e23) ?_);refine zS rfl (ah (av := .tup _) rfl) <| zS rfl (ay (av := .v _) rfl rfl) <| zS rfl (ay (av := eAny _ _) rfl rfl) <| za rfl <| zS rfl (aH (av := eAny _ _) rfl) <| ag <| af <| af <| aa ?_;show AR _ _ _ _ _ [0, 1] _;refine zS rfl (ah (av := eAny _ _) rfl) <| zS rfl (wX eQ rfl rfl) <| ag <| ax rfl (fun c24 => ?_) (fun c24 => ?_)
  ·replace H := aW c24 H;refine af <| aa ?_;show AR _ _ _ _ _ [0, 1] _;refine za rfl <| za rfl <| ag <| aG ?_;obtain ⟨rfl, rfl⟩ := dw H;exact And.intro rfl (Exists.intro _ (Exists.intro _ ⟨bm rfl (.refl _) (.refl _), aB [] rfl, rfl, rfl⟩))
  ·replace H := aX c24 H;refine aA <| af ?_;obtain ⟨x25, x26, e27, H⟩ := cD H;refine aa ?_;show AR _ _ _ _ _ [0, 1, 2, 3, 4, 5] _;refine zm rfl <| am rfl rfl (aC rfl xe rfl (wJ F x21 x25 x26 e27) ?_);refine zS rfl (ay (av := .v _) rfl rfl) <| zS rfl (ay (av := .v _) rfl rfl) <| za rfl <| za rfl <| ag <| aG ?_;obtain ⟨rfl, rfl⟩ := dw H;exact And.intro rfl (Exists.intro _ (Exists.intro _ ⟨bm rfl (.refl _) (.refl _), aB [] rfl, rfl, rfl⟩))
set_option maxRecDepth 100000 in
set_option maxHeartbeats 1000000 in
theorem wH (F : Nat) (a1 : List UInt8) (r2 : List UInt8) (r3 : Bool) (H : iq F a1 = some (r2, r3)) : ACalls Tryz.prog 93 [S a1] [] (Ret (.tup [S r2, B r3]) []) := by
 unfold iq at H
 refine ap Tryz.func93 rfl rfl ?_;show AW _ _ 39 _ _ _;refine af <| aa ?_;show AR _ _ _ _ _ [0, 1] _;refine za rfl <| za rfl <| ag <| af <| af ?_;obtain ⟨x4, e5, H⟩ := ce H;refine aa ?_;show AR _ _ _ _ _ [0, 1, 2, 3, 4, 5, 6, 7] _;refine am rfl rfl (aC rfl yG rfl (vk F x4 e5) ?_);refine zm rfl <| zS rfl (yB ez ai (fun _ => by kernel_rfl) rfl rfl) <| zS rfl (ah (av := .tup _) rfl) <| zS rfl (ay (av := .v _) rfl rfl) <| zS rfl (ay (av := .v _) rfl rfl) <| za rfl <| za rfl <| ag <| af <| aa ?_;show AR _ _ _ _ _ [0] _;refine zm rfl <| ag <| ax rfl (fun c6 => ?_) (fun c6 => ?_)
 ·replace H := aW c6 H;refine af ?_;obtain ⟨x7, e8, H⟩ := bO H;refine aa ?_;show AR _ _ _ _ _ [0, 1, 2, 3] _;refine zm rfl <| zS rfl (oH Tryz.underlying21 ai rfl e8) <| za rfl <| za rfl <| ag <| aG ?_;obtain ⟨rfl, rfl⟩ := dw H;exact And.intro rfl (Exists.intro _ (Exists.intro _ ⟨bm rfl (.refl _) (.refl _), aB [] rfl, rfl, rfl⟩))
 ·replace H := aX c6 H;refine aA <| af <| af ?_;obtain ⟨x9, e10, H⟩ := bO H;refine aa ?_;show AR _ _ _ _ _ [0, 1, 2, 3, 4, 5, 6] _;refine zm rfl <| am rfl rfl (aC rfl tB rfl (show ACalls _ _ _ [] (Ret (.tup [S x9.1, B x9.2]) []) from by subst e10; exact lK a1 ([35, 120] : List UInt8)) ?_);refine zS rfl (ah (av := .tup _) rfl) <| zS rfl (ay (av := .v _) rfl rfl) <| zS rfl (ay (av := .v _) rfl rfl) <| za rfl <| za rfl <| ag <| af <| aa ?_;show AR _ _ _ _ _ [0] _;refine zm rfl <| ag <| ax rfl (fun c11 => ?_) (fun c11 => ?_)
  ·replace H := aW c11 H;refine af ?_;obtain ⟨x12, x13, e14, H⟩ := cD H;refine aa ?_;show AR _ _ _ _ _ [0, 1, 2, 3, 4, 5] _;refine zm rfl <| am rfl rfl (aC rfl tw rfl (pb F x9.1 16 x12 x13 e14) ?_);refine zS rfl (ay (av := .v _) rfl rfl) <| zS rfl (ay (av := .v _) rfl rfl) <| za rfl <| za rfl <| ag <| aG ?_;obtain ⟨rfl, rfl⟩ := dw H;exact And.intro rfl (Exists.intro _ (Exists.intro _ ⟨bm rfl (.refl _) (.refl _), aB [] rfl, rfl, rfl⟩))
  ·replace H := aX c11 H;refine aA <| af <| af ?_;obtain ⟨x15, e16, H⟩ := bO H;refine aa ?_;show AR _ _ _ _ _ [0, 1, 2, 3, 4, 5, 6] _;refine zm rfl <| am rfl rfl (aC rfl tB rfl (show ACalls _ _ _ [] (Ret (.tup [S x15.1, B x15.2]) []) from by subst e16; exact lK a1 ([35] : List UInt8)) ?_);refine zS rfl (ah (av := .tup _) rfl) <| zS rfl (ay (av := .v _) rfl rfl) <| zS rfl (ay (av := .v _) rfl rfl) <| za rfl <| za rfl <| ag <| af <| aa ?_;show AR _ _ _ _ _ [0] _;refine zm rfl <| ag <| ax rfl (fun c17 => ?_) (fun c17 => ?_)
   ·replace H := aW c17 H;refine af ?_;obtain ⟨x18, x19, e20, H⟩ := cD H;refine aa ?_;show AR _ _ _ _ _ [0, 1, 2, 3, 4, 5] _;refine zm rfl <| am rfl rfl (aC rfl tw rfl (pb F x15.1 10 x18 x19 e20) ?_);refine zS rfl (ay (av := .v _) rfl rfl) <| zS rfl (ay (av := .v _) rfl rfl) <| za rfl <| za rfl <| ag <| aG ?_;obtain ⟨rfl, rfl⟩ := dw H;exact And.intro rfl (Exists.intro _ (Exists.intro _ ⟨bm rfl (.refl _) (.refl _), aB [] rfl, rfl, rfl⟩))
   ·replace H := aX c17 H;refine aA <| af <| aa ?_;show AR _ _ _ _ _ [0, 1] _;refine za rfl <| za rfl <| ag <| aG ?_;obtain ⟨rfl, rfl⟩ := dw H;exact And.intro rfl (Exists.intro _ (Exists.intro _ ⟨bm rfl (.refl _) (.refl _), aB [] rfl, rfl, rfl⟩))
set_option maxRecDepth 100000 in
set_option maxHeartbeats 1000000 in
theorem vl (F : Nat) (a1 : List UInt8) (r2 : List UInt8) (r3 : Int) (H : jF F a1 = some (r2, r3)) : ACalls Tryz.prog 82 [S a1] [] (Ret (.tup [S r2, i64 r3]) []) := by
 unfold jF at H
 refine ap Tryz.func82 rfl rfl ?_;show AW _ _ 33 _ _ _;refine af <| aa ?_;show AR _ _ _ _ _ [0, 1] _;refine za rfl <| za rfl <| ag <| af ?_;obtain ⟨g4, H⟩ := aM H;obtain ⟨x5, e6, H⟩ := bO H;obtain ⟨g7, H⟩ := aM H;obtain ⟨g8, H⟩ := aM H;obtain ⟨g9, H⟩ := aM H;obtain ⟨x10, e11, H⟩ := ce H;refine aa ?_;show AR _ _ _ _ _ [0, 1, 2, 3] _;refine zm rfl <| zS rfl (eC ai rfl rfl g4 e6) <| am rfl rfl (aC rfl yI rfl (pg F x5 ([38, 59] : List UInt8) x10 g7 g8 g9 e11) ?_);refine za rfl <| ag <| af <| af ?_;obtain ⟨x12, e13, H⟩ := ce H;obtain ⟨g15, H⟩ := cR H;obtain ⟨g16, H⟩ := cR H;obtain ⟨x17, e18, H⟩ := bO H;refine aa ?_;show AR _ _ _ _ _ [0, 1, 2, 3, 4, 5, 6, 7, 8, 9] _;refine zm rfl <| am rfl rfl (aC rfl nJ rfl (pn F x10 1 10 x12 e13) ?_);refine zS rfl (bG rfl) <| zm rfl <| aY (l := []) 19 (B ((!x12) || (decide (x17 = 38)))) (fun K => ?_) ?_
 ·rcases ak (!x12) with h14 | h14
  ·refine zF h14 rfl <| zF h14 rfl <| zF h14 rfl <| zF h14 rfl <| zF h14 rfl <| zS rfl (aE (av := .v _) rfl h14 rfl) ?_;exact K _ 5 _ (az (kw h14)) rfl rfl
  ·refine zM h14 rfl <| zM h14 rfl <| zU h14 rfl (cM rfl rfl (g15 (nf h14))) <| zU h14 rfl (bu ai rfl rfl (g16 (nf h14)) e18) <| zU h14 rfl (jv (a := x17) (b := 38) rfl rfl) <| zS rfl (aF (av := .v _) rfl h14 rfl) ?_;exact K _ 5 _ (az (kx h14)) rfl rfl
 refine ag <| ax rfl (fun c19 => ?_) (fun c19 => ?_)
 ·replace H := aW c19 H;refine af <| aa ?_;show AR _ _ _ _ _ [0, 1] _;refine za rfl <| za rfl <| ag <| aG ?_;obtain ⟨rfl, rfl⟩ := dw H;exact And.intro rfl (Exists.intro _ (Exists.intro _ ⟨bm rfl (.refl _) (.refl _), aB [] rfl, rfl, rfl⟩))
 ·replace H := aX c19 H;refine aA <| af ?_;obtain ⟨g20, H⟩ := aM H;obtain ⟨g21, H⟩ := aM H;obtain ⟨x22, e23, H⟩ := bO H;obtain ⟨x24, x25, e26, H⟩ := cD H;refine aa ?_;show AR _ _ _ _ _ [0, 1, 2, 3, 4, 5, 6, 7, 8, 9] _;refine zm rfl <| zm rfl <| zS rfl (cM rfl rfl g20) <| zS rfl (jT ai rfl rfl rfl g21 e23) <| am rfl rfl (aC rfl yH rfl (wH F x22 x24 x25 e26) ?_);refine zS rfl (ah (av := .tup _) rfl) <| zS rfl (ay (av := .v _) rfl rfl) <| zS rfl (ay (av := .v _) rfl rfl) <| za rfl <| za rfl <| ag <| af <| af <| aa ?_;show AR _ _ _ _ _ [0, 1] _;refine zm rfl <| zS rfl (bG rfl) <| ag <| ax rfl (fun c27 => ?_) (fun c27 => ?_)
  ·replace H := aW c27 H;refine af <| aa ?_;show AR _ _ _ _ _ [0, 1] _;refine za rfl <| za rfl <| ag <| aG ?_;obtain ⟨rfl, rfl⟩ := dw H;exact And.intro rfl (Exists.intro _ (Exists.intro _ ⟨bm rfl (.refl _) (.refl _), aB [] rfl, rfl, rfl⟩))
  ·replace H := aX c27 H;refine aA <| af ?_;obtain ⟨g28, H⟩ := aM H;refine aa ?_;show AR _ _ _ _ _ [0, 1, 2, 3, 4] _;refine zm rfl <| zm rfl <| zS rfl (cM rfl rfl g28) <| za rfl <| za rfl <| ag <| aG ?_;obtain ⟨rfl, rfl⟩ := dw H;exact And.intro rfl (Exists.intro _ (Exists.intro _ ⟨bm rfl (.refl _) (.refl _), aB [] rfl, rfl, rfl⟩))
set_option maxRecDepth 100000 in
set_option maxHeartbeats 1000000 in
theorem wI (F : Nat) (a1 : List UInt8) (r2 : List UInt8) (r3 : Bool) (H : nE F a1 = some (r2, r3)) : ACalls Tryz.prog 70 [S a1] [] (Ret (.tup [S r2, B r3]) []) := by
 unfold nE at H
 refine ap Tryz.func70 rfl rfl ?_;show AW _ _ 36 _ _ _;refine af <| aa ?_;show AR _ _ _ _ _ [0, 1] _;refine za rfl <| za rfl <| ag <| af <| aa ?_;show AR _ _ _ _ _ [0] _;refine zX rfl (oG (zs := [(.pointer none), .slice none 0 0]) (by kernel_rfl)) ?_;rintro _ _ ⟨o4, rfl, rfl⟩;refine ag ?_
 refine jl 0 1 1 5 rfl rfl fun t5 => ?_
 show AW _ _ _ _ _ ⟨_, _, [.tok t5 5, .obj o4 [.v (.pointer none), slE Enc.byte [] (some t5)], .ty o4 51]⟩;refine af <| aa ?_;show AR _ _ _ _ _ [0] _;refine za rfl <| ag <| aR <| de (X := Nat × (List UInt8) × Bool × AV × (List UInt8) × Nat) (fun (n12, y6, y7, t8, y9, t10) => ⟨[(0, S y6), (4, .pt o4 0), (5, B y7)], [], [.obj o4 [t8, slE Enc.byte y9 (some t10)], .ty o4 51, .tok t10 5]⟩) (fun (n12, y6, y7, t8, y9, t10) => eR F n12 (y6, y7, y9) = some (r2, r3) ∧ (t8 = .v (.pointer none) ∨ t8 = .pt o4 0)) (fun (n12, y6, y7, t8, y9, t10) => n12) (F, a1, true, (.v (.pointer none)), [], t5) ⟨H, .inl rfl⟩ (bc [1, 1, 0] (.cons (.refl _) (.cons (.refl _) (.cons (.refl _) (.nil _)))) rfl) ?_;rintro ⟨n12, y6, y7, t8, y9, t10⟩ ⟨H, ht8⟩;obtain ⟨n12, rfl, H⟩ := fa H;replace H : gy F (eR F n12) y6 y7 y9 = some (r2, r3) := H
 unfold gy at H
 refine aR <| af ?_;obtain ⟨x13, e14, H⟩ := bO H;refine aa ?_;show AR _ _ _ _ _ [0, 1, 2] _;refine zm rfl <| am rfl rfl (aC rfl yV rfl (show ACalls _ _ _ [] (Ret (i64 x13) []) from by subst e14; exact eW y6 38) ?_);refine za rfl <| ag <| af <| af <| aa ?_;show AR _ _ _ _ _ [0, 1] _;refine zm rfl <| zS rfl (bZ rfl rfl) <| ag <| ax rfl (fun c15 => ?_) (fun c15 => ?_)
 ·replace H := aW c15 H;refine af ?_;obtain ⟨g16, H⟩ := aM H;obtain ⟨x17, e18, H⟩ := bO H;refine aa ?_;show AR _ _ _ _ _ [0, 1] _;refine zm rfl <| am rfl rfl (aQ [0, 0, 0] rfl pW rfl (cy  o4 (t8) ht8 y9 y6 t10 (wy g16)) rfl (fun c A' h => by cases h.1) ?_)
  rintro av A' ⟨h, t19, rfl⟩; cases h
  rw [e18]
  refine ag <| af ?_;obtain ⟨g20, H⟩ := aM H;refine aa ?_;show AR _ _ _ _ _ [0, 1, 2, 3] _;refine am rfl rfl (aQ [0, 1] rfl yZ rfl (ku  o4 (.pt o4 0) x17 t19 (okW0_s g20)) rfl (fun c A' h => by cases h.1) ?_)
  rintro av A' ⟨h, rfl⟩; cases h
  refine zm rfl <| za rfl <| za rfl <| ag <| aG ?_;obtain ⟨rfl, rfl⟩ := dw H;exact And.intro rfl (Exists.intro _ (Exists.intro _ ⟨bm rfl (.refl _) (.refl _), aB [] rfl, rfl, rfl⟩))
 ·replace H := aX c15 H;refine aA <| af ?_;obtain ⟨g21, H⟩ := aM H;obtain ⟨x22, e23, H⟩ := bO H;obtain ⟨g24, H⟩ := aM H;obtain ⟨x25, e26, H⟩ := bO H;refine aa ?_;show AR _ _ _ _ _ [0, 1, 2, 3] _;refine zm rfl <| zm rfl <| zS rfl (lj ai rfl rfl g21 e23) <| am rfl rfl (aQ [0, 0, 0] rfl pW rfl (cy  o4 (t8) ht8 y9 x22 t10 (wy g24)) rfl (fun c A' h => by cases h.1) ?_)
  rintro av A' ⟨h, t27, rfl⟩; cases h
  rw [e26]
  refine ag <| af ?_;obtain ⟨g28, H⟩ := aM H;obtain ⟨x29, e30, H⟩ := bO H;refine aa ?_;show AR _ _ _ _ _ [0, 1, 2, 3] _;refine zm rfl <| zm rfl <| zS rfl (eC ai rfl rfl g28 e30) <| za rfl <| ag <| af ?_;obtain ⟨x31, x32, e33, H⟩ := cD H;refine aa ?_;show AR _ _ _ _ _ [0, 1, 2, 3, 4, 5, 6] _;refine zm rfl <| am rfl rfl (aC rfl yJ rfl (vl F x29 x31 x32 e33) ?_);refine zS rfl (ah (av := .tup _) rfl) <| zS rfl (ay (av := .v _) rfl rfl) <| zS rfl (ay (av := .v _) rfl rfl) <| za rfl <| za rfl <| ag <| bJ (X := Bool × (List UInt8) × Int) (fun (y35, y36, y37) => ⟨[(0, S x29), (4, .pt o4 0), (5, B y35), (7, S y36), (8, i64 y37)], [], [.obj o4 [.pt o4 0, slE Enc.byte x25 (some t27)], .ty o4 51, .tok t27 5]⟩) (fun (y35, y36, y37) => gx (eR F n12) x25 x29 y35 y36 y37 = some (r2, r3)) ?_ ?_
  ·refine af <| aa ?_;show AR _ _ _ _ _ [0, 1] _;refine zm rfl <| zS rfl (bL rfl rfl) <| ag <| ax rfl (fun c34 => ?_) (fun c34 => ?_)
   ·replace H := aW c34 H;refine aa ?_;show AR _ _ _ _ _ [0, 1, 2] _;refine za rfl <| za rfl <| za rfl <| ag ?_;exact Exists.intro (false, ([38] : List UInt8), 1) ⟨H, bc [0, 0, 0] (.cons (.refl _) (.cons (.refl _) (.cons (.refl _) (.cons (.refl _) (.cons (.refl _) (.nil _)))))) rfl⟩
   ·replace H := aX c34 H;refine aA ?_;exact Exists.intro (y7, x31, x32) ⟨H, bc [0, 0, 0] (.cons (.refl _) (.cons (.refl _) (.cons (.refl _) (.cons (.refl _) (.cons (.refl _) (.nil _)))))) rfl⟩
  rintro ⟨y35, y36, y37⟩ H;replace H : gx (eR F n12) x25 x29 y35 y36 y37 = some (r2, r3) := H
  unfold gx at H
  refine af ?_;obtain ⟨g39, H⟩ := aM H;obtain ⟨x40, e41, H⟩ := bO H;refine aa ?_;show AR _ _ _ _ _ [0, 1] _;refine zm rfl <| am rfl rfl (aQ [0, 0, 0] rfl pW rfl (cy  o4 (.pt o4 0) (.inr rfl) x25 y36 t27 (wy g39)) rfl (fun c A' h => by cases h.1) ?_)
  rintro av A' ⟨h, t42, rfl⟩; cases h
  rw [e41]
  refine ag ?_;obtain ⟨g43, H⟩ := aM H;obtain ⟨x44, e45, H⟩ := bO H;refine aa ?_;show AR _ _ _ _ _ [0, 1, 2, 3] _;refine zm rfl <| zm rfl <| zS rfl (eC ai rfl rfl g43 e45) <| za rfl <| ag ?_;exact Exists.intro (n12, x44, y35, (.pt o4 0), x40, t42) ⟨⟨H, .inr rfl⟩, Nat.lt_succ_self _, bc [0, 0, 0] (.cons (.refl _) (.cons (.refl _) (.cons (.refl _) (.nil _)))) rfl⟩
set_option maxRecDepth 100000 in
set_option maxHeartbeats 1000000 in
theorem uo (F : Nat) (a1 : List UInt8) (r2 : List UInt8) (r3 : Int) (H : ld F a1 = some (r2, r3)) : ACalls Tryz.prog 60 [S a1] [] (Ret (.tup [S r2, i64 r3]) []) := by
 unfold ld at H
 refine ap Tryz.func60 rfl rfl ?_;show AW _ _ 14 _ _ _;refine af <| aa ?_;show AR _ _ _ _ _ [0, 1] _;refine za rfl <| za rfl <| ag <| af ?_;obtain ⟨x4, x5, e6, H⟩ := cD H;refine aa ?_;show AR _ _ _ _ _ [0, 1, 2, 3, 4, 5, 6] _;refine zm rfl <| am rfl rfl (aC rfl yM rfl (wI F a1 x4 x5 e6) ?_);refine zS rfl (ah (av := .tup _) rfl) <| zS rfl (ay (av := .v _) rfl rfl) <| zS rfl (ay (av := .v _) rfl rfl) <| za rfl <| za rfl <| ag <| af <| af <| aa ?_;show AR _ _ _ _ _ [0, 1] _;refine zm rfl <| zS rfl (bG rfl) <| ag <| ax rfl (fun c7 => ?_) (fun c7 => ?_)
 ·replace H := aW c7 H;refine af <| aa ?_;show AR _ _ _ _ _ [0, 1] _;refine za rfl <| za rfl <| ag <| aG ?_;obtain ⟨rfl, rfl⟩ := dw H;exact And.intro rfl (Exists.intro _ (Exists.intro _ ⟨bm rfl (.refl _) (.refl _), aB [] rfl, rfl, rfl⟩))
 ·replace H := aX c7 H;refine aA <| af <| aa ?_;show AR _ _ _ _ _ [0, 1, 2] _;refine zm rfl <| za rfl <| za rfl <| ag <| aG ?_;obtain ⟨rfl, rfl⟩ := dw H;exact And.intro rfl (Exists.intro _ (Exists.intro _ ⟨bm rfl (.refl _) (.refl _), aB [] rfl, rfl, rfl⟩))
end Go.Proofs.YtkbfjepffpddfaaGreatDoor
namespace Go.Pv
def xmla_k1 : List UInt8 := [65, 66, 67, 68, 69, 70, 71, 72, 73, 74, 75, 76, 77, 78, 79, 80, 81, 82, 83, 84, 85, 86, 87, 88, 89, 90, 97, 98, 99, 100, 101, 102, 103, 104, 105, 106, 107, 108, 109, 110, 111, 112, 113, 114, 115, 116, 117, 118, 119, 120, 121, 122, 95, 48, 49, 50, 51, 52, 53, 54, 55, 56, 57, 45, 46, 58]
def xmla_k2 : List UInt8 := [65, 66, 67, 68, 69, 70, 71, 72, 73, 74, 75, 76, 77, 78, 79, 80, 81, 82, 83, 84, 85, 86, 87, 88, 89, 90, 97, 98, 99, 100, 101, 102, 103, 104, 105, 106, 107, 108, 109, 110, 111, 112, 113, 114, 115, 116, 117, 118, 119, 120, 121, 122, 95]
def lw : Option Bool :=
some true
def jR (a1 : List UInt8) (rec4 : Int → Option Bool) (y3 : Int) : Option Bool :=
bif decide (y3 < (a1.length : Int)) then
  grd (dx y3 a1.length) <|
  lt (at_ a1 y3) fun x8 =>
  lt (Go.Lib.indexByte xmla_k1 x8) fun x10 =>
  bif decide (x10 < 0) then
    some false
  else
    grd (okI (y3 + 1)) <|
    rec4 (y3 + 1)
else
  lw
def jQ (a1 : List UInt8) (n : Nat) : Int → Option Bool :=
  loop (fun rec x => jR a1 rec x) n
def pk (F : Nat) (a1 : List UInt8) : Option Bool :=
jQ a1 F 0
def px (F : Nat) (a1 : List UInt8) : Option Bool :=
fv ((!decide (a1 = ([] : List UInt8))) && (decide ((a1.length : Int) ≤ 60))) (ky 1 a1.length) <|
lt (to_ a1 1) fun x6 =>
fv ((!decide (a1 = ([] : List UInt8))) && (decide ((a1.length : Int) ≤ 60))) (okS xmla_k2.length) <|
lt (Go.Lib.contains xmla_k2 x6) fun x9 =>
fv (((!decide (a1 = ([] : List UInt8))) && (decide ((a1.length : Int) ≤ 60))) && x9) (okS a1.length) <|
fv (((!decide (a1 = ([] : List UInt8))) && (decide ((a1.length : Int) ≤ 60))) && x9) (okS xmla_k1.length) <|
fv (((!decide (a1 = ([] : List UInt8))) && (decide ((a1.length : Int) ≤ 60))) && x9) (iX xmla_k1) <|
lt (Go.Lib.trimS a1 xmla_k1) fun x15 =>
ls ((((!decide (a1 = ([] : List UInt8))) && (decide ((a1.length : Int) ≤ 60))) && x9) && (decide (x15 = ([] : List UInt8)))) (pk F a1) fun x18 =>
some (((((!decide (a1 = ([] : List UInt8))) && (decide ((a1.length : Int) ≤ 60))) && x9) && (decide (x15 = ([] : List UInt8)))) && x18)
def cF (F : Nat) (a1 : Bool) : Option (Res Unit) :=
bif !a1 then
  some (Res.pan 2)
else
  some (Res.ok ())
def fi (F : Nat) (a2 : List UInt8) (a3 : List (List UInt8)) (a5 : Int) (a6 : List (Int × (List UInt8) × (List UInt8) × List ((List UInt8) × List UInt8))) (a8 : List UInt8) : Option (Bool × (List UInt8)) :=
lt (Go.Lib.trimPrefix a2 a8, Go.Lib.hasPrefix a2 a8) fun x11 =>
some (x11.2, x11.1)
def iE (F : Nat) (a2 : List UInt8) (a3 : List (List UInt8)) (a5 : Int) (a6 : List (Int × (List UInt8) × (List UInt8) × List ((List UInt8) × List UInt8))) (a8 : List UInt8) : Option (Res ((List UInt8) × (List UInt8))) :=
grd (okS a2.length) <|
lt (Go.Lib.cut a2 a8) fun x12 =>
eE (cF F x12.2.2) fun x14 =>
some (Res.ok (x12.1, x12.2.1))
def kI (F : Nat) (a2 : List UInt8) (a3 : List (List UInt8)) (a5 : Int) (a6 : List (Int × (List UInt8) × (List UInt8) × List ((List UInt8) × List UInt8))) : Option (Bool × (List UInt8)) :=
grd (okS ([9, 10, 13, 32] : List UInt8).length) <|
grd (iX ([9, 10, 13, 32] : List UInt8)) <|
lt (Go.Lib.trimLeftS a2 ([9, 10, 13, 32] : List UInt8)) fun x12 =>
some (decide ((x12.length : Int) < (a2.length : Int)), x12)
def jw (F : Nat) (a2 : List UInt8) (y21 : Int) : Option (Res ((List UInt8) × (List UInt8))) :=
grd (ky y21 a2.length) <|
lt (to_ a2 y21) fun x24 =>
bnd (px F x24) fun x26 =>
eE (cF F x26) fun x28 =>
grd (ky y21 a2.length) <|
lt (cY a2 y21) fun x32 =>
some (Res.ok (x24, x32))
def kU (F : Nat) (a2 : List UInt8) (rec11 : Int → Option (Res ((List UInt8) × (List UInt8)))) (y10 : Int) : Option (Res ((List UInt8) × (List UInt8))) :=
fv (decide (y10 < (a2.length : Int))) (dx y10 a2.length) <|
lt (at_ a2 y10) fun x15 =>
lt (Go.Lib.indexByte xmla_k1 x15) fun x17 =>
bif (decide (y10 < (a2.length : Int))) && (decide (0 ≤ x17)) then
  grd (okI (y10 + 1)) <|
  rec11 (y10 + 1)
else
  jw F a2 y10
def kT (F : Nat) (a2 : List UInt8) (n : Nat) : Int → Option (Res ((List UInt8) × (List UInt8))) :=
  loop (fun rec x => kU F a2 rec x) n
def lP (F : Nat) (a2 : List UInt8) (a3 : List (List UInt8)) (a5 : Int) (a6 : List (Int × (List UInt8) × (List UInt8) × List ((List UInt8) × List UInt8))) : Option (Res ((List UInt8) × (List UInt8))) :=
kT F a2 F 0
def iQ (F : Nat) (a1 : List UInt8) : Option (Res ((List UInt8))) :=
fw (ld F a1) fun x3 x4 =>
eE (cF F (decide (x4 = 0))) fun x6 =>
some (Res.ok x3)
def nV (F : Nat) (a2 : List UInt8) (a3 : List (List UInt8)) (a5 : Int) (a6 : List (Int × (List UInt8) × (List UInt8) × List ((List UInt8) × List UInt8))) (a8 : List UInt8) : Option ((List (Int × (List UInt8) × (List UInt8) × List ((List UInt8) × List UInt8)))) :=
bif !decide (a8 = ([] : List UInt8)) then
  grd (fF (a6.length + ([(2, ([] : List UInt8), a8, ([] : List ((List UInt8) × List UInt8)))] : List (Int × (List UInt8) × (List UInt8) × List ((List UInt8) × List UInt8))).length)) <|
  lt (a6 ++ ([(2, ([] : List UInt8), a8, ([] : List ((List UInt8) × List UInt8)))] : List (Int × (List UInt8) × (List UInt8) × List ((List UInt8) × List UInt8)))) fun x14 =>
  some x14
else
  some a6
def lO (F : Nat) (a2 : List UInt8) (a3 : List (List UInt8)) (a5 : Int) (a6 : List (Int × (List UInt8) × (List UInt8) × List ((List UInt8) × List UInt8))) (a8 : List UInt8) : Option (Res ((List (Int × (List UInt8) × (List UInt8) × List ((List UInt8) × List UInt8))) × (List (List UInt8)))) :=
grd (okI ((a3.length : Int) - 1)) <|
fv (decide (0 ≤ (a3.length : Int) - 1)) (dx ((a3.length : Int) - 1) a3.length) <|
fv (decide (0 ≤ (a3.length : Int) - 1)) (dx ((a3.length : Int) - 1) a3.length) <|
lt (at_ a3 ((a3.length : Int) - 1)) fun x17 =>
eE (cF F ((decide (0 ≤ (a3.length : Int) - 1)) && (decide (x17 = a8)))) fun x19 =>
grd (ky ((a3.length : Int) - 1) a3.length) <|
lt (to_ a3 ((a3.length : Int) - 1)) fun x23 =>
grd (fF (a6.length + ([(1, a8, ([] : List UInt8), ([] : List ((List UInt8) × List UInt8)))] : List (Int × (List UInt8) × (List UInt8) × List ((List UInt8) × List UInt8))).length)) <|
lt (a6 ++ ([(1, a8, ([] : List UInt8), ([] : List ((List UInt8) × List UInt8)))] : List (Int × (List UInt8) × (List UInt8) × List ((List UInt8) × List UInt8)))) fun x27 =>
some (Res.ok (x27, x23))
def fG (F : Nat) (a2 : List UInt8) (a3 : List (List UInt8)) (a5 : Int) (a6 : List (Int × (List UInt8) × (List UInt8) × List ((List UInt8) × List UInt8))) (y15 : Int) : Option (Res (Bool × (List UInt8) × (List (Int × (List UInt8) × (List UInt8) × List ((List UInt8) × List UInt8))))) :=
bif decide (y15 = 0) then
  some (Res.ok (false, a2, a6))
else
  grd (ky y15 a2.length) <|
  lt (to_ a2 y15) fun x19 =>
  grd (ky y15 a2.length) <|
  lt (cY a2 y15) fun x22 =>
  eE (iQ F x19) fun x24 =>
  bif decide ((a3.length : Int) = 0) then
    bnd (mq F x19) fun x28 =>
    eE (cF F (decide (x28 = ([] : List UInt8)))) fun x30 =>
    some (Res.ok (true, x22, a6))
  else
    bnd (nV F x22 a3 a5 a6 x24) fun x33 =>
    some (Res.ok (true, x22, x33))
def jm (F : Nat) (a2 : List UInt8) (a3 : List (List UInt8)) (a5 : Int) (a6 : List (Int × (List UInt8) × (List UInt8) × List ((List UInt8) × List UInt8))) : Option (Res (Bool × (List UInt8) × (List (Int × (List UInt8) × (List UInt8) × List ((List UInt8) × List UInt8))))) :=
lt (Go.Lib.indexByte a2 60) fun x12 =>
bif decide (x12 < 0) then
  fG F a2 a3 a5 a6 (a2.length : Int)
else
  fG F a2 a3 a5 a6 x12
def jx (F : Nat) (a2 : List UInt8) (a3 : List (List UInt8)) (a5 : Int) (a6 : List (Int × (List UInt8) × (List UInt8) × List ((List UInt8) × List UInt8))) : Option (Res (Bool × (List UInt8))) :=
fw (fi F a2 a3 a5 a6 ([60, 33, 45, 45] : List UInt8)) fun x10 x11 =>
bif !x10 then
  some (Res.ok (false, x11))
else
  eE (iE F x11 a3 a5 a6 ([45, 45, 62] : List UInt8)) fun x14 =>
  some (Res.ok (true, x14.2))
def qy (F : Nat) (a2 : List UInt8) (a3 : List (List UInt8)) (a5 : Int) (a6 : List (Int × (List UInt8) × (List UInt8) × List ((List UInt8) × List UInt8))) : Option (Res (Bool × (List UInt8))) :=
fw (fi F a2 a3 a5 a6 ([60, 63] : List UInt8)) fun x10 x11 =>
bif !x10 then
  some (Res.ok (false, x11))
else
  eE (iE F x11 a3 a5 a6 ([63, 62] : List UInt8)) fun x14 =>
  some (Res.ok (true, x14.2))
def lQ (F : Nat) (a2 : List UInt8) (a3 : List (List UInt8)) (a5 : Int) (a6 : List (Int × (List UInt8) × (List UInt8) × List ((List UInt8) × List UInt8))) : Option (Res (Bool × (List UInt8) × (List (Int × (List UInt8) × (List UInt8) × List ((List UInt8) × List UInt8))))) :=
fw (fi F a2 a3 a5 a6 ([60, 33, 91, 67, 68, 65, 84, 65, 91] : List UInt8)) fun x12 x13 =>
bif !x12 then
  some (Res.ok (false, x13, a6))
else
  eE (iE F x13 a3 a5 a6 ([93, 93, 62] : List UInt8)) fun x16 =>
  eE (cF F (decide (0 < (a3.length : Int)))) fun x19 =>
  bnd (nV F x16.2 a3 a5 a6 x16.1) fun x22 =>
  some (Res.ok (true, x16.2, x22))
def qx (F : Nat) (a2 : List UInt8) (a3 : List (List UInt8)) (a5 : Int) (a6 : List (Int × (List UInt8) × (List UInt8) × List ((List UInt8) × List UInt8))) : Option (Res (Bool × (List UInt8))) :=
fw (fi F a2 a3 a5 a6 ([60, 33] : List UInt8)) fun x10 x11 =>
bif !x10 then
  some (Res.ok (false, x11))
else
  eE (iE F x11 a3 a5 a6 ([62] : List UInt8)) fun x14 =>
  some (Res.ok (true, x14.2))
def iP (F : Nat) (a2 : List UInt8) (a3 : List (List UInt8)) (a5 : Int) (a6 : List (Int × (List UInt8) × (List UInt8) × List ((List UInt8) × List UInt8))) : Option (Res (Bool × (List UInt8) × (List (Int × (List UInt8) × (List UInt8) × List ((List UInt8) × List UInt8))) × (List (List UInt8)))) :=
fw (fi F a2 a3 a5 a6 ([60, 47] : List UInt8)) fun x14 x15 =>
bif !x14 then
  some (Res.ok (false, x15, a6, a3))
else
  eE (lP F x15 a3 a5 a6) fun x18 =>
  fw (kI F x18.2 a3 a5 a6) fun x21 x22 =>
  fw (fi F x22 a3 a5 a6 ([62] : List UInt8)) fun x24 x25 =>
  eE (cF F x24) fun x27 =>
  eE (lO F x25 a3 a5 a6 x18.1) fun x30 =>
  some (Res.ok (true, x25, x30.1, x30.2))
def iv (F : Nat) (a3 : List (List UInt8)) (a5 : Int) (a6 : List (Int × (List UInt8) × (List UInt8) × List ((List UInt8) × List UInt8))) (x12 : (List UInt8) × (List UInt8)) (y26 : List UInt8) (y27 : List UInt8) : Option (Res ((List UInt8) × (List UInt8) × (List UInt8))) :=
eE (iE F y27 a3 a5 a6 y26) fun x29 =>
grd (okS x29.1.length) <|
lt (Go.Lib.contains x29.1 ([60] : List UInt8)) fun x33 =>
eE (cF F (!x33)) fun x35 =>
eE (iQ F x29.1) fun x38 =>
some (Res.ok (x12.1, x38, x29.2))
def mP (F : Nat) (a2 : List UInt8) (a3 : List (List UInt8)) (a5 : Int) (a6 : List (Int × (List UInt8) × (List UInt8) × List ((List UInt8) × List UInt8))) : Option (Res ((List UInt8) × (List UInt8) × (List UInt8))) :=
eE (lP F a2 a3 a5 a6) fun x12 =>
fw (fi F x12.2 a3 a5 a6 ([61, 34] : List UInt8)) fun x16 x17 =>
bif !x16 then
  fw (fi F x17 a3 a5 a6 ([61, 39] : List UInt8)) fun x20 x21 =>
  eE (cF F x20) fun x23 =>
  iv F a3 a5 a6 x12 ([39] : List UInt8) x21
else
  iv F a3 a5 a6 x12 ([34] : List UInt8) x17
def pm (F : Nat) (a1 : List UInt8) (a2 : List UInt8) (a4 : List UInt8) (a5 : List UInt8) : Option Bool :=
some (decide (a4 = a1))
def ic : Option Int :=
some (-1)
def fQ (F : Nat) (a1 : List ((List UInt8) × List UInt8)) (a4 : List UInt8) (a5 : List UInt8) (rec8 : Int → Option Int) (y7 : Int) : Option Int :=
bif decide (y7 < (a1.length : Int)) then
  grd (dx y7 a1.length) <|
  lt (at_ a1 y7) fun x12 =>
  bnd (pm F x12.1 x12.2 a4 a5) fun x14 =>
  bif x14 then
    some y7
  else
    grd (okI (y7 + 1)) <|
    rec8 (y7 + 1)
else
  ic
def eF (F : Nat) (a1 : List ((List UInt8) × List UInt8)) (a4 : List UInt8) (a5 : List UInt8) (n : Nat) : Int → Option Int :=
  loop (fun rec x => fQ F a1 a4 a5 rec x) n
def kB (F : Nat) (a1 : List ((List UInt8) × List UInt8)) (a4 : List UInt8) (a5 : List UInt8) : Option Int :=
eF F a1 a4 a5 F 0
def fR (F : Nat) (a1 : List ((List UInt8) × List UInt8)) (a4 : List UInt8) (a5 : List UInt8) : Option Bool :=
bnd (kB F a1 a4 a5) fun x7 =>
some (decide (0 ≤ x7))
def fY (y57 : List UInt8) (y66 : Int) (y97 : List (List UInt8)) (y98 : List (Int × (List UInt8) × (List UInt8) × List ((List UInt8) × List UInt8))) : Option (Res (Bool × (List UInt8) × Int × (List (Int × (List UInt8) × (List UInt8) × List ((List UInt8) × List UInt8))) × (List (List UInt8)))) :=
some (Res.ok (true, y57, y66, y98, y97))
def gS (F : Nat) (x19 : (List UInt8) × (List UInt8)) (y56 : Bool) (y57 : List UInt8) (y66 : Int) (y79 : List (List UInt8)) (y87 : List (Int × (List UInt8) × (List UInt8) × List ((List UInt8) × List UInt8))) : Option (Res (Bool × (List UInt8) × Int × (List (Int × (List UInt8) × (List UInt8) × List ((List UInt8) × List UInt8))) × (List (List UInt8)))) :=
bif y56 then
  eE (lO F y57 y79 y66 y87 x19.1) fun x91 =>
  fY y57 y66 x91.2 x91.1
else
  fY y57 y66 y79 y87
def gR (F : Nat) (a6 : List (Int × (List UInt8) × (List UInt8) × List ((List UInt8) × List UInt8))) (x19 : (List UInt8) × (List UInt8)) (y56 : Bool) (y57 : List UInt8) (y58 : List ((List UInt8) × List UInt8)) (y66 : Int) (y79 : List (List UInt8)) : Option (Res (Bool × (List UInt8) × Int × (List (Int × (List UInt8) × (List UInt8) × List ((List UInt8) × List UInt8))) × (List (List UInt8)))) :=
grd (fF (a6.length + ([(0, x19.1, ([] : List UInt8), y58)] : List (Int × (List UInt8) × (List UInt8) × List ((List UInt8) × List UInt8))).length)) <|
lt (a6 ++ ([(0, x19.1, ([] : List UInt8), y58)] : List (Int × (List UInt8) × (List UInt8) × List ((List UInt8) × List UInt8)))) fun x83 =>
gS F x19 y56 y57 y66 y79 x83
def gQ (F : Nat) (a6 : List (Int × (List UInt8) × (List UInt8) × List ((List UInt8) × List UInt8))) (x19 : (List UInt8) × (List UInt8)) (y56 : Bool) (y57 : List UInt8) (y58 : List ((List UInt8) × List UInt8)) (y66 : Int) (y75 : List (List UInt8)) : Option (Res (Bool × (List UInt8) × Int × (List (Int × (List UInt8) × (List UInt8) × List ((List UInt8) × List UInt8))) × (List (List UInt8)))) :=
bif decide (20 < (y75.length : Int)) then
  some (Res.pan 5)
else
  gR F a6 x19 y56 y57 y58 y66 y75
def eV (F : Nat) (a3 : List (List UInt8)) (a6 : List (Int × (List UInt8) × (List UInt8) × List ((List UInt8) × List UInt8))) (x19 : (List UInt8) × (List UInt8)) (y56 : Bool) (y57 : List UInt8) (y58 : List ((List UInt8) × List UInt8)) (y66 : Int) : Option (Res (Bool × (List UInt8) × Int × (List (Int × (List UInt8) × (List UInt8) × List ((List UInt8) × List UInt8))) × (List (List UInt8)))) :=
grd (fF (a3.length + ([x19.1] : List (List UInt8)).length)) <|
lt (a3 ++ ([x19.1] : List (List UInt8))) fun x69 =>
gQ F a6 x19 y56 y57 y58 y66 x69
def eU (F : Nat) (a3 : List (List UInt8)) (a5 : Int) (a6 : List (Int × (List UInt8) × (List UInt8) × List ((List UInt8) × List UInt8))) (x19 : (List UInt8) × (List UInt8)) (y56 : Bool) (y57 : List UInt8) (y58 : List ((List UInt8) × List UInt8)) : Option (Res (Bool × (List UInt8) × Int × (List (Int × (List UInt8) × (List UInt8) × List ((List UInt8) × List UInt8))) × (List (List UInt8)))) :=
bif decide ((a3.length : Int) = 0) then
  grd (okI (a5 + 1)) <|
  eE (cF F (decide (a5 + 1 = 1))) fun x63 =>
  eV F a3 a6 x19 y56 y57 y58 (a5 + 1)
else
  eV F a3 a6 x19 y56 y57 y58 a5
def gW (F : Nat) (a3 : List (List UInt8)) (a5 : Int) (a6 : List (Int × (List UInt8) × (List UInt8) × List ((List UInt8) × List UInt8))) (x19 : (List UInt8) × (List UInt8)) (rec27 : ((List ((List UInt8) × List UInt8)) × (List UInt8)) → Option (Res (Bool × (List UInt8) × Int × (List (Int × (List UInt8) × (List UInt8) × List ((List UInt8) × List UInt8))) × (List (List UInt8))))) (y24 : List ((List UInt8) × List UInt8)) (y26 : List UInt8) : Option (Res (Bool × (List UInt8) × Int × (List (Int × (List UInt8) × (List UInt8) × List ((List UInt8) × List UInt8))) × (List (List UInt8)))) :=
fw (kI F y26 a3 a5 a6) fun x29 x30 =>
fw (fi F x30 a3 a5 a6 ([62] : List UInt8)) fun x32 x33 =>
bif x32 then
  eU F a3 a5 a6 x19 false x33 y24
else
  fw (fi F x33 a3 a5 a6 ([47, 62] : List UInt8)) fun x36 x37 =>
  bif x36 then
    eU F a3 a5 a6 x19 true x37 y24
  else
    eE (cF F x29) fun x40 =>
    eE (mP F x37 a3 a5 a6) fun x43 =>
    bnd (fR F y24 x43.1 x43.2.1) fun x47 =>
    eE (cF F (!x47)) fun x49 =>
    grd (fF (y24.length + ([(x43.1, x43.2.1)] : List ((List UInt8) × List UInt8)).length)) <|
    lt (y24 ++ ([(x43.1, x43.2.1)] : List ((List UInt8) × List UInt8))) fun x54 =>
    rec27 (x54, x43.2.2)
def gV (F : Nat) (a3 : List (List UInt8)) (a5 : Int) (a6 : List (Int × (List UInt8) × (List UInt8) × List ((List UInt8) × List UInt8))) (x19 : (List UInt8) × (List UInt8)) (n : Nat) : ((List ((List UInt8) × List UInt8)) × (List UInt8)) → Option (Res (Bool × (List UInt8) × Int × (List (Int × (List UInt8) × (List UInt8) × List ((List UInt8) × List UInt8))) × (List (List UInt8)))) :=
  loop (fun rec x => gW F a3 a5 a6 x19 rec x.1 x.2) n
def iu (F : Nat) (a2 : List UInt8) (a3 : List (List UInt8)) (a5 : Int) (a6 : List (Int × (List UInt8) × (List UInt8) × List ((List UInt8) × List UInt8))) : Option (Res (Bool × (List UInt8) × Int × (List (Int × (List UInt8) × (List UInt8) × List ((List UInt8) × List UInt8))) × (List (List UInt8)))) :=
fw (fi F a2 a3 a5 a6 ([60] : List UInt8)) fun x15 x16 =>
bif !x15 then
  some (Res.ok (false, x16, a5, a6, a3))
else
  eE (lP F x16 a3 a5 a6) fun x19 =>
  gV F a3 a5 a6 x19 F ([], x19.2)
def mO (F : Nat) (a2 : List UInt8) (a3 : List (List UInt8)) (a5 : Int) (a6 : List (Int × (List UInt8) × (List UInt8) × List ((List UInt8) × List UInt8))) : Option (Res ((List UInt8) × Int × (List (Int × (List UInt8) × (List UInt8) × List ((List UInt8) × List UInt8))) × (List (List UInt8)))) :=
eE (jm F a2 a3 a5 a6) fun x14 =>
bif x14.1 then
  some (Res.ok (x14.2.1, a5, x14.2.2, a3))
else
  eE (jx F x14.2.1 a3 a5 x14.2.2) fun x19 =>
  bif x19.1 then
    some (Res.ok (x19.2, a5, x14.2.2, a3))
  else
    eE (qy F x19.2 a3 a5 x14.2.2) fun x23 =>
    bif x23.1 then
      some (Res.ok (x23.2, a5, x14.2.2, a3))
    else
      eE (lQ F x23.2 a3 a5 x14.2.2) fun x27 =>
      bif x27.1 then
        some (Res.ok (x27.2.1, a5, x27.2.2, a3))
      else
        eE (qx F x27.2.1 a3 a5 x27.2.2) fun x32 =>
        bif x32.1 then
          some (Res.ok (x32.2, a5, x27.2.2, a3))
        else
          eE (iP F x32.2 a3 a5 x27.2.2) fun x36 =>
          bif x36.1 then
            some (Res.ok (x36.2.1, a5, x36.2.2.1, x36.2.2.2))
          else
            eE (iu F x36.2.1 x36.2.2.2 a5 x36.2.2.1) fun x42 =>
            bif x42.1 then
              some (Res.ok (x42.2.1, x42.2.2.1, x42.2.2.2.1, x42.2.2.2.2))
            else
              some (Res.ok (x42.2.1, x42.2.2.1, x42.2.2.2.1, x42.2.2.2.2))
def jc (F : Nat) (y26 : List UInt8) (y28 : List (List UInt8)) (y29 : Int) (y30 : List (Int × (List UInt8) × (List UInt8) × List ((List UInt8) × List UInt8))) : Option ((List (Int × (List UInt8) × (List UInt8) × List ((List UInt8) × List UInt8))) × Int) :=
qS (cF F ((decide ((y28.length : Int) = 0)) && (decide (0 < y29)))) (fun p36 =>
  some ([], p36)) fun x34 =>
some (y30, 0)
def je (F : Nat) (rec17 : ((List UInt8) × (List (List UInt8)) × Int × (List (Int × (List UInt8) × (List UInt8) × List ((List UInt8) × List UInt8)))) → Option ((List (Int × (List UInt8) × (List UInt8) × List ((List UInt8) × List UInt8))) × Int)) (y11 : List UInt8) (y13 : List (List UInt8)) (y14 : Int) (y15 : List (Int × (List UInt8) × (List UInt8) × List ((List UInt8) × List UInt8))) : Option ((List (Int × (List UInt8) × (List UInt8) × List ((List UInt8) × List UInt8))) × Int) :=
bif !decide (y11 = ([] : List UInt8)) then
  qS (mO F y11 y13 y14 y15) (fun p22 =>
    some ([], p22)) fun x20 =>
  rec17 (x20.1, x20.2.2.2, x20.2.1, x20.2.2.1)
else
  jc F y11 y13 y14 y15
def jd (F : Nat) (n : Nat) : ((List UInt8) × (List (List UInt8)) × Int × (List (Int × (List UInt8) × (List UInt8) × List ((List UInt8) × List UInt8)))) → Option ((List (Int × (List UInt8) × (List UInt8) × List ((List UInt8) × List UInt8))) × Int) :=
  loop (fun rec x => je F rec x.1 x.2.1 x.2.2.1 x.2.2.2) n
def mh (F : Nat) (a1 : List UInt8) : Option ((List (Int × (List UInt8) × (List UInt8) × List ((List UInt8) × List UInt8))) × Int) :=
bif decide (100000 < (a1.length : Int)) then
  some ([], 4)
else
  jd F F (a1, ([] : List (List UInt8)), 0, [])
end Go.Pv
namespace Go.Proofs.YtkbfjepffpddfaaGreatDoor
open Go.RowKit Go.Av Go.Pv
theorem tQ : ∀ (args : Array Value) (w : World), (callFunc 18 args).run Tryz.prog w = .ok (.enter 18 args) w := fun _ _ => by kernel_rfl
theorem pV : ∀ (args : Array Value) (w : World), (callFunc 20 args).run Tryz.prog w = .ok (.enter 20 args) w := fun _ _ => by kernel_rfl
theorem tP : ∀ (args : Array Value) (w : World), (callFunc 21 args).run Tryz.prog w = .ok (.enter 21 args) w := fun _ _ => by kernel_rfl
theorem bV : ∀ (args : Array Value) (w : World), (callFunc 22 args).run Tryz.prog w = .ok (.enter 22 args) w := fun _ _ => by kernel_rfl
theorem tN : ∀ (args : Array Value) (w : World), (callFunc 31 args).run Tryz.prog w = .ok (.enter 31 args) w := fun _ _ => by kernel_rfl
theorem tM : ∀ (args : Array Value) (w : World), (callFunc 32 args).run Tryz.prog w = .ok (.enter 32 args) w := fun _ _ => by kernel_rfl
theorem tL : ∀ (args : Array Value) (w : World), (callFunc 33 args).run Tryz.prog w = .ok (.enter 33 args) w := fun _ _ => by kernel_rfl
theorem tK : ∀ (args : Array Value) (w : World), (callFunc 34 args).run Tryz.prog w = .ok (.enter 34 args) w := fun _ _ => by kernel_rfl
theorem tJ : ∀ (args : Array Value) (w : World), (callFunc 35 args).run Tryz.prog w = .ok (.enter 35 args) w := fun _ _ => by kernel_rfl
theorem tI : ∀ (args : Array Value) (w : World), (callFunc 36 args).run Tryz.prog w = .ok (.enter 36 args) w := fun _ _ => by kernel_rfl
theorem tH : ∀ (args : Array Value) (w : World), (callFunc 37 args).run Tryz.prog w = .ok (.enter 37 args) w := fun _ _ => by kernel_rfl
theorem pU : ∀ (args : Array Value) (w : World), (callFunc 40 args).run Tryz.prog w = .ok (.enter 40 args) w := fun _ _ => by kernel_rfl
theorem pT : ∀ (args : Array Value) (w : World), (callFunc 44 args).run Tryz.prog w = .ok (.enter 44 args) w := fun _ _ => by kernel_rfl
theorem nL : ∀ (args : Array Value) (w : World), (callFunc 46 args).run Tryz.prog w = .ok (.enter 46 args) w := fun _ _ => by kernel_rfl
theorem tG : ∀ (args : Array Value) (w : World), (callFunc 47 args).run Tryz.prog w = .ok (.enter 47 args) w := fun _ _ => by kernel_rfl
theorem ep : ∀ (args : Array Value) (w : World), (callFunc 48 args).run Tryz.prog w = .ok (.enter 48 args) w := fun _ _ => by kernel_rfl
theorem gk : ∀ (args : Array Value) (w : World), (callFunc 49 args).run Tryz.prog w = .ok (.enter 49 args) w := fun _ _ => by kernel_rfl
theorem kO : ∀ (args : Array Value) (w : World), (callFunc 50 args).run Tryz.prog w = .ok (.enter 50 args) w := fun _ _ => by kernel_rfl
theorem tF : ∀ (args : Array Value) (w : World), (callFunc 51 args).run Tryz.prog w = .ok (.enter 51 args) w := fun _ _ => by kernel_rfl
theorem nK : ∀ (args : Array Value) (w : World), (callFunc 52 args).run Tryz.prog w = .ok (.enter 52 args) w := fun _ _ => by kernel_rfl
theorem tE : ∀ (args : Array Value) (w : World), (callFunc 53 args).run Tryz.prog w = .ok (.enter 53 args) w := fun _ _ => by kernel_rfl
theorem tD : ∀ (args : Array Value) (w : World), (callFunc 54 args).run Tryz.prog w = .ok (.enter 54 args) w := fun _ _ => by kernel_rfl
theorem yU : ∀ (args : Array Value) (w : World), (callFunc 55 args).run Tryz.prog w = .ok (.enter 55 args) w := fun _ _ => by kernel_rfl
theorem yS : ∀ (args : Array Value) (w : World), (callFunc 60 args).run Tryz.prog w = .ok (.enter 60 args) w := fun _ _ => by kernel_rfl
theorem yR : ∀ (args : Array Value) (w : World), (callFunc 61 args).run Tryz.prog w = .ok (.enter 61 args) w := fun _ _ => by kernel_rfl
theorem yQ : ∀ (args : Array Value) (w : World), (callFunc 62 args).run Tryz.prog w = .ok (.enter 62 args) w := fun _ _ => by kernel_rfl
theorem tA : ∀ (args : Array Value) (w : World), (callFunc 63 args).run Tryz.prog w = .ok (.enter 63 args) w := fun _ _ => by kernel_rfl
theorem yP : ∀ (args : Array Value) (w : World), (callFunc 64 args).run Tryz.prog w = .ok (.enter 64 args) w := fun _ _ => by kernel_rfl
theorem yO : ∀ (args : Array Value) (w : World), (callFunc 65 args).run Tryz.prog w = .ok (.enter 65 args) w := fun _ _ => by kernel_rfl
theorem yL : ∀ (args : Array Value) (w : World), (callFunc 73 args).run Tryz.prog w = .ok (.enter 73 args) w := fun _ _ => by kernel_rfl
theorem yK : ∀ (args : Array Value) (w : World), (callFunc 74 args).run Tryz.prog w = .ok (.enter 74 args) w := fun _ _ => by kernel_rfl
set_option maxRecDepth 100000 in
set_option maxHeartbeats 1000000 in
theorem wC (F : Nat) (a1 : List UInt8) (r2 : Bool) (H : pk F a1 = some r2) : ACalls Tryz.prog 74 [S a1] [] (Ret (B r2) []) := by
 unfold pk at H
 refine ap Tryz.func74 rfl rfl ?_;show AW _ _ 15 _ _ _;refine af <| aa ?_;show AR _ _ _ _ _ [0] _;refine za rfl <| ag <| bJ (X := Unit) (fun _ => ⟨[], [], []⟩) (fun _ => lw = some r2) ?_ ?_
 ·refine af <| aa ?_;show AR _ _ _ _ _ [0, 1, 2] _;refine zm rfl <| zS rfl (bz ai rfl) <| zm rfl <| ag <| aR <| de (X := Nat × Int) (fun (n5, y3) => ⟨[(0, S a1), (5, i64 (a1.length : Int)), (6, i64 y3)], [], []⟩) (fun (n5, y3) => jQ a1 n5 y3 = some r2) (fun (n5, y3) => n5) (F, 0) H (bc [] (.cons (.refl _) (.cons (.refl _) (.cons (.refl _) (.nil _)))) rfl) ?_;rintro ⟨n5, y3⟩ H;obtain ⟨n5, rfl, H⟩ := fa H;replace H : jR a1 (jQ a1 n5) y3 = some r2 := H
  unfold jR at H
  refine af <| aa ?_;show AR _ _ _ _ _ [0] _;refine zS rfl (bZ rfl rfl) <| ag <| af <| ax rfl (fun c6 => ?_) (fun c6 => ?_)
  ·replace H := aW c6 H;refine aA <| af <| aR <| af <| aa ?_;show AR _ _ _ _ _ [0, 1] _;refine zm rfl <| za rfl <| ag <| af ?_;obtain ⟨g7, H⟩ := aM H;obtain ⟨x8, e9, H⟩ := bO H;obtain ⟨x10, e11, H⟩ := bO H;refine aa ?_;show AR _ _ _ _ _ [0, 1, 2, 3, 4] _;refine zm rfl <| zm rfl <| zS rfl (bu ai rfl rfl g7 e9) <| am rfl rfl (aC rfl pT rfl (show ACalls _ _ _ [] (Ret (i64 x10) []) from by subst e11; exact eW xmla_k1 x8) ?_);refine zS rfl (bZ rfl rfl) <| ag <| ax rfl (fun c12 => ?_) (fun c12 => ?_)
   ·replace H := aW c12 H;refine af <| aa ?_;show AR _ _ _ _ _ [0] _;refine za rfl <| ag <| aG ?_;obtain rfl := aj H;exact And.intro rfl (Exists.intro _ (Exists.intro _ ⟨aD rfl (.refl _), aB [] rfl, rfl, rfl⟩))
   ·replace H := aX c12 H;refine aA ?_;obtain ⟨g13, H⟩ := aM H;refine aa ?_;show AR _ _ _ _ _ [0, 1] _;refine zS rfl (cM rfl rfl g13) <| zm rfl <| ag ?_;exact Exists.intro (n5, y3 + 1) ⟨H, Nat.lt_succ_self _, bc [] (.cons (.refl _) (.cons (.refl _) (.cons (.refl _) (.nil _)))) rfl⟩
  ·replace H := aX c6 H;refine cx ?_;exact Exists.intro () ⟨H, bc [] (.nil _) rfl⟩
 rintro _ H;replace H : lw = some r2 := H
 unfold lw at H
 refine af <| aa ?_;show AR _ _ _ _ _ [0] _;refine za rfl <| ag <| aG ?_;obtain rfl := aj H;exact And.intro rfl (Exists.intro _ (Exists.intro _ ⟨aD rfl (.refl _), aB [] rfl, rfl, rfl⟩))
set_option maxRecDepth 100000 in
set_option maxHeartbeats 1000000 in
theorem sT (F : Nat) (a1 : List UInt8) (r2 : Bool) (H : px F a1 = some r2) : ACalls Tryz.prog 63 [S a1] [] (Ret (B r2) []) := by
 unfold px at H
 refine ap Tryz.func63 rfl rfl ?_;show AW _ _ 24 _ _ _;refine af <| aa ?_;show AR _ _ _ _ _ [0] _;refine za rfl <| ag <| af ?_;obtain ⟨g5, H⟩ := cR H;obtain ⟨x6, e7, H⟩ := bO H;obtain ⟨g8, H⟩ := cR H;obtain ⟨x9, e10, H⟩ := bO H;obtain ⟨g12, H⟩ := cR H;obtain ⟨g13, H⟩ := cR H;obtain ⟨g14, H⟩ := cR H;obtain ⟨x15, e16, H⟩ := bO H;obtain ⟨x18, e19, H⟩ := fI H;refine aa ?_;show AR _ _ _ _ _ [0, 1, 2, 3, 4, 5, 6, 7, 8, 9, 10, 11, 12, 13, 14, 15, 16, 17, 18, 19, 20, 21] _;refine zm rfl <| zS rfl (lT rfl rfl) <| zm rfl <| aY (l := [7, 8, 9, 10, 11, 12, 13, 14, 15, 16, 17, 18, 19, 20, 21]) 9 (B ((!decide (a1 = ([] : List UInt8))) && (decide ((a1.length : Int) ≤ 60)))) (fun K => ?_) ?_
 ·rcases ak (!decide (a1 = ([] : List UInt8))) with h3 | h3
  ·refine zM h3 rfl <| zU h3 rfl (bz ai rfl) <| zU h3 rfl (gi rfl rfl) <| zS rfl (aE (av := .v _) rfl h3 rfl) ?_;exact K _ 3 _ (az (cB h3)) rfl rfl
  ·refine zF h3 rfl <| zF h3 rfl <| zF h3 rfl <| zS rfl (aF (av := .v _) rfl h3 rfl) ?_;exact K _ 3 _ (az (cC h3)) rfl rfl
 refine zm rfl <| aY (l := [12, 13, 14, 15, 16, 17, 18, 19, 20, 21]) 14 (B (((!decide (a1 = ([] : List UInt8))) && (decide ((a1.length : Int) ≤ 60))) && x9)) (fun K => ?_) ?_
 ·rcases ak ((!decide (a1 = ([] : List UInt8))) && (decide ((a1.length : Int) ≤ 60))) with h4 | h4
  ·refine zM h4 rfl <| zU h4 rfl (lj ai rfl rfl (g5 h4) e7) <| zT h4 rfl (aC rfl pU rfl (show ACalls _ _ _ [] (Ret (B x9) []) from by subst e10; exact gJ xmla_k2 x6 (mM (g8 h4))) ?_);refine zS rfl (aE (av := .v _) rfl h4 rfl) ?_;exact K _ 3 _ (az (cB h4)) rfl rfl
  ·refine zF h4 rfl <| zF h4 rfl <| zF h4 rfl <| zS rfl (aF (av := .v _) rfl h4 rfl) ?_;exact K _ 3 _ (az (cC h4)) rfl rfl
 refine zm rfl <| aY (l := [17, 18, 19, 20, 21]) 19 (B ((((!decide (a1 = ([] : List UInt8))) && (decide ((a1.length : Int) ≤ 60))) && x9) && (decide (x15 = ([] : List UInt8))))) (fun K => ?_) ?_
 ·rcases ak (((!decide (a1 = ([] : List UInt8))) && (decide ((a1.length : Int) ≤ 60))) && x9) with h11 | h11
  ·refine zM h11 rfl <| zT h11 rfl (aC rfl yL rfl (show ACalls _ _ _ [] (Ret (S x15) []) from by subst e16; exact lib_Trim a1 xmla_k1 (mM (g12 h11)) (mM (g13 h11)) (g14 h11)) ?_);refine zU h11 rfl (ej rfl rfl) <| zS rfl (aE (av := .v _) rfl h11 rfl) ?_;exact K _ 3 _ (az (cB h11)) rfl rfl
  ·refine zF h11 rfl <| zF h11 rfl <| zF h11 rfl <| zS rfl (aF (av := .v _) rfl h11 rfl) ?_;exact K _ 3 _ (az (cC h11)) rfl rfl
 refine zm rfl <| aY (l := [21]) 23 (B (((((!decide (a1 = ([] : List UInt8))) && (decide ((a1.length : Int) ≤ 60))) && x9) && (decide (x15 = ([] : List UInt8)))) && x18)) (fun K => ?_) ?_
 ·rcases ak ((((!decide (a1 = ([] : List UInt8))) && (decide ((a1.length : Int) ≤ 60))) && x9) && (decide (x15 = ([] : List UInt8)))) with h17 | h17
  ·refine zM h17 rfl <| zT h17 rfl (aC rfl yK rfl (wC F a1 x18 (e19 h17)) ?_);refine zS rfl (aE (av := .v _) rfl h17 rfl) ?_;exact K _ 2 _ (az (cB h17)) rfl rfl
  ·refine zF h17 rfl <| zF h17 rfl <| zS rfl (aF (av := .v _) rfl h17 rfl) ?_;exact K _ 2 _ (az (cC h17)) rfl rfl
 refine za rfl <| ag <| aG ?_;obtain rfl := aj H;exact And.intro rfl (Exists.intro _ (Exists.intro _ ⟨aD rfl (.refl _), aB [] rfl, rfl, rfl⟩))
set_option maxRecDepth 100000 in
set_option maxHeartbeats 1000000 in
theorem qa (F : Nat) (a1 : Bool) (rv : Res Unit) (H : cF F a1 = some rv) : ACalls Tryz.prog 22 [B a1] [] (js (fun (r : Unit) => (Ret (.tup []) [])) (fun e => cg (.iface 58 (.agg #[.int .i64 e]))) rv) := by
 unfold cF at H
 refine ap Tryz.func22 rfl rfl ?_;show AW _ _ 6 _ _ _;refine af <| aa ?_;show AR _ _ _ _ _ [0, 1] _;refine zm rfl <| zS rfl (bG rfl) <| ag <| ax rfl (fun c2 => ?_) (fun c2 => ?_)
 ·replace H := aW c2 H;obtain rfl := aj H;refine aa ?_;show AR _ _ _ _ _ [0, 1, 2] _;refine zS rfl (cQ (zs := [.int .i64 0]) (ps := [(0, 1)]) (cs := [i64 2]) (by kernel_rfl) rfl rfl) <| zS rfl (be (a := .agg _) Tryz.underlying58 rfl rfl) <| am rfl rfl (AO.panicT (c := cg (.iface 58 (.agg #[.int .i64 2]))) rfl rfl ?_);exact And.intro rfl (Exists.intro [] ⟨aZ _, rfl, rfl⟩)
 ·replace H := aX c2 H;refine aA ?_;obtain rfl := aj H;exact And.intro rfl (Exists.intro _ (Exists.intro _ ⟨bk rfl, aB [] rfl, rfl, rfl⟩))
theorem cn (F : Nat) (a1 : Bool) (H : cF F a1 = some (Res.ok ())) : ACalls Tryz.prog 22 [B a1] [] (Ret (.tup []) []) := qa F a1 _ H
theorem bW (F : Nat) (a1 : Bool) (e : Int) (H : cF F a1 = some (Res.pan e)) : ACalls Tryz.prog 22 [B a1] [] (fun ae A' => ae = .pan ((fun e => cg (.iface 58 (.agg #[.int .i64 e]))) e) ∧ A' = []) := qa F a1 _ H
set_option maxRecDepth 100000 in
set_option maxHeartbeats 1000000 in
theorem ek (F : Nat) (o1 : Nat) (a2 : List UInt8) (a3 : List (List UInt8)) (t4 : Nat) (a5 : Int) (a6 : List (Int × (List UInt8) × (List UInt8) × List ((List UInt8) × List UInt8))) (t7 : Nat) (a8 : List UInt8) (r9 : Bool) (r10 : List UInt8) (H : fi F a2 a3 a5 a6 a8 = some (r9, r10)) : ACalls Tryz.prog 48 [.pt o1 0, S a8] [.obj o1 [S a2, .sk t4 a3.length, i64 a5, slE (ab Enc.int (ab Enc.str (ab Enc.str (Enc.sl (ab Enc.str Enc.str))))) a6 (some t7)], .stk t4 (Enc.str.fl a3), .tok t7 43] (fun e A' => e = .ret (B r9) ∧ A' = [.obj o1 [S r10, .sk t4 a3.length, i64 a5, slE (ab Enc.int (ab Enc.str (ab Enc.str (Enc.sl (ab Enc.str Enc.str))))) a6 (some t7)], .stk t4 (Enc.str.fl a3), .tok t7 43]) := by
 unfold fi at H
 refine ap Tryz.func48 rfl rfl ?_;show AW _ _ 21 _ _ _;refine af <| aa ?_;show AR _ _ _ _ _ [0] _;refine za rfl <| ag <| af ?_;obtain ⟨x11, e12, H⟩ := bO H;refine aa ?_;show AR _ _ _ _ _ [0, 1, 2, 3, 4, 5, 6, 7, 8, 9, 10] _;refine zS rfl (ah (av := .pt _ _) rfl) <| zS rfl (ar rfl) <| zS rfl (an (n := 0) (by kernel_rfl) rfl) <| zR rfl (ao (i := 0) ai rfl rfl rfl rfl) <| zm rfl <| am rfl rfl (aC rfl yR rfl (show ACalls _ _ _ [] (Ret (.tup [S x11.1, B x11.2]) []) from by subst e12; exact lK a2 a8) ?_);refine zS rfl (ah (av := .tup _) rfl) <| zS rfl (ay (av := .v _) rfl rfl) <| zS rfl (ay (av := .v _) rfl rfl) <| za rfl <| za rfl <| ag <| af <| aa ?_;show AR _ _ _ _ _ [0, 1, 2, 3, 4] _;refine zS rfl (ah (av := .pt _ _) rfl) <| zm rfl <| zS rfl (ar rfl) <| zS rfl (an (n := 0) (by kernel_rfl) rfl) <| s0 rfl rfl (aq (i := 0) (c := .v _) (by kernel_rfl) rfl rfl rfl rfl (ac rfl)) <| ag <| af <| aa ?_;show AR _ _ _ _ _ [0, 1] _;refine zm rfl <| za rfl <| ag <| aG ?_;obtain ⟨rfl, rfl⟩ := dw H;exact And.intro rfl (Exists.intro _ (Exists.intro _ ⟨aD rfl (.refl _), aB [0, 0, 0] rfl, rfl, rfl⟩))
set_option maxRecDepth 100000 in
set_option maxHeartbeats 1000000 in
theorem sK (F : Nat) (o1 : Nat) (a2 : List UInt8) (a3 : List (List UInt8)) (t4 : Nat) (a5 : Int) (a6 : List (Int × (List UInt8) × (List UInt8) × List ((List UInt8) × List UInt8))) (t7 : Nat) (a8 : List UInt8) (rv : Res ((List UInt8) × (List UInt8))) (H : iE F a2 a3 a5 a6 a8 = some rv) : ACalls Tryz.prog 49 [.pt o1 0, S a8] [.obj o1 [S a2, .sk t4 a3.length, i64 a5, slE (ab Enc.int (ab Enc.str (ab Enc.str (Enc.sl (ab Enc.str Enc.str))))) a6 (some t7)], .stk t4 (Enc.str.fl a3), .tok t7 43] (js (fun (r : (List UInt8) × (List UInt8)) => (fun e A' => e = .ret (S r.1) ∧ A' = [.obj o1 [S r.2, .sk t4 a3.length, i64 a5, slE (ab Enc.int (ab Enc.str (ab Enc.str (Enc.sl (ab Enc.str Enc.str))))) a6 (some t7)], .stk t4 (Enc.str.fl a3), .tok t7 43])) (fun e => cg (.iface 58 (.agg #[.int .i64 e]))) rv) := by
 unfold iE at H
 refine ap Tryz.func49 rfl rfl ?_;show AW _ _ 25 _ _ _;refine af <| aa ?_;show AR _ _ _ _ _ [0] _;refine za rfl <| ag <| af ?_;obtain ⟨g11, H⟩ := aM H;obtain ⟨x12, e13, H⟩ := bO H;refine aa ?_;show AR _ _ _ _ _ [0, 1, 2, 3, 4, 5, 6, 7, 8, 9, 10, 11, 12] _;refine zS rfl (ah (av := .pt _ _) rfl) <| zS rfl (ar rfl) <| zS rfl (an (n := 0) (by kernel_rfl) rfl) <| zR rfl (ao (i := 0) ai rfl rfl rfl rfl) <| zm rfl <| am rfl rfl (aC rfl yQ rfl (show ACalls _ _ _ [] (Ret (.tup [S x12.1, S x12.2.1, B x12.2.2]) []) from by subst e13; exact lib_Cut a2 a8 (mM g11)) ?_);refine zS rfl (ah (av := .tup _) rfl) <| zS rfl (ay (av := .v _) rfl rfl) <| zS rfl (ay (av := .v _) rfl rfl) <| zS rfl (ay (av := .v _) rfl rfl) <| za rfl <| za rfl <| za rfl <| ag <| af ?_
 rcases Or.symm (cr H) with ⟨p16, e15, H⟩ | ⟨x14, e15, H⟩
 ·subst H;refine aa ?_;show AR _ _ _ _ _ [0, 1] _;refine zm rfl <| am rfl rfl (ba (c := cg (.iface 58 (.agg #[.int .i64 p16]))) [] rfl bV rfl (bW F x12.2.2 p16 e15) rfl ?_);exact And.intro rfl (Exists.intro [] ⟨aZ _, rfl, rfl⟩)
 refine aa ?_;show AR _ _ _ _ _ [0, 1] _;refine zm rfl <| am rfl rfl (aC rfl bV rfl (cn F x12.2.2 e15) ?_);refine ag <| af <| aa ?_;show AR _ _ _ _ _ [0, 1, 2, 3, 4] _;refine zS rfl (ah (av := .pt _ _) rfl) <| zm rfl <| zS rfl (ar rfl) <| zS rfl (an (n := 0) (by kernel_rfl) rfl) <| s0 rfl rfl (aq (i := 0) (c := .v _) (by kernel_rfl) rfl rfl rfl rfl (ac rfl)) <| ag <| af <| aa ?_;show AR _ _ _ _ _ [0, 1] _;refine zm rfl <| za rfl <| ag <| aG ?_;obtain rfl := aj H;exact And.intro rfl (Exists.intro _ (Exists.intro _ ⟨aD rfl (.refl _), aB [0, 0, 0] rfl, rfl, rfl⟩))
theorem jf (F : Nat) (o1 : Nat) (a2 : List UInt8) (a3 : List (List UInt8)) (t4 : Nat) (a5 : Int) (a6 : List (Int × (List UInt8) × (List UInt8) × List ((List UInt8) × List UInt8))) (t7 : Nat) (a8 : List UInt8) (r9 : List UInt8) (r10 : List UInt8) (H : iE F a2 a3 a5 a6 a8 = some (Res.ok (r9, r10))) : ACalls Tryz.prog 49 [.pt o1 0, S a8] [.obj o1 [S a2, .sk t4 a3.length, i64 a5, slE (ab Enc.int (ab Enc.str (ab Enc.str (Enc.sl (ab Enc.str Enc.str))))) a6 (some t7)], .stk t4 (Enc.str.fl a3), .tok t7 43] (fun e A' => e = .ret (S r9) ∧ A' = [.obj o1 [S r10, .sk t4 a3.length, i64 a5, slE (ab Enc.int (ab Enc.str (ab Enc.str (Enc.sl (ab Enc.str Enc.str))))) a6 (some t7)], .stk t4 (Enc.str.fl a3), .tok t7 43]) := sK F o1 a2 a3 t4 a5 a6 t7 a8 _ H
theorem gZ (F : Nat) (o1 : Nat) (a2 : List UInt8) (a3 : List (List UInt8)) (t4 : Nat) (a5 : Int) (a6 : List (Int × (List UInt8) × (List UInt8) × List ((List UInt8) × List UInt8))) (t7 : Nat) (a8 : List UInt8) (e : Int) (H : iE F a2 a3 a5 a6 a8 = some (Res.pan e)) : ACalls Tryz.prog 49 [.pt o1 0, S a8] [.obj o1 [S a2, .sk t4 a3.length, i64 a5, slE (ab Enc.int (ab Enc.str (ab Enc.str (Enc.sl (ab Enc.str Enc.str))))) a6 (some t7)], .stk t4 (Enc.str.fl a3), .tok t7 43] (fun ae A' => ae = .pan ((fun e => cg (.iface 58 (.agg #[.int .i64 e]))) e) ∧ A' = []) := sK F o1 a2 a3 t4 a5 a6 t7 a8 _ H
set_option maxRecDepth 100000 in
set_option maxHeartbeats 1000000 in
theorem qb (F : Nat) (o1 : Nat) (a2 : List UInt8) (a3 : List (List UInt8)) (t4 : Nat) (a5 : Int) (a6 : List (Int × (List UInt8) × (List UInt8) × List ((List UInt8) × List UInt8))) (t7 : Nat) (r8 : Bool) (r9 : List UInt8) (H : kI F a2 a3 a5 a6 = some (r8, r9)) : ACalls Tryz.prog 51 [.pt o1 0] [.obj o1 [S a2, .sk t4 a3.length, i64 a5, slE (ab Enc.int (ab Enc.str (ab Enc.str (Enc.sl (ab Enc.str Enc.str))))) a6 (some t7)], .stk t4 (Enc.str.fl a3), .tok t7 43] (fun e A' => e = .ret (B r8) ∧ A' = [.obj o1 [S r9, .sk t4 a3.length, i64 a5, slE (ab Enc.int (ab Enc.str (ab Enc.str (Enc.sl (ab Enc.str Enc.str))))) a6 (some t7)], .stk t4 (Enc.str.fl a3), .tok t7 43]) := by
 unfold kI at H
 refine ap Tryz.func51 rfl rfl ?_;show AW _ _ 24 _ _ _;refine af <| aa ?_;show AR _ _ _ _ _ [0] _;refine za rfl <| ag <| af <| aa ?_;show AR _ _ _ _ _ [0, 1, 2, 3, 4, 5] _;refine zS rfl (ah (av := .pt _ _) rfl) <| zS rfl (ar rfl) <| zS rfl (an (n := 0) (by kernel_rfl) rfl) <| zR rfl (ao (i := 0) ai rfl rfl rfl rfl) <| zS rfl (bz ai rfl) <| za rfl <| ag <| af ?_;obtain ⟨g10, H⟩ := aM H;obtain ⟨g11, H⟩ := aM H;obtain ⟨x12, e13, H⟩ := bO H;refine aa ?_;show AR _ _ _ _ _ [0, 1, 2, 3, 4, 5, 6, 7, 8] _;refine zS rfl (ah (av := .pt _ _) rfl) <| zS rfl (ah (av := .pt _ _) rfl) <| zS rfl (ar rfl) <| zS rfl (an (n := 0) (by kernel_rfl) rfl) <| zR rfl (ao (i := 0) ai rfl rfl rfl rfl) <| am rfl rfl (aC rfl yP rfl (show ACalls _ _ _ [] (Ret (S x12) []) from by subst e13; exact uy a2 ([9, 10, 13, 32] : List UInt8) (mM g10) g11) ?_);refine zS rfl (ar rfl) <| zS rfl (an (n := 0) (by kernel_rfl) rfl) <| s0 rfl rfl (aq (i := 0) (c := .v _) (by kernel_rfl) rfl rfl rfl rfl (ac rfl)) <| ag <| af <| aa ?_;show AR _ _ _ _ _ [0, 1, 2, 3, 4, 5, 6, 7] _
 refine zS rfl (ah (av := .pt _ _) rfl) <| zS rfl (ar rfl) <| zS rfl (an (n := 0) (by kernel_rfl) rfl) <| zR rfl (ao (i := 0) ai rfl rfl rfl rfl) <| zS rfl (bz ai rfl) <| zm rfl <| zS rfl (bZ rfl rfl) <| za rfl <| ag <| aG ?_;obtain ⟨rfl, rfl⟩ := dw H;exact And.intro rfl (Exists.intro _ (Exists.intro _ ⟨aD rfl (.refl _), aB [0, 0, 0] rfl, rfl, rfl⟩))
set_option maxRecDepth 100000 in
set_option maxHeartbeats 1000000 in
theorem sO (F : Nat) (o1 : Nat) (a2 : List UInt8) (a3 : List (List UInt8)) (t4 : Nat) (a5 : Int) (a6 : List (Int × (List UInt8) × (List UInt8) × List ((List UInt8) × List UInt8))) (t7 : Nat) (rv : Res ((List UInt8) × (List UInt8))) (H : lP F a2 a3 a5 a6 = some rv) : ACalls Tryz.prog 50 [.pt o1 0] [.obj o1 [S a2, .sk t4 a3.length, i64 a5, slE (ab Enc.int (ab Enc.str (ab Enc.str (Enc.sl (ab Enc.str Enc.str))))) a6 (some t7)], .stk t4 (Enc.str.fl a3), .tok t7 43] (js (fun (r : (List UInt8) × (List UInt8)) => (fun e A' => e = .ret (S r.1) ∧ A' = [.obj o1 [S r.2, .sk t4 a3.length, i64 a5, slE (ab Enc.int (ab Enc.str (ab Enc.str (Enc.sl (ab Enc.str Enc.str))))) a6 (some t7)], .stk t4 (Enc.str.fl a3), .tok t7 43])) (fun e => cg (.iface 58 (.agg #[.int .i64 e]))) rv) := by
 unfold lP at H
 refine ap Tryz.func50 rfl rfl ?_;show AW _ _ 43 _ _ _;refine af <| aa ?_;show AR _ _ _ _ _ [0] _;refine za rfl <| ag <| af <| aa ?_;show AR _ _ _ _ _ [0] _;refine za rfl <| ag <| bJ (X := Int) (fun y21 => ⟨[(0, .pt o1 0), (3, i64 y21)], [], [.obj o1 [S a2, .sk t4 a3.length, i64 a5, slE (ab Enc.int (ab Enc.str (ab Enc.str (Enc.sl (ab Enc.str Enc.str))))) a6 (some t7)], .stk t4 (Enc.str.fl a3), .tok t7 43]⟩) (fun y21 => jw F a2 y21 = some rv) ?_ ?_
 ·refine aR <| de (X := Nat × Int) (fun (n12, y10) => ⟨[(0, .pt o1 0), (3, i64 y10)], [], [.obj o1 [S a2, .sk t4 a3.length, i64 a5, slE (ab Enc.int (ab Enc.str (ab Enc.str (Enc.sl (ab Enc.str Enc.str))))) a6 (some t7)], .stk t4 (Enc.str.fl a3), .tok t7 43]⟩) (fun (n12, y10) => kT F a2 n12 y10 = some rv) (fun (n12, y10) => n12) (F, 0) H (bc [0, 0, 0] (.cons (.refl _) (.cons (.refl _) (.nil _))) rfl) ?_;rintro ⟨n12, y10⟩ H;obtain ⟨n12, rfl, H⟩ := fa H;replace H : kU F a2 (kT F a2 n12) y10 = some rv := H
  unfold kU at H
  refine af <| af ?_;obtain ⟨g14, H⟩ := cR H;obtain ⟨x15, e16, H⟩ := bO H;obtain ⟨x17, e18, H⟩ := bO H;refine aa ?_;show AR _ _ _ _ _ [0, 1, 2, 3, 4, 5, 6, 7, 8, 9, 10, 11, 12, 13, 14, 15, 16] _;refine zm rfl <| zS rfl (ah (av := .pt _ _) rfl) <| zS rfl (ar rfl) <| zS rfl (an (n := 0) (by kernel_rfl) rfl) <| zR rfl (ao (i := 0) ai rfl rfl rfl rfl) <| zS rfl (bz ai rfl) <| zS rfl (bZ rfl rfl) <| zm rfl <| aY (l := []) 21 (B ((decide (y10 < (a2.length : Int))) && (decide (0 ≤ x17)))) (fun K => ?_) ?_
  ·rcases ak (decide (y10 < (a2.length : Int))) with h13 | h13
   ·refine zU h13 rfl (ah (av := .pt _ _) rfl) <| zU h13 rfl (ar rfl) <| zU h13 rfl (an (n := 0) (by kernel_rfl) rfl) <| zT h13 rfl (cm rfl rfl (ao (i := 0) ai rfl rfl rfl rfl) ?_);refine zM h13 rfl <| zU h13 rfl (bu ai rfl rfl (g14 h13) e16) <| zT h13 rfl (aC rfl pT rfl (show ACalls _ _ _ [] (Ret (i64 x17) []) from by subst e18; exact eW xmla_k1 x15) ?_);refine zU h13 rfl (fy rfl rfl) <| zS rfl (aE (av := .v _) rfl h13 rfl) ?_;exact K _ 8 _ (az (cB h13)) rfl rfl
   ·refine zF h13 rfl <| zF h13 rfl <| zF h13 rfl <| zF h13 rfl <| zF h13 rfl <| zF h13 rfl <| zF h13 rfl <| zF h13 rfl <| zS rfl (aF (av := .v _) rfl h13 rfl) ?_;exact K _ 8 _ (az (cC h13)) rfl rfl
  refine ag <| ax rfl (fun c19 => ?_) (fun c19 => ?_)
  ·replace H := aW c19 H;refine aA <| aR ?_;obtain ⟨g20, H⟩ := aM H;refine aa ?_;show AR _ _ _ _ _ [0, 1, 2] _;refine zm rfl <| zS rfl (cM rfl rfl g20) <| za rfl <| ag ?_;exact Exists.intro (n12, y10 + 1) ⟨H, Nat.lt_succ_self _, bc [0, 0, 0] (.cons (.refl _) (.cons (.refl _) (.nil _))) rfl⟩
  ·replace H := aX c19 H;refine cx ?_;exact Exists.intro y10 ⟨H, bc [0, 0, 0] (.cons (.refl _) (.cons (.refl _) (.nil _))) rfl⟩
 rintro y21 H;replace H : jw F a2 y21 = some rv := H
 unfold jw at H
 refine af ?_;obtain ⟨g23, H⟩ := aM H;obtain ⟨x24, e25, H⟩ := bO H;refine aa ?_;show AR _ _ _ _ _ [0, 1, 2, 3, 4, 5, 6] _;refine zS rfl (ah (av := .pt _ _) rfl) <| zS rfl (ar rfl) <| zS rfl (an (n := 0) (by kernel_rfl) rfl) <| zR rfl (ao (i := 0) ai rfl rfl rfl rfl) <| zm rfl <| zS rfl (lj ai rfl rfl g23 e25) <| za rfl <| ag <| af ?_;obtain ⟨x26, e27, H⟩ := ce H
 rcases Or.symm (cr H) with ⟨p30, e29, H⟩ | ⟨x28, e29, H⟩
 ·subst H;refine aa ?_;show AR _ _ _ _ _ [0, 1, 2] _;refine zm rfl <| am rfl rfl (aC rfl tA rfl (sT F x24 x26 e27) ?_);refine am rfl rfl (ba (c := cg (.iface 58 (.agg #[.int .i64 p30]))) [] rfl bV rfl (bW F x26 p30 e29) rfl ?_);exact And.intro rfl (Exists.intro [] ⟨aZ _, rfl, rfl⟩)
 refine aa ?_;show AR _ _ _ _ _ [0, 1, 2] _;refine zm rfl <| am rfl rfl (aC rfl tA rfl (sT F x24 x26 e27) ?_);refine am rfl rfl (aC rfl bV rfl (cn F x26 e29) ?_);refine ag <| af ?_;obtain ⟨g31, H⟩ := aM H;obtain ⟨x32, e33, H⟩ := bO H;refine aa ?_;show AR _ _ _ _ _ [0, 1, 2, 3, 4, 5, 6, 7, 8, 9] _;refine zS rfl (ah (av := .pt _ _) rfl) <| zS rfl (ah (av := .pt _ _) rfl) <| zS rfl (ar rfl) <| zS rfl (an (n := 0) (by kernel_rfl) rfl) <| zR rfl (ao (i := 0) ai rfl rfl rfl rfl) <| zm rfl <| zS rfl (eC ai rfl rfl g31 e33) <| zS rfl (ar rfl) <| zS rfl (an (n := 0) (by kernel_rfl) rfl) <| s0 rfl rfl (aq (i := 0) (c := .v _) (by kernel_rfl) rfl rfl rfl rfl (ac rfl)) <| ag <| af <| aa ?_;show AR _ _ _ _ _ [0, 1] _;refine zm rfl <| za rfl <| ag <| aG ?_;obtain rfl := aj H;exact And.intro rfl (Exists.intro _ (Exists.intro _ ⟨aD rfl (.refl _), aB [0, 0, 0] rfl, rfl, rfl⟩))
theorem mw (F : Nat) (o1 : Nat) (a2 : List UInt8) (a3 : List (List UInt8)) (t4 : Nat) (a5 : Int) (a6 : List (Int × (List UInt8) × (List UInt8) × List ((List UInt8) × List UInt8))) (t7 : Nat) (r8 : List UInt8) (r9 : List UInt8) (H : lP F a2 a3 a5 a6 = some (Res.ok (r8, r9))) : ACalls Tryz.prog 50 [.pt o1 0] [.obj o1 [S a2, .sk t4 a3.length, i64 a5, slE (ab Enc.int (ab Enc.str (ab Enc.str (Enc.sl (ab Enc.str Enc.str))))) a6 (some t7)], .stk t4 (Enc.str.fl a3), .tok t7 43] (fun e A' => e = .ret (S r8) ∧ A' = [.obj o1 [S r9, .sk t4 a3.length, i64 a5, slE (ab Enc.int (ab Enc.str (ab Enc.str (Enc.sl (ab Enc.str Enc.str))))) a6 (some t7)], .stk t4 (Enc.str.fl a3), .tok t7 43]) := sO F o1 a2 a3 t4 a5 a6 t7 _ H
theorem lG (F : Nat) (o1 : Nat) (a2 : List UInt8) (a3 : List (List UInt8)) (t4 : Nat) (a5 : Int) (a6 : List (Int × (List UInt8) × (List UInt8) × List ((List UInt8) × List UInt8))) (t7 : Nat) (e : Int) (H : lP F a2 a3 a5 a6 = some (Res.pan e)) : ACalls Tryz.prog 50 [.pt o1 0] [.obj o1 [S a2, .sk t4 a3.length, i64 a5, slE (ab Enc.int (ab Enc.str (ab Enc.str (Enc.sl (ab Enc.str Enc.str))))) a6 (some t7)], .stk t4 (Enc.str.fl a3), .tok t7 43] (fun ae A' => ae = .pan ((fun e => cg (.iface 58 (.agg #[.int .i64 e]))) e) ∧ A' = []) := sO F o1 a2 a3 t4 a5 a6 t7 _ H
set_option maxRecDepth 100000 in
set_option maxHeartbeats 1000000 in
theorem qd (F : Nat) (a1 : List UInt8) (rv : Res ((List UInt8))) (H : iQ F a1 = some rv) : ACalls Tryz.prog 46 [S a1] [] (js (fun (r : (List UInt8)) => (Ret (S r) [])) (fun e => cg (.iface 58 (.agg #[.int .i64 e]))) rv) := by
 unfold iQ at H
 refine ap Tryz.func46 rfl rfl ?_;show AW _ _ 14 _ _ _;refine af <| aa ?_;show AR _ _ _ _ _ [0] _;refine za rfl <| ag <| af ?_;obtain ⟨x3, x4, e5, H⟩ := cD H;refine aa ?_;show AR _ _ _ _ _ [0, 1, 2, 3, 4, 5, 6] _;refine zm rfl <| am rfl rfl (aC rfl yS rfl (uo F a1 x3 x4 e5) ?_);refine zS rfl (ah (av := .tup _) rfl) <| zS rfl (ay (av := .v _) rfl rfl) <| zS rfl (ay (av := .v _) rfl rfl) <| za rfl <| za rfl <| ag <| af ?_
 rcases Or.symm (cr H) with ⟨p8, e7, H⟩ | ⟨x6, e7, H⟩
 ·subst H;refine aa ?_;show AR _ _ _ _ _ [0, 1, 2] _;refine zm rfl <| zS rfl (bL rfl rfl) <| am rfl rfl (ba (c := cg (.iface 58 (.agg #[.int .i64 p8]))) [] rfl bV rfl (bW F (decide (x4 = 0)) p8 e7) rfl ?_);exact And.intro rfl (Exists.intro [] ⟨aZ _, rfl, rfl⟩)
 refine aa ?_;show AR _ _ _ _ _ [0, 1, 2] _;refine zm rfl <| zS rfl (bL rfl rfl) <| am rfl rfl (aC rfl bV rfl (cn F (decide (x4 = 0)) e7) ?_);refine ag <| af <| aa ?_;show AR _ _ _ _ _ [0, 1] _;refine zm rfl <| za rfl <| ag <| aG ?_;obtain rfl := aj H;exact And.intro rfl (Exists.intro _ (Exists.intro _ ⟨aD rfl (.refl _), aB [] rfl, rfl, rfl⟩))
theorem ng (F : Nat) (a1 : List UInt8) (r2 : List UInt8) (H : iQ F a1 = some (Res.ok r2)) : ACalls Tryz.prog 46 [S a1] [] (Ret (S r2) []) := qd F a1 _ H
theorem mG (F : Nat) (a1 : List UInt8) (e : Int) (H : iQ F a1 = some (Res.pan e)) : ACalls Tryz.prog 46 [S a1] [] (fun ae A' => ae = .pan ((fun e => cg (.iface 58 (.agg #[.int .i64 e]))) e) ∧ A' = []) := qd F a1 _ H
set_option maxRecDepth 100000 in
set_option maxHeartbeats 1000000 in
theorem sL (F : Nat) (o1 : Nat) (a2 : List UInt8) (a3 : List (List UInt8)) (t4 : Nat) (a5 : Int) (a6 : List (Int × (List UInt8) × (List UInt8) × List ((List UInt8) × List UInt8))) (t7 : Nat) (a8 : List UInt8) (r9 : List (Int × (List UInt8) × (List UInt8) × List ((List UInt8) × List UInt8))) (H : nV F a2 a3 a5 a6 a8 = some r9) : ACalls Tryz.prog 47 [.pt o1 0, S a8] [.obj o1 [S a2, .sk t4 a3.length, i64 a5, slE (ab Enc.int (ab Enc.str (ab Enc.str (Enc.sl (ab Enc.str Enc.str))))) a6 (some t7)], .stk t4 (Enc.str.fl a3), .tok t7 43] (fun e A' => e = .ret (.tup []) ∧ ∃ t10, A' = [.obj o1 [S a2, .sk t4 a3.length, i64 a5, slE (ab Enc.int (ab Enc.str (ab Enc.str (Enc.sl (ab Enc.str Enc.str))))) r9 (some t10)], .stk t4 (Enc.str.fl a3), .tok t10 43]) := by
 unfold nV at H
 refine ap Tryz.func47 rfl rfl ?_;show AW _ _ 17 _ _ _;refine af <| aa ?_;show AR _ _ _ _ _ [0, 1] _;refine zm rfl <| zS rfl (lT rfl rfl) <| ag <| ax rfl (fun c11 => ?_) (fun c11 => ?_)
 ·replace H := aW c11 H;obtain ⟨g13, H⟩ := aM H;obtain ⟨x14, e15, H⟩ := bO H;refine aa ?_;show AR _ _ _ _ _ [0, 1, 2, 3, 4, 5, 6, 7, 8, 9, 10, 11] _;refine zS rfl (ah (av := .pt _ _) rfl) <| zS rfl (ah (av := .pt _ _) rfl) <| zS rfl (ar rfl) <| zS rfl (an (n := 3) (by kernel_rfl) rfl) <| zR rfl (ao (i := 0) aP rfl rfl rfl rfl) <| zm rfl <| zS rfl (cQ (zs := [.int .i64 0, .string ⟨#[]⟩, .string ⟨#[]⟩, .slice none 0 0]) (ps := [(0, 1), (1, 1), (2, 1), (3, 1)]) (cs := [i64 2, S ([] : List UInt8), S a8, eD]) (by kernel_rfl) rfl rfl) <| zR rfl (jC (ds := [i64 2, S ([] : List UInt8), S a8, slE (ab Enc.str Enc.str) ([] : List ((List UInt8) × List UInt8)) none]) 12 (.cons (.refl _) (.cons (.refl _) (.cons (.refl _) (.cons (.nil _) (.nil))))) (hc := rfl) <| dX (E := (ab Enc.int (ab Enc.str (ab Enc.str (Enc.sl (ab Enc.str Enc.str)))))) (bytes := 64) (zs := [.int .i64 0, .string ⟨#[]⟩, .string ⟨#[]⟩, .slice none 0 0]) (l := ([(2, ([] : List UInt8), a8, ([] : List ((List UInt8) × List UInt8)))] : List (Int × (List UInt8) × (List UInt8) × List ((List UInt8) × List UInt8)))) aP (by kernel_rfl) (by kernel_rfl) rfl rfl rfl rfl rfl) <| zX rfl (kg (E := (ab Enc.int (ab Enc.str (ab Enc.str (Enc.sl (ab Enc.str Enc.str)))))) (bytes := 64) 2 aP aP rfl (by kernel_rfl) rfl rfl rfl rfl g13 e15) ?_;rintro _ _ ⟨t12, rfl, rfl⟩
  refine zS rfl (ar rfl) <| zS rfl (an (n := 3) (by kernel_rfl) rfl) <| s0 rfl rfl (aq (i := 0) (c := slE _ _ _) (by kernel_rfl) rfl rfl rfl rfl (ac rfl)) <| ag ?_;obtain rfl := aj H;exact And.intro rfl (Exists.intro _ (Exists.intro _ ⟨bk rfl, aB [0, 0, 0] rfl, rfl, t12, rfl⟩))
 ·replace H := aX c11 H;refine aA ?_;obtain rfl := aj H;exact And.intro rfl (Exists.intro _ (Exists.intro _ ⟨bk rfl, aB [0, 0, 0] rfl, rfl, t7, rfl⟩))
set_option maxRecDepth 100000 in
set_option maxHeartbeats 1000000 in
theorem sN (F : Nat) (o1 : Nat) (a2 : List UInt8) (a3 : List (List UInt8)) (t4 : Nat) (a5 : Int) (a6 : List (Int × (List UInt8) × (List UInt8) × List ((List UInt8) × List UInt8))) (t7 : Nat) (a8 : List UInt8) (rv : Res ((List (Int × (List UInt8) × (List UInt8) × List ((List UInt8) × List UInt8))) × (List (List UInt8)))) (H : lO F a2 a3 a5 a6 a8 = some rv) : ACalls Tryz.prog 52 [.pt o1 0, S a8] [.obj o1 [S a2, .sk t4 a3.length, i64 a5, slE (ab Enc.int (ab Enc.str (ab Enc.str (Enc.sl (ab Enc.str Enc.str))))) a6 (some t7)], .stk t4 (Enc.str.fl a3), .tok t7 43] (js (fun (r : (List (Int × (List UInt8) × (List UInt8) × List ((List UInt8) × List UInt8))) × (List (List UInt8))) => (fun e A' => e = .ret (.tup []) ∧ ∃ t10 t12, A' = [.obj o1 [S a2, .sk t10 r.2.length, i64 a5, slE (ab Enc.int (ab Enc.str (ab Enc.str (Enc.sl (ab Enc.str Enc.str))))) r.1 (some t12)], .stk t10 (Enc.str.fl r.2), .tok t12 43])) (fun e => cg (.iface 58 (.agg #[.int .i64 e]))) rv) := by
 unfold lO at H
 refine ap Tryz.func52 rfl rfl ?_;show AW _ _ 45 _ _ _;refine af ?_;obtain ⟨g13, H⟩ := aM H;refine aa ?_;show AR _ _ _ _ _ [0, 1, 2, 3, 4, 5, 6] _;refine zS rfl (ah (av := .pt _ _) rfl) <| zS rfl (ar rfl) <| zS rfl (an (n := 1) (by kernel_rfl) rfl) <| zR rfl (ao (i := 0) au rfl rfl rfl rfl) <| zS rfl (ff au rfl) <| zS rfl (lF rfl rfl g13) <| za rfl <| ag <| af ?_;obtain ⟨g15, H⟩ := cR H;obtain ⟨g16, H⟩ := cR H;obtain ⟨x17, e18, H⟩ := bO H
 rcases Or.symm (cr H) with ⟨p21, e20, H⟩ | ⟨x19, e20, H⟩
 ·subst H;refine aa ?_;show AR _ _ _ _ _ [0, 1, 2, 3, 4, 5, 6, 7, 8, 9, 10, 11, 12, 13] _;refine zm rfl <| zS rfl (fy rfl rfl) <| zm rfl <| aY (l := [13]) 23 (B ((decide (0 ≤ (a3.length : Int) - 1)) && (decide (x17 = a8)))) (fun K => ?_) ?_
  ·rcases ak (decide (0 ≤ (a3.length : Int) - 1)) with h14 | h14
   ·refine zU h14 rfl (ah (av := .pt _ _) rfl) <| zU h14 rfl (ar rfl) <| zU h14 rfl (an (n := 1) (by kernel_rfl) rfl) <| zT h14 rfl (cm rfl rfl (ao (i := 0) au rfl rfl rfl rfl) ?_);refine zM h14 rfl <| zU h14 rfl (kS au (by kernel_rfl) rfl rfl (g15 h14)) <| zT h14 rfl (cm rfl rfl (oI (E := Enc.str) 1 ai rfl rfl rfl rfl (g16 h14) e18 rfl) ?_);refine zM h14 rfl <| zU h14 rfl (ej rfl rfl) <| zS rfl (aE (av := .v _) rfl h14 rfl) ?_;exact K _ 9 _ (az (cB h14)) rfl rfl
   ·refine zF h14 rfl <| zF h14 rfl <| zF h14 rfl <| zF h14 rfl <| zF h14 rfl <| zF h14 rfl <| zF h14 rfl <| zF h14 rfl <| zF h14 rfl <| zS rfl (aF (av := .v _) rfl h14 rfl) ?_;exact K _ 9 _ (az (cC h14)) rfl rfl
  refine am rfl rfl (ba (c := cg (.iface 58 (.agg #[.int .i64 p21]))) [] rfl bV rfl (bW F ((decide (0 ≤ (a3.length : Int) - 1)) && (decide (x17 = a8))) p21 e20) rfl ?_);exact And.intro rfl (Exists.intro [] ⟨aZ _, rfl, rfl⟩)
 refine aa ?_;show AR _ _ _ _ _ [0, 1, 2, 3, 4, 5, 6, 7, 8, 9, 10, 11, 12, 13] _;refine zm rfl <| zS rfl (fy rfl rfl) <| zm rfl <| aY (l := [13]) 23 (B ((decide (0 ≤ (a3.length : Int) - 1)) && (decide (x17 = a8)))) (fun K => ?_) ?_
 ·rcases ak (decide (0 ≤ (a3.length : Int) - 1)) with h14 | h14
  ·refine zU h14 rfl (ah (av := .pt _ _) rfl) <| zU h14 rfl (ar rfl) <| zU h14 rfl (an (n := 1) (by kernel_rfl) rfl) <| zT h14 rfl (cm rfl rfl (ao (i := 0) au rfl rfl rfl rfl) ?_);refine zM h14 rfl <| zU h14 rfl (kS au (by kernel_rfl) rfl rfl (g15 h14)) <| zT h14 rfl (cm rfl rfl (oI (E := Enc.str) 1 ai rfl rfl rfl rfl (g16 h14) e18 rfl) ?_);refine zM h14 rfl <| zU h14 rfl (ej rfl rfl) <| zS rfl (aE (av := .v _) rfl h14 rfl) ?_;exact K _ 9 _ (az (cB h14)) rfl rfl
  ·refine zF h14 rfl <| zF h14 rfl <| zF h14 rfl <| zF h14 rfl <| zF h14 rfl <| zF h14 rfl <| zF h14 rfl <| zF h14 rfl <| zF h14 rfl <| zS rfl (aF (av := .v _) rfl h14 rfl) ?_;exact K _ 9 _ (az (cC h14)) rfl rfl
 refine am rfl rfl (aC rfl bV rfl (cn F ((decide (0 ≤ (a3.length : Int) - 1)) && (decide (x17 = a8))) e20) ?_);refine ag <| af ?_;obtain ⟨g22, H⟩ := aM H;obtain ⟨x23, e24, H⟩ := bO H;refine aa ?_;show AR _ _ _ _ _ [0, 1, 2, 3, 4, 5, 6, 7, 8, 9] _;refine zS rfl (ah (av := .pt _ _) rfl) <| zS rfl (ah (av := .pt _ _) rfl) <| zS rfl (ar rfl) <| zS rfl (an (n := 1) (by kernel_rfl) rfl) <| zR rfl (ao (i := 0) au rfl rfl rfl rfl) <| zm rfl <| zR rfl (rz (E := Enc.str) 1 au (by kernel_rfl) rfl rfl rfl rfl g22 e24) <| zS rfl (ar rfl) <| zS rfl (an (n := 1) (by kernel_rfl) rfl) <| s0 rfl rfl (aq (i := 0) (c := .sk _ _) (by kernel_rfl) rfl rfl rfl rfl (ac rfl)) <| ag ?_;obtain ⟨g26, H⟩ := aM H;obtain ⟨x27, e28, H⟩ := bO H;refine aa ?_;show AR _ _ _ _ _ [0, 1, 2, 3, 4, 5, 6, 7, 8, 9, 10, 11] _
 refine zS rfl (ah (av := .pt _ _) rfl) <| zS rfl (ah (av := .pt _ _) rfl) <| zS rfl (ar rfl) <| zS rfl (an (n := 3) (by kernel_rfl) rfl) <| zR rfl (ao (i := 0) aP rfl rfl rfl rfl) <| zm rfl <| zS rfl (cQ (zs := [.int .i64 0, .string ⟨#[]⟩, .string ⟨#[]⟩, .slice none 0 0]) (ps := [(0, 1), (1, 1), (2, 1), (3, 1)]) (cs := [i64 1, S a8, S ([] : List UInt8), eD]) (by kernel_rfl) rfl rfl) <| zR rfl (jC (ds := [i64 1, S a8, S ([] : List UInt8), slE (ab Enc.str Enc.str) ([] : List ((List UInt8) × List UInt8)) none]) 40 (.cons (.refl _) (.cons (.refl _) (.cons (.refl _) (.cons (.nil _) (.nil))))) (hc := rfl) <| dX (E := (ab Enc.int (ab Enc.str (ab Enc.str (Enc.sl (ab Enc.str Enc.str)))))) (bytes := 64) (zs := [.int .i64 0, .string ⟨#[]⟩, .string ⟨#[]⟩, .slice none 0 0]) (l := ([(1, a8, ([] : List UInt8), ([] : List ((List UInt8) × List UInt8)))] : List (Int × (List UInt8) × (List UInt8) × List ((List UInt8) × List UInt8)))) aP (by kernel_rfl) (by kernel_rfl) rfl rfl rfl rfl rfl) <| zX rfl (kg (E := (ab Enc.int (ab Enc.str (ab Enc.str (Enc.sl (ab Enc.str Enc.str)))))) (bytes := 64) 2 aP aP rfl (by kernel_rfl) rfl rfl rfl rfl g26 e28) ?_;rintro _ _ ⟨t25, rfl, rfl⟩;refine zS rfl (ar rfl) <| zS rfl (an (n := 3) (by kernel_rfl) rfl) <| s0 rfl rfl (aq (i := 0) (c := slE _ _ _) (by kernel_rfl) rfl rfl rfl rfl (ac rfl)) <| ag ?_
 obtain rfl := aj H;exact And.intro rfl (Exists.intro _ (Exists.intro _ ⟨bk rfl, aB [0, 0, 0] rfl, rfl, t4, t25, rfl⟩))
theorem oU (F : Nat) (o1 : Nat) (a2 : List UInt8) (a3 : List (List UInt8)) (t4 : Nat) (a5 : Int) (a6 : List (Int × (List UInt8) × (List UInt8) × List ((List UInt8) × List UInt8))) (t7 : Nat) (a8 : List UInt8) (r11 : List (Int × (List UInt8) × (List UInt8) × List ((List UInt8) × List UInt8))) (r9 : List (List UInt8)) (H : lO F a2 a3 a5 a6 a8 = some (Res.ok (r11, r9))) : ACalls Tryz.prog 52 [.pt o1 0, S a8] [.obj o1 [S a2, .sk t4 a3.length, i64 a5, slE (ab Enc.int (ab Enc.str (ab Enc.str (Enc.sl (ab Enc.str Enc.str))))) a6 (some t7)], .stk t4 (Enc.str.fl a3), .tok t7 43] (fun e A' => e = .ret (.tup []) ∧ ∃ t10 t12, A' = [.obj o1 [S a2, .sk t10 r9.length, i64 a5, slE (ab Enc.int (ab Enc.str (ab Enc.str (Enc.sl (ab Enc.str Enc.str))))) r11 (some t12)], .stk t10 (Enc.str.fl r9), .tok t12 43]) := sN F o1 a2 a3 t4 a5 a6 t7 a8 _ H
theorem og (F : Nat) (o1 : Nat) (a2 : List UInt8) (a3 : List (List UInt8)) (t4 : Nat) (a5 : Int) (a6 : List (Int × (List UInt8) × (List UInt8) × List ((List UInt8) × List UInt8))) (t7 : Nat) (a8 : List UInt8) (e : Int) (H : lO F a2 a3 a5 a6 a8 = some (Res.pan e)) : ACalls Tryz.prog 52 [.pt o1 0, S a8] [.obj o1 [S a2, .sk t4 a3.length, i64 a5, slE (ab Enc.int (ab Enc.str (ab Enc.str (Enc.sl (ab Enc.str Enc.str))))) a6 (some t7)], .stk t4 (Enc.str.fl a3), .tok t7 43] (fun ae A' => ae = .pan ((fun e => cg (.iface 58 (.agg #[.int .i64 e]))) e) ∧ A' = []) := sN F o1 a2 a3 t4 a5 a6 t7 a8 _ H
set_option maxRecDepth 100000 in
set_option maxHeartbeats 1000000 in
theorem rq (F : Nat) (o1 : Nat) (a2 : List UInt8) (a3 : List (List UInt8)) (t4 : Nat) (a5 : Int) (a6 : List (Int × (List UInt8) × (List UInt8) × List ((List UInt8) × List UInt8))) (t7 : Nat) (rv : Res (Bool × (List UInt8) × (List (Int × (List UInt8) × (List UInt8) × List ((List UInt8) × List UInt8))))) (H : jm F a2 a3 a5 a6 = some rv) : ACalls Tryz.prog 31 [.pt o1 0] [.obj o1 [S a2, .sk t4 a3.length, i64 a5, slE (ab Enc.int (ab Enc.str (ab Enc.str (Enc.sl (ab Enc.str Enc.str))))) a6 (some t7)], .stk t4 (Enc.str.fl a3), .tok t7 43] (js (fun (r : Bool × (List UInt8) × (List (Int × (List UInt8) × (List UInt8) × List ((List UInt8) × List UInt8)))) => (fun e A' => e = .ret (B r.1) ∧ ∃ t11, A' = [.obj o1 [S r.2.1, .sk t4 a3.length, i64 a5, slE (ab Enc.int (ab Enc.str (ab Enc.str (Enc.sl (ab Enc.str Enc.str))))) r.2.2 (some t11)], .stk t4 (Enc.str.fl a3), .tok t11 43])) (fun e => cg (.iface 58 (.agg #[.int .i64 e]))) rv) := by
 unfold jm at H
 refine ap Tryz.func31 rfl rfl ?_;show AW _ _ 50 _ _ _;refine af <| aa ?_;show AR _ _ _ _ _ [0] _;refine za rfl <| ag <| af ?_;obtain ⟨x12, e13, H⟩ := bO H;refine aa ?_;show AR _ _ _ _ _ [0, 1, 2, 3, 4, 5] _;refine zS rfl (ah (av := .pt _ _) rfl) <| zS rfl (ar rfl) <| zS rfl (an (n := 0) (by kernel_rfl) rfl) <| zR rfl (ao (i := 0) ai rfl rfl rfl rfl) <| am rfl rfl (aC rfl pT rfl (show ACalls _ _ _ [] (Ret (i64 x12) []) from by subst e13; exact eW a2 60) ?_);refine za rfl <| ag <| bJ (X := Int) (fun y15 => ⟨[(0, .pt o1 0), (3, i64 y15)], [], [.obj o1 [S a2, .sk t4 a3.length, i64 a5, slE (ab Enc.int (ab Enc.str (ab Enc.str (Enc.sl (ab Enc.str Enc.str))))) a6 (some t7)], .stk t4 (Enc.str.fl a3), .tok t7 43]⟩) (fun y15 => fG F a2 a3 a5 a6 y15 = some rv) ?_ ?_
 ·refine af <| aa ?_;show AR _ _ _ _ _ [0, 1] _;refine zm rfl <| zS rfl (bZ rfl rfl) <| ag <| ax rfl (fun c14 => ?_) (fun c14 => ?_)
  ·replace H := aW c14 H;refine aa ?_;show AR _ _ _ _ _ [0, 1, 2, 3, 4, 5] _;refine zS rfl (ah (av := .pt _ _) rfl) <| zS rfl (ar rfl) <| zS rfl (an (n := 0) (by kernel_rfl) rfl) <| zR rfl (ao (i := 0) ai rfl rfl rfl rfl) <| zS rfl (bz ai rfl) <| za rfl <| ag ?_;exact Exists.intro (a2.length : Int) ⟨H, bc [0, 0, 0] (.cons (.refl _) (.cons (.refl _) (.nil _))) rfl⟩
  ·replace H := aX c14 H;refine aA ?_;exact Exists.intro x12 ⟨H, bc [0, 0, 0] (.cons (.refl _) (.cons (.refl _) (.nil _))) rfl⟩
 rintro y15 H;replace H : fG F a2 a3 a5 a6 y15 = some rv := H
 unfold fG at H
 refine af <| af <| aa ?_;show AR _ _ _ _ _ [0, 1] _;refine zm rfl <| zS rfl (bL rfl rfl) <| ag <| ax rfl (fun c17 => ?_) (fun c17 => ?_)
 ·replace H := aW c17 H;refine af <| aa ?_;show AR _ _ _ _ _ [0] _;refine za rfl <| ag <| aG ?_;obtain rfl := aj H;exact And.intro rfl (Exists.intro _ (Exists.intro _ ⟨aD rfl (.refl _), aB [0, 0, 0] rfl, rfl, t7, rfl⟩))
 ·replace H := aX c17 H;refine aA <| af ?_;obtain ⟨g18, H⟩ := aM H;obtain ⟨x19, e20, H⟩ := bO H;refine aa ?_;show AR _ _ _ _ _ [0, 1, 2, 3, 4, 5, 6] _;refine zS rfl (ah (av := .pt _ _) rfl) <| zS rfl (ar rfl) <| zS rfl (an (n := 0) (by kernel_rfl) rfl) <| zR rfl (ao (i := 0) ai rfl rfl rfl rfl) <| zm rfl <| zS rfl (lj ai rfl rfl g18 e20) <| za rfl <| ag <| af ?_;obtain ⟨g21, H⟩ := aM H;obtain ⟨x22, e23, H⟩ := bO H;refine aa ?_;show AR _ _ _ _ _ [0, 1, 2, 3, 4, 5, 6, 7, 8, 9] _;refine zS rfl (ah (av := .pt _ _) rfl) <| zS rfl (ah (av := .pt _ _) rfl) <| zS rfl (ar rfl) <| zS rfl (an (n := 0) (by kernel_rfl) rfl) <| zR rfl (ao (i := 0) ai rfl rfl rfl rfl) <| zm rfl <| zS rfl (eC ai rfl rfl g21 e23) <| zS rfl (ar rfl) <| zS rfl (an (n := 0) (by kernel_rfl) rfl) <| s0 rfl rfl (aq (i := 0) (c := .v _) (by kernel_rfl) rfl rfl rfl rfl (ac rfl)) <| ag <| af ?_
  rcases Or.symm (cr H) with ⟨p26, e25, H⟩ | ⟨x24, e25, H⟩
  ·subst H;refine aa ?_;show AR _ _ _ _ _ [0, 1, 2] _;refine zm rfl <| am rfl rfl (ba (c := cg (.iface 58 (.agg #[.int .i64 p26]))) [] rfl nL rfl (mG F x19 p26 e25) rfl ?_);exact And.intro rfl (Exists.intro [] ⟨aZ _, rfl, rfl⟩)
  refine aa ?_;show AR _ _ _ _ _ [0, 1, 2] _;refine zm rfl <| am rfl rfl (aC rfl nL rfl (ng F x19 x24 e25) ?_);refine za rfl <| ag <| af <| af <| aa ?_;show AR _ _ _ _ _ [0, 1, 2, 3, 4, 5] _;refine zS rfl (ah (av := .pt _ _) rfl) <| zS rfl (ar rfl) <| zS rfl (an (n := 1) (by kernel_rfl) rfl) <| zR rfl (ao (i := 0) au rfl rfl rfl rfl) <| zS rfl (ff au rfl) <| zS rfl (bL rfl rfl) <| ag <| ax rfl (fun c27 => ?_) (fun c27 => ?_)
  ·replace H := aW c27 H;refine af ?_;obtain ⟨x28, e29, H⟩ := ce H
   rcases Or.symm (cr H) with ⟨p32, e31, H⟩ | ⟨x30, e31, H⟩
   ·subst H;refine aa ?_;show AR _ _ _ _ _ [0, 1, 2, 3] _;refine zm rfl <| am rfl rfl (aC rfl tQ rfl (oC F x19 x28 e29) ?_);refine zS rfl (ej rfl rfl) <| am rfl rfl (ba (c := cg (.iface 58 (.agg #[.int .i64 p32]))) [] rfl bV rfl (bW F (decide (x28 = ([] : List UInt8))) p32 e31) rfl ?_);exact And.intro rfl (Exists.intro [] ⟨aZ _, rfl, rfl⟩)
   refine aa ?_;show AR _ _ _ _ _ [0, 1, 2, 3] _;refine zm rfl <| am rfl rfl (aC rfl tQ rfl (oC F x19 x28 e29) ?_);refine zS rfl (ej rfl rfl) <| am rfl rfl (aC rfl bV rfl (cn F (decide (x28 = ([] : List UInt8))) e31) ?_);refine ag <| af <| aa ?_;show AR _ _ _ _ _ [0] _;refine za rfl <| ag <| aG ?_;obtain rfl := aj H;exact And.intro rfl (Exists.intro _ (Exists.intro _ ⟨aD rfl (.refl _), aB [0, 0, 0] rfl, rfl, t7, rfl⟩))
  ·replace H := aX c27 H;refine aA <| af ?_;obtain ⟨x33, e34, H⟩ := ce H;refine aa ?_;show AR _ _ _ _ _ [0, 1, 2] _;refine zS rfl (ah (av := .pt _ _) rfl) <| zm rfl <| am rfl rfl (aQ [0, 0, 0] rfl tG rfl (sL F o1 x22 a3 t4 a5 a6 t7 x24 x33 e34) rfl (fun c A' h => by cases h.1) ?_)
   rintro av A' ⟨h, t35, rfl⟩; cases h
   refine ag <| af <| aa ?_;show AR _ _ _ _ _ [0] _;refine za rfl <| ag <| aG ?_;obtain rfl := aj H;exact And.intro rfl (Exists.intro _ (Exists.intro _ ⟨aD rfl (.refl _), aB [0, 0, 0] rfl, rfl, t35, rfl⟩))
theorem sd (F : Nat) (o1 : Nat) (a2 : List UInt8) (a3 : List (List UInt8)) (t4 : Nat) (a5 : Int) (a6 : List (Int × (List UInt8) × (List UInt8) × List ((List UInt8) × List UInt8))) (t7 : Nat) (r8 : Bool) (r9 : List UInt8) (r10 : List (Int × (List UInt8) × (List UInt8) × List ((List UInt8) × List UInt8))) (H : jm F a2 a3 a5 a6 = some (Res.ok (r8, r9, r10))) : ACalls Tryz.prog 31 [.pt o1 0] [.obj o1 [S a2, .sk t4 a3.length, i64 a5, slE (ab Enc.int (ab Enc.str (ab Enc.str (Enc.sl (ab Enc.str Enc.str))))) a6 (some t7)], .stk t4 (Enc.str.fl a3), .tok t7 43] (fun e A' => e = .ret (B r8) ∧ ∃ t11, A' = [.obj o1 [S r9, .sk t4 a3.length, i64 a5, slE (ab Enc.int (ab Enc.str (ab Enc.str (Enc.sl (ab Enc.str Enc.str))))) r10 (some t11)], .stk t4 (Enc.str.fl a3), .tok t11 43]) := rq F o1 a2 a3 t4 a5 a6 t7 _ H
theorem qZ (F : Nat) (o1 : Nat) (a2 : List UInt8) (a3 : List (List UInt8)) (t4 : Nat) (a5 : Int) (a6 : List (Int × (List UInt8) × (List UInt8) × List ((List UInt8) × List UInt8))) (t7 : Nat) (e : Int) (H : jm F a2 a3 a5 a6 = some (Res.pan e)) : ACalls Tryz.prog 31 [.pt o1 0] [.obj o1 [S a2, .sk t4 a3.length, i64 a5, slE (ab Enc.int (ab Enc.str (ab Enc.str (Enc.sl (ab Enc.str Enc.str))))) a6 (some t7)], .stk t4 (Enc.str.fl a3), .tok t7 43] (fun ae A' => ae = .pan ((fun e => cg (.iface 58 (.agg #[.int .i64 e]))) e) ∧ A' = []) := rq F o1 a2 a3 t4 a5 a6 t7 _ H
set_option maxRecDepth 100000 in
set_option maxHeartbeats 1000000 in
theorem oW (F : Nat) (o1 : Nat) (a2 : List UInt8) (a3 : List (List UInt8)) (t4 : Nat) (a5 : Int) (a6 : List (Int × (List UInt8) × (List UInt8) × List ((List UInt8) × List UInt8))) (t7 : Nat) (rv : Res (Bool × (List UInt8))) (H : jx F a2 a3 a5 a6 = some rv) : ACalls Tryz.prog 32 [.pt o1 0] [.obj o1 [S a2, .sk t4 a3.length, i64 a5, slE (ab Enc.int (ab Enc.str (ab Enc.str (Enc.sl (ab Enc.str Enc.str))))) a6 (some t7)], .stk t4 (Enc.str.fl a3), .tok t7 43] (js (fun (r : Bool × (List UInt8)) => (fun e A' => e = .ret (B r.1) ∧ A' = [.obj o1 [S r.2, .sk t4 a3.length, i64 a5, slE (ab Enc.int (ab Enc.str (ab Enc.str (Enc.sl (ab Enc.str Enc.str))))) a6 (some t7)], .stk t4 (Enc.str.fl a3), .tok t7 43])) (fun e => cg (.iface 58 (.agg #[.int .i64 e]))) rv) := by
 unfold jx at H
 refine ap Tryz.func32 rfl rfl ?_;show AW _ _ 8 _ _ _;refine af <| aa ?_;show AR _ _ _ _ _ [0] _;refine za rfl <| ag <| af <| af ?_;obtain ⟨x10, x11, e12, H⟩ := cD H;refine aa ?_;show AR _ _ _ _ _ [0, 1, 2] _;refine zS rfl (ah (av := .pt _ _) rfl) <| am rfl rfl (aQ [0, 0, 0] rfl ep rfl (ek F o1 a2 a3 t4 a5 a6 t7 ([60, 33, 45, 45] : List UInt8) x10 x11 e12) rfl (fun c A' h => by cases h.1) ?_)
 rintro av A' ⟨h, rfl⟩; cases h
 refine zS rfl (bG rfl) <| ag <| ax rfl (fun c13 => ?_) (fun c13 => ?_)
 ·replace H := aW c13 H;refine af <| aa ?_;show AR _ _ _ _ _ [0] _;refine za rfl <| ag <| aG ?_;obtain rfl := aj H;exact And.intro rfl (Exists.intro _ (Exists.intro _ ⟨aD rfl (.refl _), aB [0, 0, 0] rfl, rfl, rfl⟩))
 ·replace H := aX c13 H;refine aA <| af ?_
  rcases Or.symm (cr H) with ⟨p16, e15, H⟩ | ⟨x14, e15, H⟩
  ·subst H;refine aa ?_;show AR _ _ _ _ _ [0, 1] _;refine zS rfl (ah (av := .pt _ _) rfl) <| am rfl rfl (ba (c := cg (.iface 58 (.agg #[.int .i64 p16]))) [0, 0, 0] rfl gk rfl (gZ F o1 x11 a3 t4 a5 a6 t7 ([45, 45, 62] : List UInt8) p16 e15) rfl ?_);exact And.intro rfl (Exists.intro [] ⟨aZ _, rfl, rfl⟩)
  refine aa ?_;show AR _ _ _ _ _ [0, 1] _;refine zS rfl (ah (av := .pt _ _) rfl) <| am rfl rfl (aQ [0, 0, 0] rfl gk rfl (jf F o1 x11 a3 t4 a5 a6 t7 ([45, 45, 62] : List UInt8) x14.1 x14.2 e15) rfl (fun c A' h => by cases h.1) ?_)
  rintro av A' ⟨h, rfl⟩; cases h
  refine ag <| af <| aa ?_;show AR _ _ _ _ _ [0] _;refine za rfl <| ag <| aG ?_;obtain rfl := aj H;exact And.intro rfl (Exists.intro _ (Exists.intro _ ⟨aD rfl (.refl _), aB [0, 0, 0] rfl, rfl, rfl⟩))
theorem qD (F : Nat) (o1 : Nat) (a2 : List UInt8) (a3 : List (List UInt8)) (t4 : Nat) (a5 : Int) (a6 : List (Int × (List UInt8) × (List UInt8) × List ((List UInt8) × List UInt8))) (t7 : Nat) (r8 : Bool) (r9 : List UInt8) (H : jx F a2 a3 a5 a6 = some (Res.ok (r8, r9))) : ACalls Tryz.prog 32 [.pt o1 0] [.obj o1 [S a2, .sk t4 a3.length, i64 a5, slE (ab Enc.int (ab Enc.str (ab Enc.str (Enc.sl (ab Enc.str Enc.str))))) a6 (some t7)], .stk t4 (Enc.str.fl a3), .tok t7 43] (fun e A' => e = .ret (B r8) ∧ A' = [.obj o1 [S r9, .sk t4 a3.length, i64 a5, slE (ab Enc.int (ab Enc.str (ab Enc.str (Enc.sl (ab Enc.str Enc.str))))) a6 (some t7)], .stk t4 (Enc.str.fl a3), .tok t7 43]) := oW F o1 a2 a3 t4 a5 a6 t7 _ H
theorem pE (F : Nat) (o1 : Nat) (a2 : List UInt8) (a3 : List (List UInt8)) (t4 : Nat) (a5 : Int) (a6 : List (Int × (List UInt8) × (List UInt8) × List ((List UInt8) × List UInt8))) (t7 : Nat) (e : Int) (H : jx F a2 a3 a5 a6 = some (Res.pan e)) : ACalls Tryz.prog 32 [.pt o1 0] [.obj o1 [S a2, .sk t4 a3.length, i64 a5, slE (ab Enc.int (ab Enc.str (ab Enc.str (Enc.sl (ab Enc.str Enc.str))))) a6 (some t7)], .stk t4 (Enc.str.fl a3), .tok t7 43] (fun ae A' => ae = .pan ((fun e => cg (.iface 58 (.agg #[.int .i64 e]))) e) ∧ A' = []) := oW F o1 a2 a3 t4 a5 a6 t7 _ H
set_option maxRecDepth 100000 in
set_option maxHeartbeats 1000000 in
theorem vK (F : Nat) (o1 : Nat) (a2 : List UInt8) (a3 : List (List UInt8)) (t4 : Nat) (a5 : Int) (a6 : List (Int × (List UInt8) × (List UInt8) × List ((List UInt8) × List UInt8))) (t7 : Nat) (rv : Res (Bool × (List UInt8))) (H : qy F a2 a3 a5 a6 = some rv) : ACalls Tryz.prog 33 [.pt o1 0] [.obj o1 [S a2, .sk t4 a3.length, i64 a5, slE (ab Enc.int (ab Enc.str (ab Enc.str (Enc.sl (ab Enc.str Enc.str))))) a6 (some t7)], .stk t4 (Enc.str.fl a3), .tok t7 43] (js (fun (r : Bool × (List UInt8)) => (fun e A' => e = .ret (B r.1) ∧ A' = [.obj o1 [S r.2, .sk t4 a3.length, i64 a5, slE (ab Enc.int (ab Enc.str (ab Enc.str (Enc.sl (ab Enc.str Enc.str))))) a6 (some t7)], .stk t4 (Enc.str.fl a3), .tok t7 43])) (fun e => cg (.iface 58 (.agg #[.int .i64 e]))) rv) := by
 unfold qy at H
 refine ap Tryz.func33 rfl rfl ?_;show AW _ _ 8 _ _ _;refine af <| aa ?_;show AR _ _ _ _ _ [0] _;refine za rfl <| ag <| af <| af ?_;obtain ⟨x10, x11, e12, H⟩ := cD H;refine aa ?_;show AR _ _ _ _ _ [0, 1, 2] _;refine zS rfl (ah (av := .pt _ _) rfl) <| am rfl rfl (aQ [0, 0, 0] rfl ep rfl (ek F o1 a2 a3 t4 a5 a6 t7 ([60, 63] : List UInt8) x10 x11 e12) rfl (fun c A' h => by cases h.1) ?_)
 rintro av A' ⟨h, rfl⟩; cases h
 refine zS rfl (bG rfl) <| ag <| ax rfl (fun c13 => ?_) (fun c13 => ?_)
 ·replace H := aW c13 H;refine af <| aa ?_;show AR _ _ _ _ _ [0] _;refine za rfl <| ag <| aG ?_;obtain rfl := aj H;exact And.intro rfl (Exists.intro _ (Exists.intro _ ⟨aD rfl (.refl _), aB [0, 0, 0] rfl, rfl, rfl⟩))
 ·replace H := aX c13 H;refine aA <| af ?_
  rcases Or.symm (cr H) with ⟨p16, e15, H⟩ | ⟨x14, e15, H⟩
  ·subst H;refine aa ?_;show AR _ _ _ _ _ [0, 1] _;refine zS rfl (ah (av := .pt _ _) rfl) <| am rfl rfl (ba (c := cg (.iface 58 (.agg #[.int .i64 p16]))) [0, 0, 0] rfl gk rfl (gZ F o1 x11 a3 t4 a5 a6 t7 ([63, 62] : List UInt8) p16 e15) rfl ?_);exact And.intro rfl (Exists.intro [] ⟨aZ _, rfl, rfl⟩)
  refine aa ?_;show AR _ _ _ _ _ [0, 1] _;refine zS rfl (ah (av := .pt _ _) rfl) <| am rfl rfl (aQ [0, 0, 0] rfl gk rfl (jf F o1 x11 a3 t4 a5 a6 t7 ([63, 62] : List UInt8) x14.1 x14.2 e15) rfl (fun c A' h => by cases h.1) ?_)
  rintro av A' ⟨h, rfl⟩; cases h
  refine ag <| af <| aa ?_;show AR _ _ _ _ _ [0] _;refine za rfl <| ag <| aG ?_;obtain rfl := aj H;exact And.intro rfl (Exists.intro _ (Exists.intro _ ⟨aD rfl (.refl _), aB [0, 0, 0] rfl, rfl, rfl⟩))
theorem vf (F : Nat) (o1 : Nat) (a2 : List UInt8) (a3 : List (List UInt8)) (t4 : Nat) (a5 : Int) (a6 : List (Int × (List UInt8) × (List UInt8) × List ((List UInt8) × List UInt8))) (t7 : Nat) (r8 : Bool) (r9 : List UInt8) (H : qy F a2 a3 a5 a6 = some (Res.ok (r8, r9))) : ACalls Tryz.prog 33 [.pt o1 0] [.obj o1 [S a2, .sk t4 a3.length, i64 a5, slE (ab Enc.int (ab Enc.str (ab Enc.str (Enc.sl (ab Enc.str Enc.str))))) a6 (some t7)], .stk t4 (Enc.str.fl a3), .tok t7 43] (fun e A' => e = .ret (B r8) ∧ A' = [.obj o1 [S r9, .sk t4 a3.length, i64 a5, slE (ab Enc.int (ab Enc.str (ab Enc.str (Enc.sl (ab Enc.str Enc.str))))) a6 (some t7)], .stk t4 (Enc.str.fl a3), .tok t7 43]) := vK F o1 a2 a3 t4 a5 a6 t7 _ H
theorem ui (F : Nat) (o1 : Nat) (a2 : List UInt8) (a3 : List (List UInt8)) (t4 : Nat) (a5 : Int) (a6 : List (Int × (List UInt8) × (List UInt8) × List ((List UInt8) × List UInt8))) (t7 : Nat) (e : Int) (H : qy F a2 a3 a5 a6 = some (Res.pan e)) : ACalls Tryz.prog 33 [.pt o1 0] [.obj o1 [S a2, .sk t4 a3.length, i64 a5, slE (ab Enc.int (ab Enc.str (ab Enc.str (Enc.sl (ab Enc.str Enc.str))))) a6 (some t7)], .stk t4 (Enc.str.fl a3), .tok t7 43] (fun ae A' => ae = .pan ((fun e => cg (.iface 58 (.agg #[.int .i64 e]))) e) ∧ A' = []) := vK F o1 a2 a3 t4 a5 a6 t7 _ H
set_option maxRecDepth 100000 in
set_option maxHeartbeats 1000000 in
theorem sP (F : Nat) (o1 : Nat) (a2 : List UInt8) (a3 : List (List UInt8)) (t4 : Nat) (a5 : Int) (a6 : List (Int × (List UInt8) × (List UInt8) × List ((List UInt8) × List UInt8))) (t7 : Nat) (rv : Res (Bool × (List UInt8) × (List (Int × (List UInt8) × (List UInt8) × List ((List UInt8) × List UInt8))))) (H : lQ F a2 a3 a5 a6 = some rv) : ACalls Tryz.prog 34 [.pt o1 0] [.obj o1 [S a2, .sk t4 a3.length, i64 a5, slE (ab Enc.int (ab Enc.str (ab Enc.str (Enc.sl (ab Enc.str Enc.str))))) a6 (some t7)], .stk t4 (Enc.str.fl a3), .tok t7 43] (js (fun (r : Bool × (List UInt8) × (List (Int × (List UInt8) × (List UInt8) × List ((List UInt8) × List UInt8)))) => (fun e A' => e = .ret (B r.1) ∧ ∃ t11, A' = [.obj o1 [S r.2.1, .sk t4 a3.length, i64 a5, slE (ab Enc.int (ab Enc.str (ab Enc.str (Enc.sl (ab Enc.str Enc.str))))) r.2.2 (some t11)], .stk t4 (Enc.str.fl a3), .tok t11 43])) (fun e => cg (.iface 58 (.agg #[.int .i64 e]))) rv) := by
 unfold lQ at H
 refine ap Tryz.func34 rfl rfl ?_;show AW _ _ 19 _ _ _;refine af <| aa ?_;show AR _ _ _ _ _ [0] _;refine za rfl <| ag <| af <| af ?_;obtain ⟨x12, x13, e14, H⟩ := cD H;refine aa ?_;show AR _ _ _ _ _ [0, 1, 2] _;refine zS rfl (ah (av := .pt _ _) rfl) <| am rfl rfl (aQ [0, 0, 0] rfl ep rfl (ek F o1 a2 a3 t4 a5 a6 t7 ([60, 33, 91, 67, 68, 65, 84, 65, 91] : List UInt8) x12 x13 e14) rfl (fun c A' h => by cases h.1) ?_)
 rintro av A' ⟨h, rfl⟩; cases h
 refine zS rfl (bG rfl) <| ag <| ax rfl (fun c15 => ?_) (fun c15 => ?_)
 ·replace H := aW c15 H;refine af <| aa ?_;show AR _ _ _ _ _ [0] _;refine za rfl <| ag <| aG ?_;obtain rfl := aj H;exact And.intro rfl (Exists.intro _ (Exists.intro _ ⟨aD rfl (.refl _), aB [0, 0, 0] rfl, rfl, t7, rfl⟩))
 ·replace H := aX c15 H;refine aA <| af ?_
  rcases Or.symm (cr H) with ⟨p18, e17, H⟩ | ⟨x16, e17, H⟩
  ·subst H;refine aa ?_;show AR _ _ _ _ _ [0, 1, 2] _;refine zS rfl (ah (av := .pt _ _) rfl) <| am rfl rfl (ba (c := cg (.iface 58 (.agg #[.int .i64 p18]))) [0, 0, 0] rfl gk rfl (gZ F o1 x13 a3 t4 a5 a6 t7 ([93, 93, 62] : List UInt8) p18 e17) rfl ?_);exact And.intro rfl (Exists.intro [] ⟨aZ _, rfl, rfl⟩)
  refine aa ?_;show AR _ _ _ _ _ [0, 1, 2] _;refine zS rfl (ah (av := .pt _ _) rfl) <| am rfl rfl (aQ [0, 0, 0] rfl gk rfl (jf F o1 x13 a3 t4 a5 a6 t7 ([93, 93, 62] : List UInt8) x16.1 x16.2 e17) rfl (fun c A' h => by cases h.1) ?_)
  rintro av A' ⟨h, rfl⟩; cases h
  refine za rfl <| ag <| af ?_
  rcases Or.symm (cr H) with ⟨p21, e20, H⟩ | ⟨x19, e20, H⟩
  ·subst H;refine aa ?_;show AR _ _ _ _ _ [0, 1, 2, 3, 4, 5, 6] _;refine zS rfl (ah (av := .pt _ _) rfl) <| zS rfl (ar rfl) <| zS rfl (an (n := 1) (by kernel_rfl) rfl) <| zR rfl (ao (i := 0) au rfl rfl rfl rfl) <| zS rfl (ff au rfl) <| zS rfl (fH rfl rfl) <| am rfl rfl (ba (c := cg (.iface 58 (.agg #[.int .i64 p21]))) [] rfl bV rfl (bW F (decide (0 < (a3.length : Int))) p21 e20) rfl ?_);exact And.intro rfl (Exists.intro [] ⟨aZ _, rfl, rfl⟩)
  refine aa ?_;show AR _ _ _ _ _ [0, 1, 2, 3, 4, 5, 6] _;refine zS rfl (ah (av := .pt _ _) rfl) <| zS rfl (ar rfl) <| zS rfl (an (n := 1) (by kernel_rfl) rfl) <| zR rfl (ao (i := 0) au rfl rfl rfl rfl) <| zS rfl (ff au rfl) <| zS rfl (fH rfl rfl) <| am rfl rfl (aC rfl bV rfl (cn F (decide (0 < (a3.length : Int))) e20) ?_);refine ag <| af ?_;obtain ⟨x22, e23, H⟩ := ce H;refine aa ?_;show AR _ _ _ _ _ [0, 1, 2] _;refine zS rfl (ah (av := .pt _ _) rfl) <| zm rfl <| am rfl rfl (aQ [0, 0, 0] rfl tG rfl (sL F o1 x16.2 a3 t4 a5 a6 t7 x16.1 x22 e23) rfl (fun c A' h => by cases h.1) ?_)
  rintro av A' ⟨h, t24, rfl⟩; cases h
  refine ag <| af <| aa ?_;show AR _ _ _ _ _ [0] _;refine za rfl <| ag <| aG ?_;obtain rfl := aj H;exact And.intro rfl (Exists.intro _ (Exists.intro _ ⟨aD rfl (.refl _), aB [0, 0, 0] rfl, rfl, t24, rfl⟩))
theorem ug (F : Nat) (o1 : Nat) (a2 : List UInt8) (a3 : List (List UInt8)) (t4 : Nat) (a5 : Int) (a6 : List (Int × (List UInt8) × (List UInt8) × List ((List UInt8) × List UInt8))) (t7 : Nat) (r8 : Bool) (r9 : List UInt8) (r10 : List (Int × (List UInt8) × (List UInt8) × List ((List UInt8) × List UInt8))) (H : lQ F a2 a3 a5 a6 = some (Res.ok (r8, r9, r10))) : ACalls Tryz.prog 34 [.pt o1 0] [.obj o1 [S a2, .sk t4 a3.length, i64 a5, slE (ab Enc.int (ab Enc.str (ab Enc.str (Enc.sl (ab Enc.str Enc.str))))) a6 (some t7)], .stk t4 (Enc.str.fl a3), .tok t7 43] (fun e A' => e = .ret (B r8) ∧ ∃ t11, A' = [.obj o1 [S r9, .sk t4 a3.length, i64 a5, slE (ab Enc.int (ab Enc.str (ab Enc.str (Enc.sl (ab Enc.str Enc.str))))) r10 (some t11)], .stk t4 (Enc.str.fl a3), .tok t11 43]) := sP F o1 a2 a3 t4 a5 a6 t7 _ H
theorem se (F : Nat) (o1 : Nat) (a2 : List UInt8) (a3 : List (List UInt8)) (t4 : Nat) (a5 : Int) (a6 : List (Int × (List UInt8) × (List UInt8) × List ((List UInt8) × List UInt8))) (t7 : Nat) (e : Int) (H : lQ F a2 a3 a5 a6 = some (Res.pan e)) : ACalls Tryz.prog 34 [.pt o1 0] [.obj o1 [S a2, .sk t4 a3.length, i64 a5, slE (ab Enc.int (ab Enc.str (ab Enc.str (Enc.sl (ab Enc.str Enc.str))))) a6 (some t7)], .stk t4 (Enc.str.fl a3), .tok t7 43] (fun ae A' => ae = .pan ((fun e => cg (.iface 58 (.agg #[.int .i64 e]))) e) ∧ A' = []) := sP F o1 a2 a3 t4 a5 a6 t7 _ H
set_option maxRecDepth 100000 in
set_option maxHeartbeats 1000000 in
theorem vJ (F : Nat) (o1 : Nat) (a2 : List UInt8) (a3 : List (List UInt8)) (t4 : Nat) (a5 : Int) (a6 : List (Int × (List UInt8) × (List UInt8) × List ((List UInt8) × List UInt8))) (t7 : Nat) (rv : Res (Bool × (List UInt8))) (H : qx F a2 a3 a5 a6 = some rv) : ACalls Tryz.prog 35 [.pt o1 0] [.obj o1 [S a2, .sk t4 a3.length, i64 a5, slE (ab Enc.int (ab Enc.str (ab Enc.str (Enc.sl (ab Enc.str Enc.str))))) a6 (some t7)], .stk t4 (Enc.str.fl a3), .tok t7 43] (js (fun (r : Bool × (List UInt8)) => (fun e A' => e = .ret (B r.1) ∧ A' = [.obj o1 [S r.2, .sk t4 a3.length, i64 a5, slE (ab Enc.int (ab Enc.str (ab Enc.str (Enc.sl (ab Enc.str Enc.str))))) a6 (some t7)], .stk t4 (Enc.str.fl a3), .tok t7 43])) (fun e => cg (.iface 58 (.agg #[.int .i64 e]))) rv) := by
 unfold qx at H
 refine ap Tryz.func35 rfl rfl ?_;show AW _ _ 8 _ _ _;refine af <| aa ?_;show AR _ _ _ _ _ [0] _;refine za rfl <| ag <| af <| af ?_;obtain ⟨x10, x11, e12, H⟩ := cD H;refine aa ?_;show AR _ _ _ _ _ [0, 1, 2] _;refine zS rfl (ah (av := .pt _ _) rfl) <| am rfl rfl (aQ [0, 0, 0] rfl ep rfl (ek F o1 a2 a3 t4 a5 a6 t7 ([60, 33] : List UInt8) x10 x11 e12) rfl (fun c A' h => by cases h.1) ?_)
 rintro av A' ⟨h, rfl⟩; cases h
 refine zS rfl (bG rfl) <| ag <| ax rfl (fun c13 => ?_) (fun c13 => ?_)
 ·replace H := aW c13 H;refine af <| aa ?_;show AR _ _ _ _ _ [0] _;refine za rfl <| ag <| aG ?_;obtain rfl := aj H;exact And.intro rfl (Exists.intro _ (Exists.intro _ ⟨aD rfl (.refl _), aB [0, 0, 0] rfl, rfl, rfl⟩))
 ·replace H := aX c13 H;refine aA <| af ?_
  rcases Or.symm (cr H) with ⟨p16, e15, H⟩ | ⟨x14, e15, H⟩
  ·subst H;refine aa ?_;show AR _ _ _ _ _ [0, 1] _;refine zS rfl (ah (av := .pt _ _) rfl) <| am rfl rfl (ba (c := cg (.iface 58 (.agg #[.int .i64 p16]))) [0, 0, 0] rfl gk rfl (gZ F o1 x11 a3 t4 a5 a6 t7 ([62] : List UInt8) p16 e15) rfl ?_);exact And.intro rfl (Exists.intro [] ⟨aZ _, rfl, rfl⟩)
  refine aa ?_;show AR _ _ _ _ _ [0, 1] _;refine zS rfl (ah (av := .pt _ _) rfl) <| am rfl rfl (aQ [0, 0, 0] rfl gk rfl (jf F o1 x11 a3 t4 a5 a6 t7 ([62] : List UInt8) x14.1 x14.2 e15) rfl (fun c A' h => by cases h.1) ?_)
  rintro av A' ⟨h, rfl⟩; cases h
  refine ag <| af <| aa ?_;show AR _ _ _ _ _ [0] _;refine za rfl <| ag <| aG ?_;obtain rfl := aj H;exact And.intro rfl (Exists.intro _ (Exists.intro _ ⟨aD rfl (.refl _), aB [0, 0, 0] rfl, rfl, rfl⟩))
theorem ve (F : Nat) (o1 : Nat) (a2 : List UInt8) (a3 : List (List UInt8)) (t4 : Nat) (a5 : Int) (a6 : List (Int × (List UInt8) × (List UInt8) × List ((List UInt8) × List UInt8))) (t7 : Nat) (r8 : Bool) (r9 : List UInt8) (H : qx F a2 a3 a5 a6 = some (Res.ok (r8, r9))) : ACalls Tryz.prog 35 [.pt o1 0] [.obj o1 [S a2, .sk t4 a3.length, i64 a5, slE (ab Enc.int (ab Enc.str (ab Enc.str (Enc.sl (ab Enc.str Enc.str))))) a6 (some t7)], .stk t4 (Enc.str.fl a3), .tok t7 43] (fun e A' => e = .ret (B r8) ∧ A' = [.obj o1 [S r9, .sk t4 a3.length, i64 a5, slE (ab Enc.int (ab Enc.str (ab Enc.str (Enc.sl (ab Enc.str Enc.str))))) a6 (some t7)], .stk t4 (Enc.str.fl a3), .tok t7 43]) := vJ F o1 a2 a3 t4 a5 a6 t7 _ H
theorem uf (F : Nat) (o1 : Nat) (a2 : List UInt8) (a3 : List (List UInt8)) (t4 : Nat) (a5 : Int) (a6 : List (Int × (List UInt8) × (List UInt8) × List ((List UInt8) × List UInt8))) (t7 : Nat) (e : Int) (H : qx F a2 a3 a5 a6 = some (Res.pan e)) : ACalls Tryz.prog 35 [.pt o1 0] [.obj o1 [S a2, .sk t4 a3.length, i64 a5, slE (ab Enc.int (ab Enc.str (ab Enc.str (Enc.sl (ab Enc.str Enc.str))))) a6 (some t7)], .stk t4 (Enc.str.fl a3), .tok t7 43] (fun ae A' => ae = .pan ((fun e => cg (.iface 58 (.agg #[.int .i64 e]))) e) ∧ A' = []) := vJ F o1 a2 a3 t4 a5 a6 t7 _ H
set_option maxRecDepth 100000 in
set_option maxHeartbeats 1000000 in
theorem qc (F : Nat) (o1 : Nat) (a2 : List UInt8) (a3 : List (List UInt8)) (t4 : Nat) (a5 : Int) (a6 : List (Int × (List UInt8) × (List UInt8) × List ((List UInt8) × List UInt8))) (t7 : Nat) (rv : Res (Bool × (List UInt8) × (List (Int × (List UInt8) × (List UInt8) × List ((List UInt8) × List UInt8))) × (List (List UInt8)))) (H : iP F a2 a3 a5 a6 = some rv) : ACalls Tryz.prog 36 [.pt o1 0] [.obj o1 [S a2, .sk t4 a3.length, i64 a5, slE (ab Enc.int (ab Enc.str (ab Enc.str (Enc.sl (ab Enc.str Enc.str))))) a6 (some t7)], .stk t4 (Enc.str.fl a3), .tok t7 43] (js (fun (r : Bool × (List UInt8) × (List (Int × (List UInt8) × (List UInt8) × List ((List UInt8) × List UInt8))) × (List (List UInt8))) => (fun e A' => e = .ret (B r.1) ∧ ∃ t11 t13, A' = [.obj o1 [S r.2.1, .sk t11 r.2.2.2.length, i64 a5, slE (ab Enc.int (ab Enc.str (ab Enc.str (Enc.sl (ab Enc.str Enc.str))))) r.2.2.1 (some t13)], .stk t11 (Enc.str.fl r.2.2.2), .tok t13 43])) (fun e => cg (.iface 58 (.agg #[.int .i64 e]))) rv) := by
 unfold iP at H
 refine ap Tryz.func36 rfl rfl ?_;show AW _ _ 17 _ _ _;refine af <| aa ?_;show AR _ _ _ _ _ [0] _;refine za rfl <| ag <| af <| af ?_;obtain ⟨x14, x15, e16, H⟩ := cD H;refine aa ?_;show AR _ _ _ _ _ [0, 1, 2] _;refine zS rfl (ah (av := .pt _ _) rfl) <| am rfl rfl (aQ [0, 0, 0] rfl ep rfl (ek F o1 a2 a3 t4 a5 a6 t7 ([60, 47] : List UInt8) x14 x15 e16) rfl (fun c A' h => by cases h.1) ?_)
 rintro av A' ⟨h, rfl⟩; cases h
 refine zS rfl (bG rfl) <| ag <| ax rfl (fun c17 => ?_) (fun c17 => ?_)
 ·replace H := aW c17 H;refine af <| aa ?_;show AR _ _ _ _ _ [0] _;refine za rfl <| ag <| aG ?_;obtain rfl := aj H;exact And.intro rfl (Exists.intro _ (Exists.intro _ ⟨aD rfl (.refl _), aB [0, 0, 0] rfl, rfl, t4, t7, rfl⟩))
 ·replace H := aX c17 H;refine aA <| af ?_
  rcases Or.symm (cr H) with ⟨p20, e19, H⟩ | ⟨x18, e19, H⟩
  ·subst H;refine aa ?_;show AR _ _ _ _ _ [0, 1, 2] _;refine zS rfl (ah (av := .pt _ _) rfl) <| am rfl rfl (ba (c := cg (.iface 58 (.agg #[.int .i64 p20]))) [0, 0, 0] rfl kO rfl (lG F o1 x15 a3 t4 a5 a6 t7 p20 e19) rfl ?_);exact And.intro rfl (Exists.intro [] ⟨aZ _, rfl, rfl⟩)
  refine aa ?_;show AR _ _ _ _ _ [0, 1, 2] _;refine zS rfl (ah (av := .pt _ _) rfl) <| am rfl rfl (aQ [0, 0, 0] rfl kO rfl (mw F o1 x15 a3 t4 a5 a6 t7 x18.1 x18.2 e19) rfl (fun c A' h => by cases h.1) ?_)
  rintro av A' ⟨h, rfl⟩; cases h
  refine za rfl <| ag <| af ?_;obtain ⟨x21, x22, e23, H⟩ := cD H;refine aa ?_;show AR _ _ _ _ _ [0, 1] _;refine zS rfl (ah (av := .pt _ _) rfl) <| am rfl rfl (aQ [0, 0, 0] rfl tF rfl (qb F o1 x18.2 a3 t4 a5 a6 t7 x21 x22 e23) rfl (fun c A' h => by cases h.1) ?_)
  rintro av A' ⟨h, rfl⟩; cases h
  refine ag <| af ?_;obtain ⟨x24, x25, e26, H⟩ := cD H
  rcases Or.symm (cr H) with ⟨p29, e28, H⟩ | ⟨x27, e28, H⟩
  ·subst H;refine aa ?_;show AR _ _ _ _ _ [0, 1, 2] _;refine zS rfl (ah (av := .pt _ _) rfl) <| am rfl rfl (aQ [0, 0, 0] rfl ep rfl (ek F o1 x22 a3 t4 a5 a6 t7 ([62] : List UInt8) x24 x25 e26) rfl (fun c A' h => by cases h.1) ?_)
   rintro av A' ⟨h, rfl⟩; cases h
   refine am rfl rfl (ba (c := cg (.iface 58 (.agg #[.int .i64 p29]))) [] rfl bV rfl (bW F x24 p29 e28) rfl ?_);exact And.intro rfl (Exists.intro [] ⟨aZ _, rfl, rfl⟩)
  refine aa ?_;show AR _ _ _ _ _ [0, 1, 2] _;refine zS rfl (ah (av := .pt _ _) rfl) <| am rfl rfl (aQ [0, 0, 0] rfl ep rfl (ek F o1 x22 a3 t4 a5 a6 t7 ([62] : List UInt8) x24 x25 e26) rfl (fun c A' h => by cases h.1) ?_)
  rintro av A' ⟨h, rfl⟩; cases h
  refine am rfl rfl (aC rfl bV rfl (cn F x24 e28) ?_);refine ag <| af ?_
  rcases Or.symm (cr H) with ⟨p32, e31, H⟩ | ⟨x30, e31, H⟩
  ·subst H;refine aa ?_;show AR _ _ _ _ _ [0, 1, 2] _;refine zS rfl (ah (av := .pt _ _) rfl) <| zm rfl <| am rfl rfl (ba (c := cg (.iface 58 (.agg #[.int .i64 p32]))) [0, 0, 0] rfl nK rfl (og F o1 x25 a3 t4 a5 a6 t7 x18.1 p32 e31) rfl ?_);exact And.intro rfl (Exists.intro [] ⟨aZ _, rfl, rfl⟩)
  refine aa ?_;show AR _ _ _ _ _ [0, 1, 2] _;refine zS rfl (ah (av := .pt _ _) rfl) <| zm rfl <| am rfl rfl (aQ [0, 0, 0] rfl nK rfl (oU F o1 x25 a3 t4 a5 a6 t7 x18.1 x30.1 x30.2 e31) rfl (fun c A' h => by cases h.1) ?_)
  rintro av A' ⟨h, t33, t34, rfl⟩; cases h
  refine ag <| af <| aa ?_;show AR _ _ _ _ _ [0] _;refine za rfl <| ag <| aG ?_;obtain rfl := aj H;exact And.intro rfl (Exists.intro _ (Exists.intro _ ⟨aD rfl (.refl _), aB [0, 0, 0] rfl, rfl, t33, t34, rfl⟩))
theorem ra (F : Nat) (o1 : Nat) (a2 : List UInt8) (a3 : List (List UInt8)) (t4 : Nat) (a5 : Int) (a6 : List (Int × (List UInt8) × (List UInt8) × List ((List UInt8) × List UInt8))) (t7 : Nat) (r8 : Bool) (r9 : List UInt8) (r12 : List (Int × (List UInt8) × (List UInt8) × List ((List UInt8) × List UInt8))) (r10 : List (List UInt8)) (H : iP F a2 a3 a5 a6 = some (Res.ok (r8, r9, r12, r10))) : ACalls Tryz.prog 36 [.pt o1 0] [.obj o1 [S a2, .sk t4 a3.length, i64 a5, slE (ab Enc.int (ab Enc.str (ab Enc.str (Enc.sl (ab Enc.str Enc.str))))) a6 (some t7)], .stk t4 (Enc.str.fl a3), .tok t7 43] (fun e A' => e = .ret (B r8) ∧ ∃ t11 t13, A' = [.obj o1 [S r9, .sk t11 r10.length, i64 a5, slE (ab Enc.int (ab Enc.str (ab Enc.str (Enc.sl (ab Enc.str Enc.str))))) r12 (some t13)], .stk t11 (Enc.str.fl r10), .tok t13 43]) := qc F o1 a2 a3 t4 a5 a6 t7 _ H
theorem qB (F : Nat) (o1 : Nat) (a2 : List UInt8) (a3 : List (List UInt8)) (t4 : Nat) (a5 : Int) (a6 : List (Int × (List UInt8) × (List UInt8) × List ((List UInt8) × List UInt8))) (t7 : Nat) (e : Int) (H : iP F a2 a3 a5 a6 = some (Res.pan e)) : ACalls Tryz.prog 36 [.pt o1 0] [.obj o1 [S a2, .sk t4 a3.length, i64 a5, slE (ab Enc.int (ab Enc.str (ab Enc.str (Enc.sl (ab Enc.str Enc.str))))) a6 (some t7)], .stk t4 (Enc.str.fl a3), .tok t7 43] (fun ae A' => ae = .pan ((fun e => cg (.iface 58 (.agg #[.int .i64 e]))) e) ∧ A' = []) := qc F o1 a2 a3 t4 a5 a6 t7 _ H
set_option maxRecDepth 100000 in
set_option maxHeartbeats 1000000 in
theorem sQ (F : Nat) (o1 : Nat) (a2 : List UInt8) (a3 : List (List UInt8)) (t4 : Nat) (a5 : Int) (a6 : List (Int × (List UInt8) × (List UInt8) × List ((List UInt8) × List UInt8))) (t7 : Nat) (rv : Res ((List UInt8) × (List UInt8) × (List UInt8))) (H : mP F a2 a3 a5 a6 = some rv) : ACalls Tryz.prog 53 [.pt o1 0] [.obj o1 [S a2, .sk t4 a3.length, i64 a5, slE (ab Enc.int (ab Enc.str (ab Enc.str (Enc.sl (ab Enc.str Enc.str))))) a6 (some t7)], .stk t4 (Enc.str.fl a3), .tok t7 43] (js (fun (r : (List UInt8) × (List UInt8) × (List UInt8)) => (fun e A' => e = .ret (.agg [S r.1, S r.2.1]) ∧ A' = [.obj o1 [S r.2.2, .sk t4 a3.length, i64 a5, slE (ab Enc.int (ab Enc.str (ab Enc.str (Enc.sl (ab Enc.str Enc.str))))) a6 (some t7)], .stk t4 (Enc.str.fl a3), .tok t7 43])) (fun e => cg (.iface 58 (.agg #[.int .i64 e]))) rv) := by
 unfold mP at H
 refine ap Tryz.func53 rfl rfl ?_;show AW _ _ 26 _ _ _;refine af <| aa ?_;show AR _ _ _ _ _ [0] _;refine zX rfl (bj (zs := [.string ⟨#[]⟩, .string ⟨#[]⟩]) (by kernel_rfl)) ?_;rintro _ _ ⟨o11, rfl, rfl⟩;refine ag <| af ?_
 rcases Or.symm (cr H) with ⟨p14, e13, H⟩ | ⟨x12, e13, H⟩
 ·subst H;refine aa ?_;show AR _ _ _ _ _ [0, 1, 2, 3, 4] _;refine zS rfl (ah (av := .pt _ _) rfl) <| am rfl rfl (ba (c := cg (.iface 58 (.agg #[.int .i64 p14]))) [1, 1, 1] rfl kO rfl (lG F o1 a2 a3 t4 a5 a6 t7 p14 e13) rfl ?_);exact And.intro rfl (Exists.intro [] ⟨aZ _, rfl, rfl⟩)
 refine aa ?_;show AR _ _ _ _ _ [0, 1, 2, 3, 4] _;refine zS rfl (ah (av := .pt _ _) rfl) <| am rfl rfl (aQ [1, 1, 1] rfl kO rfl (mw F o1 a2 a3 t4 a5 a6 t7 x12.1 x12.2 e13) rfl (fun c A' h => by cases h.1) ?_)
 rintro av A' ⟨h, rfl⟩; cases h
 refine zS rfl (cQ (zs := [.string ⟨#[]⟩, .string ⟨#[]⟩]) (ps := [(0, 1), (1, 1)]) (cs := [S x12.1, S ([] : List UInt8)]) (by kernel_rfl) rfl rfl) <| zX rfl (bj (zs := [.string ⟨#[]⟩, .string ⟨#[]⟩]) (by kernel_rfl)) ?_;rintro _ _ ⟨o15, rfl, rfl⟩;refine s0 rfl rfl (aV (i := 0) (vs := [S x12.1, S ([] : List UInt8)]) (by kernel_rfl) rfl rfl (by simp [bA, slE]) rfl (ac rfl)) <| ag <| af <| aa ?_;show AR _ _ _ _ _ [0] _;refine za rfl <| ag <| bJ (X := (List UInt8) × (List UInt8)) (fun (y26, y27) => ⟨[(0, .pt o1 0), (2, .pt o11 0), (3, .pt o15 0), (4, S y26)], [], [.obj o1 [S y27, .sk t4 a3.length, i64 a5, slE (ab Enc.int (ab Enc.str (ab Enc.str (Enc.sl (ab Enc.str Enc.str))))) a6 (some t7)], .obj o15 [S x12.1, S ([] : List UInt8)], .obj o11 [S ([] : List UInt8), S ([] : List UInt8)], .stk t4 (Enc.str.fl a3), .tok t7 43]⟩) (fun (y26, y27) => iv F a3 a5 a6 x12 y26 y27 = some rv) ?_ ?_
 ·refine af ?_;obtain ⟨x16, x17, e18, H⟩ := cD H;refine aa ?_;show AR _ _ _ _ _ [0, 1, 2] _;refine zS rfl (ah (av := .pt _ _) rfl) <| am rfl rfl (aQ [1, 1, 1] rfl ep rfl (ek F o1 x12.2 a3 t4 a5 a6 t7 ([61, 34] : List UInt8) x16 x17 e18) rfl (fun c A' h => by cases h.1) ?_)
  rintro av A' ⟨h, rfl⟩; cases h
  refine zS rfl (bG rfl) <| ag <| ax rfl (fun c19 => ?_) (fun c19 => ?_)
  ·replace H := aW c19 H;refine af ?_;obtain ⟨x20, x21, e22, H⟩ := cD H
   rcases Or.symm (cr H) with ⟨p25, e24, H⟩ | ⟨x23, e24, H⟩
   ·subst H;refine aa ?_;show AR _ _ _ _ _ [0, 1, 2] _;refine zS rfl (ah (av := .pt _ _) rfl) <| am rfl rfl (aQ [0, 0, 0] rfl ep rfl (ek F o1 x17 a3 t4 a5 a6 t7 ([61, 39] : List UInt8) x20 x21 e22) rfl (fun c A' h => by cases h.1) ?_)
    rintro av A' ⟨h, rfl⟩; cases h
    refine am rfl rfl (ba (c := cg (.iface 58 (.agg #[.int .i64 p25]))) [] rfl bV rfl (bW F x20 p25 e24) rfl ?_);exact And.intro rfl (Exists.intro [] ⟨aZ _, rfl, rfl⟩)
   refine aa ?_;show AR _ _ _ _ _ [0, 1, 2] _;refine zS rfl (ah (av := .pt _ _) rfl) <| am rfl rfl (aQ [0, 0, 0] rfl ep rfl (ek F o1 x17 a3 t4 a5 a6 t7 ([61, 39] : List UInt8) x20 x21 e22) rfl (fun c A' h => by cases h.1) ?_)
   rintro av A' ⟨h, rfl⟩; cases h
   refine am rfl rfl (aC rfl bV rfl (cn F x20 e24) ?_);refine ag <| aa ?_;show AR _ _ _ _ _ [0] _;refine za rfl <| ag ?_;exact Exists.intro (([39] : List UInt8), x21) ⟨H, bc [0, 2, 2, 0, 0] (.cons (.refl _) (.cons (.refl _) (.cons (.refl _) (.cons (.refl _) (.nil _))))) rfl⟩
  ·replace H := aX c19 H;refine aA ?_;exact Exists.intro (([34] : List UInt8), x17) ⟨H, bc [0, 2, 2, 0, 0] (.cons (.refl _) (.cons (.refl _) (.cons (.refl _) (.cons (.refl _) (.nil _))))) rfl⟩
 rintro ⟨y26, y27⟩ H;replace H : iv F a3 a5 a6 x12 y26 y27 = some rv := H
 unfold iv at H
 refine af ?_
 rcases Or.symm (cr H) with ⟨p31, e30, H⟩ | ⟨x29, e30, H⟩
 ·subst H;refine aa ?_;show AR _ _ _ _ _ [0, 1, 2, 3] _;refine zS rfl (ah (av := .pt _ _) rfl) <| zm rfl <| am rfl rfl (ba (c := cg (.iface 58 (.agg #[.int .i64 p31]))) [0, 2, 2] rfl gk rfl (gZ F o1 y27 a3 t4 a5 a6 t7 y26 p31 e30) rfl ?_);exact And.intro rfl (Exists.intro [] ⟨aZ _, rfl, rfl⟩)
 refine aa ?_;show AR _ _ _ _ _ [0, 1, 2, 3] _;refine zS rfl (ah (av := .pt _ _) rfl) <| zm rfl <| am rfl rfl (aQ [0, 2, 2] rfl gk rfl (jf F o1 y27 a3 t4 a5 a6 t7 y26 x29.1 x29.2 e30) rfl (fun c A' h => by cases h.1) ?_)
 rintro av A' ⟨h, rfl⟩; cases h
 refine za rfl <| ag <| af ?_;obtain ⟨g32, H⟩ := aM H;obtain ⟨x33, e34, H⟩ := bO H
 rcases Or.symm (cr H) with ⟨p37, e36, H⟩ | ⟨x35, e36, H⟩
 ·subst H;refine aa ?_;show AR _ _ _ _ _ [0, 1, 2, 3] _;refine zm rfl <| am rfl rfl (aC rfl pU rfl (show ACalls _ _ _ [] (Ret (B x33) []) from by subst e34; exact gJ x29.1 ([60] : List UInt8) (mM g32)) ?_);refine zS rfl (bG rfl) <| am rfl rfl (ba (c := cg (.iface 58 (.agg #[.int .i64 p37]))) [] rfl bV rfl (bW F (!x33) p37 e36) rfl ?_);exact And.intro rfl (Exists.intro [] ⟨aZ _, rfl, rfl⟩)
 refine aa ?_;show AR _ _ _ _ _ [0, 1, 2, 3] _;refine zm rfl <| am rfl rfl (aC rfl pU rfl (show ACalls _ _ _ [] (Ret (B x33) []) from by subst e34; exact gJ x29.1 ([60] : List UInt8) (mM g32)) ?_);refine zS rfl (bG rfl) <| am rfl rfl (aC rfl bV rfl (cn F (!x33) e36) ?_);refine ag <| af ?_
 rcases Or.symm (cr H) with ⟨p40, e39, H⟩ | ⟨x38, e39, H⟩
 ·subst H;refine aa ?_;show AR _ _ _ _ _ [0, 1, 2, 3] _;refine zm rfl <| am rfl rfl (ba (c := cg (.iface 58 (.agg #[.int .i64 p40]))) [] rfl nL rfl (mG F x29.1 p40 e39) rfl ?_);exact And.intro rfl (Exists.intro [] ⟨aZ _, rfl, rfl⟩)
 refine aa ?_;show AR _ _ _ _ _ [0, 1, 2, 3] _;refine zm rfl <| am rfl rfl (aC rfl nL rfl (ng F x29.1 x38 e39) ?_);refine zS rfl (an (n := 1) (by kernel_rfl) rfl) <| s0 rfl rfl (aq (i := 3) (c := .v _) (by kernel_rfl) rfl rfl rfl rfl (ac rfl)) <| ag <| af <| aa ?_;show AR _ _ _ _ _ [0, 1] _;refine zR rfl (dW (i := 3) (n := 2) Tryz.underlying94 rfl (by kernel_rfl) rfl rfl (ac rfl)) <| s0 rfl rfl (aV (i := 4) (vs := [S x12.1, S x38]) (by kernel_rfl) rfl rfl (by simp [bA, slE]) rfl (ac rfl)) <| ag <| aG ?_;obtain rfl := aj H;exact And.intro rfl (Exists.intro _ (Exists.intro _ ⟨dl (lB rfl (CellV.agg (off := 0) (cs := [S x12.1, S x38]) (n := 2) 4 Tryz.underlying94 rfl (by kernel_rfl) rfl rfl (ac rfl))), aB [0, 0, 0] rfl, rfl, rfl⟩))
theorem uh (F : Nat) (o1 : Nat) (a2 : List UInt8) (a3 : List (List UInt8)) (t4 : Nat) (a5 : Int) (a6 : List (Int × (List UInt8) × (List UInt8) × List ((List UInt8) × List UInt8))) (t7 : Nat) (r8 : List UInt8) (r9 : List UInt8) (r10 : List UInt8) (H : mP F a2 a3 a5 a6 = some (Res.ok (r8, r9, r10))) : ACalls Tryz.prog 53 [.pt o1 0] [.obj o1 [S a2, .sk t4 a3.length, i64 a5, slE (ab Enc.int (ab Enc.str (ab Enc.str (Enc.sl (ab Enc.str Enc.str))))) a6 (some t7)], .stk t4 (Enc.str.fl a3), .tok t7 43] (fun e A' => e = .ret (.agg [S r8, S r9]) ∧ A' = [.obj o1 [S r10, .sk t4 a3.length, i64 a5, slE (ab Enc.int (ab Enc.str (ab Enc.str (Enc.sl (ab Enc.str Enc.str))))) a6 (some t7)], .stk t4 (Enc.str.fl a3), .tok t7 43]) := sQ F o1 a2 a3 t4 a5 a6 t7 _ H
theorem sf (F : Nat) (o1 : Nat) (a2 : List UInt8) (a3 : List (List UInt8)) (t4 : Nat) (a5 : Int) (a6 : List (Int × (List UInt8) × (List UInt8) × List ((List UInt8) × List UInt8))) (t7 : Nat) (e : Int) (H : mP F a2 a3 a5 a6 = some (Res.pan e)) : ACalls Tryz.prog 53 [.pt o1 0] [.obj o1 [S a2, .sk t4 a3.length, i64 a5, slE (ab Enc.int (ab Enc.str (ab Enc.str (Enc.sl (ab Enc.str Enc.str))))) a6 (some t7)], .stk t4 (Enc.str.fl a3), .tok t7 43] (fun ae A' => ae = .pan ((fun e => cg (.iface 58 (.agg #[.int .i64 e]))) e) ∧ A' = []) := sQ F o1 a2 a3 t4 a5 a6 t7 _ H
set_option maxRecDepth 100000 in
set_option maxHeartbeats 1000000 in
theorem wD (F : Nat) (a1 : List UInt8) (a2 : List UInt8) (o3 : Nat) (a4 : List UInt8) (a5 : List UInt8) (r6 : Bool) (H : pm F a1 a2 a4 a5 = some r6) : ACalls Tryz.prog 55 [.agg [S a1, S a2], .pt o3 0] [.obj o3 [S a4, S a5]] (fun e A' => e = .ret (B r6) ∧ A' = [.obj o3 [S a4, S a5]]) := by
 unfold pm at H
 refine ap Tryz.func55 rfl rfl ?_;show AW _ _ 9 _ _ _;refine af <| aa ?_;show AR _ _ _ _ _ [0, 1] _;refine zR rfl (dP rfl (.inr ⟨_, rfl⟩)) <| za rfl <| ag <| af <| aa ?_;show AR _ _ _ _ _ [0, 1, 2, 3, 4, 5] _;refine zS rfl (an (n := 0) (by kernel_rfl) rfl) <| zR rfl (ao (i := 0) ai rfl rfl rfl rfl) <| zS rfl (aN (n := 0) (by kernel_rfl) rfl (ac rfl)) <| zS rfl (aK ai rfl rfl) <| zS rfl (ej rfl rfl) <| za rfl <| ag <| aG ?_;obtain rfl := aj H;exact And.intro rfl (Exists.intro _ (Exists.intro _ ⟨aD rfl (.refl _), aB [0] rfl, rfl, rfl⟩))
set_option maxRecDepth 100000 in
set_option maxHeartbeats 1000000 in
theorem rb (F : Nat) (a1 : List ((List UInt8) × List UInt8)) (q2 : Option Nat) (o3 : Nat) (a4 : List UInt8) (a5 : List UInt8) (r6 : Int) (H : kB F a1 a4 a5 = some r6) : ACalls Tryz.prog 65 [slE (ab Enc.str Enc.str) a1 q2, .fn (.func 55) [] [.pt o3 0]] [.obj o3 [S a4, S a5]] (fun e A' => e = .ret (i64 r6) ∧ A' = [.obj o3 [S a4, S a5]]) := by
 unfold kB at H
 refine ap Tryz.func65 rfl rfl ?_;show AW _ _ 19 _ _ _;refine af <| aa ?_;show AR _ _ _ _ _ [0] _;refine za rfl <| ag <| bJ (X := Unit) (fun _ => ⟨[], [], [.obj o3 [S a4, S a5]]⟩) (fun _ => ic = some r6) ?_ ?_
 ·refine af <| aa ?_;show AR _ _ _ _ _ [0, 1, 2] _;refine zS rfl (ah (av := slE _ _ _) rfl) <| zS rfl (bB cq rfl) <| zm rfl <| ag <| aR <| de (X := Nat × Int) (fun (n9, y7) => ⟨[(0, slE (ab Enc.str Enc.str) a1 q2), (1, .fn (.func 55) [] [.pt o3 0]), (7, i64 (a1.length : Int)), (8, i64 y7)], [], [.obj o3 [S a4, S a5]]⟩) (fun (n9, y7) => eF F a1 a4 a5 n9 y7 = some r6) (fun (n9, y7) => n9) (F, 0) H (bc [0] (.cons (.refl _) (.cons (.refl _) (.cons (.refl _) (.cons (.refl _) (.nil _))))) rfl) ?_;rintro ⟨n9, y7⟩ H;obtain ⟨n9, rfl, H⟩ := fa H;replace H : fQ F a1 a4 a5 (eF F a1 a4 a5 n9) y7 = some r6 := H
  unfold fQ at H
  refine af <| aa ?_;show AR _ _ _ _ _ [0] _;refine zS rfl (bZ rfl rfl) <| ag <| af <| ax rfl (fun c10 => ?_) (fun c10 => ?_)
  ·replace H := aW c10 H;refine aA <| af <| aR <| af <| aa ?_;show AR _ _ _ _ _ [0, 1] _;refine zm rfl <| za rfl <| ag <| af ?_;obtain ⟨g11, H⟩ := aM H;obtain ⟨x12, e13, H⟩ := bO H;obtain ⟨x14, e15, H⟩ := ce H;refine aa ?_;show AR _ _ _ _ _ [0, 1, 2, 3, 4, 5] _;refine zS rfl (ah (av := .fn _ _ _) rfl) <| zS rfl (ah (av := slE _ _ _) rfl) <| zm rfl <| zS rfl (dn (E := (ab Enc.str Enc.str)) cq (by kernel_rfl) rfl rfl g11 e13) <| zS rfl (cK Tryz.underlying94 rfl (n := 2) (by kernel_rfl) rfl (ac rfl)) <| am rfl rfl (fq [0] rfl (.inl rfl) yU rfl (wD F x12.1 x12.2 o3 a4 a5 x14 e15) rfl (fun c A' h => by cases h.1) ?_)
   rintro av A' ⟨h, rfl⟩; cases h
   refine ag <| ax rfl (fun c16 => ?_) (fun c16 => ?_)
   ·replace H := aW c16 H;refine af <| aa ?_;show AR _ _ _ _ _ [0, 1] _;refine zm rfl <| za rfl <| ag <| aG ?_;obtain rfl := aj H;exact And.intro rfl (Exists.intro _ (Exists.intro _ ⟨aD rfl (.refl _), aB [0] rfl, rfl, rfl⟩))
   ·replace H := aX c16 H;refine aA ?_;obtain ⟨g17, H⟩ := aM H;refine aa ?_;show AR _ _ _ _ _ [0, 1] _;refine zS rfl (cM rfl rfl g17) <| zm rfl <| ag ?_;exact Exists.intro (n9, y7 + 1) ⟨H, Nat.lt_succ_self _, bc [0] (.cons (.refl _) (.cons (.refl _) (.cons (.refl _) (.cons (.refl _) (.nil _))))) rfl⟩
  ·replace H := aX c10 H;refine cx ?_;exact Exists.intro () ⟨H, bc [0] (.nil _) rfl⟩
 rintro _ H;replace H : ic = some r6 := H
 unfold ic at H
 refine af <| aa ?_;show AR _ _ _ _ _ [0] _;refine za rfl <| ag <| aG ?_;obtain rfl := aj H;exact And.intro rfl (Exists.intro _ (Exists.intro _ ⟨aD rfl (.refl _), aB [0] rfl, rfl, rfl⟩))
set_option maxRecDepth 100000 in
set_option maxHeartbeats 1000000 in
theorem lu (F : Nat) (a1 : List ((List UInt8) × List UInt8)) (q2 : Option Nat) (o3 : Nat) (a4 : List UInt8) (a5 : List UInt8) (r6 : Bool) (H : fR F a1 a4 a5 = some r6) : ACalls Tryz.prog 54 [slE (ab Enc.str Enc.str) a1 q2, .fn (.func 55) [] [.pt o3 0]] [.obj o3 [S a4, S a5]] (fun e A' => e = .ret (B r6) ∧ A' = [.obj o3 [S a4, S a5]]) := by
 unfold fR at H
 refine ap Tryz.func54 rfl rfl ?_;show AW _ _ 9 _ _ _;refine af <| aa ?_;show AR _ _ _ _ _ [0] _;refine za rfl <| ag <| af ?_;obtain ⟨x7, e8, H⟩ := ce H;refine aa ?_;show AR _ _ _ _ _ [0, 1, 2, 3, 4] _;refine zS rfl (ah (av := slE _ _ _) rfl) <| zS rfl (ah (av := .fn _ _ _) rfl) <| am rfl rfl (aQ [0] rfl yO rfl (rb F a1 q2 o3 a4 a5 x7 e8) rfl (fun c A' h => by cases h.1) ?_)
 rintro av A' ⟨h, rfl⟩; cases h
 refine zS rfl (fy rfl rfl) <| za rfl <| ag <| aG ?_;obtain rfl := aj H;exact And.intro rfl (Exists.intro _ (Exists.intro _ ⟨aD rfl (.refl _), aB [0] rfl, rfl, rfl⟩))
set_option maxRecDepth 100000 in
set_option maxHeartbeats 1000000 in
theorem oV (F : Nat) (o1 : Nat) (a2 : List UInt8) (a3 : List (List UInt8)) (t4 : Nat) (a5 : Int) (a6 : List (Int × (List UInt8) × (List UInt8) × List ((List UInt8) × List UInt8))) (t7 : Nat) (rv : Res (Bool × (List UInt8) × Int × (List (Int × (List UInt8) × (List UInt8) × List ((List UInt8) × List UInt8))) × (List (List UInt8)))) (H : iu F a2 a3 a5 a6 = some rv) : ACalls Tryz.prog 37 [.pt o1 0] [.obj o1 [S a2, .sk t4 a3.length, i64 a5, slE (ab Enc.int (ab Enc.str (ab Enc.str (Enc.sl (ab Enc.str Enc.str))))) a6 (some t7)], .stk t4 (Enc.str.fl a3), .tok t7 43] (js (fun (r : Bool × (List UInt8) × Int × (List (Int × (List UInt8) × (List UInt8) × List ((List UInt8) × List UInt8))) × (List (List UInt8))) => (fun e A' => e = .ret (B r.1) ∧ ∃ t11 t14, A' = [.obj o1 [S r.2.1, .sk t11 r.2.2.2.2.length, i64 r.2.2.1, slE (ab Enc.int (ab Enc.str (ab Enc.str (Enc.sl (ab Enc.str Enc.str))))) r.2.2.2.1 (some t14)], .stk t11 (Enc.str.fl r.2.2.2.2), .tok t14 43])) (fun e => cg (.iface 58 (.agg #[.int .i64 e]))) rv) := by
 unfold iu at H
 refine ap Tryz.func37 rfl rfl ?_;show AW _ _ 88 _ _ _;refine af <| aa ?_;show AR _ _ _ _ _ [0] _;refine za rfl <| ag <| af <| af ?_;obtain ⟨x15, x16, e17, H⟩ := cD H;refine aa ?_;show AR _ _ _ _ _ [0, 1, 2] _;refine zS rfl (ah (av := .pt _ _) rfl) <| am rfl rfl (aQ [0, 0, 0] rfl ep rfl (ek F o1 a2 a3 t4 a5 a6 t7 ([60] : List UInt8) x15 x16 e17) rfl (fun c A' h => by cases h.1) ?_)
 rintro av A' ⟨h, rfl⟩; cases h
 refine zS rfl (bG rfl) <| ag <| ax rfl (fun c18 => ?_) (fun c18 => ?_)
 ·replace H := aW c18 H;refine af <| aa ?_;show AR _ _ _ _ _ [0] _;refine za rfl <| ag <| aG ?_;obtain rfl := aj H;exact And.intro rfl (Exists.intro _ (Exists.intro _ ⟨aD rfl (.refl _), aB [0, 0, 0] rfl, rfl, t4, t7, rfl⟩))
 ·replace H := aX c18 H;refine aA <| af ?_
  rcases Or.symm (cr H) with ⟨p21, e20, H⟩ | ⟨x19, e20, H⟩
  ·subst H;refine aa ?_;show AR _ _ _ _ _ [0, 1, 2, 3, 4] _;refine zS rfl (ah (av := .pt _ _) rfl) <| am rfl rfl (ba (c := cg (.iface 58 (.agg #[.int .i64 p21]))) [0, 0, 0] rfl kO rfl (lG F o1 x16 a3 t4 a5 a6 t7 p21 e20) rfl ?_);exact And.intro rfl (Exists.intro [] ⟨aZ _, rfl, rfl⟩)
  refine aa ?_;show AR _ _ _ _ _ [0, 1, 2, 3, 4] _;refine zS rfl (ah (av := .pt _ _) rfl) <| am rfl rfl (aQ [0, 0, 0] rfl kO rfl (mw F o1 x16 a3 t4 a5 a6 t7 x19.1 x19.2 e20) rfl (fun c A' h => by cases h.1) ?_)
  rintro av A' ⟨h, rfl⟩; cases h
  refine zS rfl (cQ (zs := [.int .i64 0, .string ⟨#[]⟩, .string ⟨#[]⟩, .slice none 0 0]) (ps := [(0, 1), (1, 1), (2, 1), (3, 1)]) (cs := [i64 0, S x19.1, S ([] : List UInt8), eD]) (by kernel_rfl) rfl rfl) <| zX rfl (bj (zs := [.int .i64 0, .string ⟨#[]⟩, .string ⟨#[]⟩, .slice none 0 0]) (by kernel_rfl)) ?_;rintro _ _ ⟨o22, rfl, rfl⟩;refine s0 rfl rfl (aV (i := 0) (vs := [i64 0, S x19.1, S ([] : List UInt8), eD]) (by kernel_rfl) rfl rfl (by simp [bA, slE]) rfl (ac rfl)) <| ag ?_
  refine jl 0 3 2 94 rfl rfl fun t23 => ?_
  show AW _ _ _ _ _ ⟨_, _, [.tok t23 94, .obj o22 [i64 0, S x19.1, S ([] : List UInt8), slE (ab Enc.str Enc.str) [] (some t23)], .obj o1 [S x19.2, .sk t4 a3.length, i64 a5, slE (ab Enc.int (ab Enc.str (ab Enc.str (Enc.sl (ab Enc.str Enc.str))))) a6 (some t7)], .stk t4 (Enc.str.fl a3), .tok t7 43]⟩;refine af <| aa ?_;show AR _ _ _ _ _ [0] _;refine za rfl <| ag <| bJ (X := Bool × (List UInt8) × (List ((List UInt8) × List UInt8)) × Nat) (fun (y56, y57, y58, t59) => ⟨[(0, .pt o1 0), (3, .pt o22 0), (4, B y56)], [], [.obj o1 [S y57, .sk t4 a3.length, i64 a5, slE (ab Enc.int (ab Enc.str (ab Enc.str (Enc.sl (ab Enc.str Enc.str))))) a6 (some t7)], .obj o22 [i64 0, S x19.1, S ([] : List UInt8), slE (ab Enc.str Enc.str) y58 (some t59)], .stk t4 (Enc.str.fl a3), .tok t7 43, .tok t59 94]⟩) (fun (y56, y57, y58, t59) => eU F a3 a5 a6 x19 y56 y57 y58 = some rv) ?_ ?_
  ·refine aR <| de (X := Nat × (List ((List UInt8) × List UInt8)) × Nat × (List UInt8)) (fun (n28, y24, t25, y26) => ⟨[(0, .pt o1 0), (3, .pt o22 0), (4, B false)], [], [.obj o22 [i64 0, S x19.1, S ([] : List UInt8), slE (ab Enc.str Enc.str) y24 (some t25)], .obj o1 [S y26, .sk t4 a3.length, i64 a5, slE (ab Enc.int (ab Enc.str (ab Enc.str (Enc.sl (ab Enc.str Enc.str))))) a6 (some t7)], .stk t4 (Enc.str.fl a3), .tok t25 94, .tok t7 43]⟩) (fun (n28, y24, t25, y26) => gV F a3 a5 a6 x19 n28 (y24, y26) = some rv) (fun (n28, y24, t25, y26) => n28) (F, [], t23, x19.2) H (bc [1, 1, 1, 0, 0] (.cons (.refl _) (.cons (.refl _) (.cons (.refl _) (.nil _)))) rfl) ?_;rintro ⟨n28, y24, t25, y26⟩ H;obtain ⟨n28, rfl, H⟩ := fa H;replace H : gW F a3 a5 a6 x19 (gV F a3 a5 a6 x19 n28) y24 y26 = some rv := H
   unfold gW at H
   refine aR <| af ?_;obtain ⟨x29, x30, e31, H⟩ := cD H;refine aa ?_;show AR _ _ _ _ _ [0, 1, 2] _;refine zS rfl (ah (av := .pt _ _) rfl) <| am rfl rfl (aQ [1, 1, 2] rfl tF rfl (qb F o1 y26 a3 t4 a5 a6 t7 x29 x30 e31) rfl (fun c A' h => by cases h.1) ?_)
   rintro av A' ⟨h, rfl⟩; cases h
   refine za rfl <| ag <| af <| af ?_;obtain ⟨x32, x33, e34, H⟩ := cD H;refine aa ?_;show AR _ _ _ _ _ [0, 1] _;refine zS rfl (ah (av := .pt _ _) rfl) <| am rfl rfl (aQ [0, 0, 0] rfl ep rfl (ek F o1 x30 a3 t4 a5 a6 t7 ([62] : List UInt8) x32 x33 e34) rfl (fun c A' h => by cases h.1) ?_)
   rintro av A' ⟨h, rfl⟩; cases h
   refine ag <| ax rfl (fun c35 => ?_) (fun c35 => ?_)
   ·replace H := aW c35 H;refine cx ?_;exact Exists.intro (false, x33, y24, t25) ⟨H, bc [0, 2, 0, 0, 0] (.cons (.refl _) (.cons (.refl _) (.cons (.refl _) (.nil _)))) rfl⟩
   ·replace H := aX c35 H;refine aA <| af <| af ?_;obtain ⟨x36, x37, e38, H⟩ := cD H;refine aa ?_;show AR _ _ _ _ _ [0, 1] _;refine zS rfl (ah (av := .pt _ _) rfl) <| am rfl rfl (aQ [0, 0, 0] rfl ep rfl (ek F o1 x33 a3 t4 a5 a6 t7 ([47, 62] : List UInt8) x36 x37 e38) rfl (fun c A' h => by cases h.1) ?_)
    rintro av A' ⟨h, rfl⟩; cases h
    refine ag <| ax rfl (fun c39 => ?_) (fun c39 => ?_)
    ·replace H := aW c39 H;refine af <| aa ?_;show AR _ _ _ _ _ [0] _;refine za rfl <| ag <| cx ?_;exact Exists.intro (true, x37, y24, t25) ⟨H, bc [0, 2, 0, 0, 0] (.cons (.refl _) (.cons (.refl _) (.cons (.refl _) (.nil _)))) rfl⟩
    ·replace H := aX c39 H;refine aA <| af ?_
     rcases Or.symm (cr H) with ⟨p42, e41, H⟩ | ⟨x40, e41, H⟩
     ·subst H;refine aa ?_;show AR _ _ _ _ _ [0, 1] _;refine zm rfl <| am rfl rfl (ba (c := cg (.iface 58 (.agg #[.int .i64 p42]))) [] rfl bV rfl (bW F x29 p42 e41) rfl ?_);exact And.intro rfl (Exists.intro [] ⟨aZ _, rfl, rfl⟩)
     refine aa ?_;show AR _ _ _ _ _ [0, 1] _;refine zm rfl <| am rfl rfl (aC rfl bV rfl (cn F x29 e41) ?_);refine ag <| af ?_
     rcases Or.symm (cr H) with ⟨p45, e44, H⟩ | ⟨x43, e44, H⟩
     ·subst H;refine aa ?_;show AR _ _ _ _ _ [0, 1, 2, 3] _;refine zS rfl (ah (av := .pt _ _) rfl) <| am rfl rfl (ba (c := cg (.iface 58 (.agg #[.int .i64 p45]))) [0, 0, 0] rfl tE rfl (sf F o1 x37 a3 t4 a5 a6 t7 p45 e44) rfl ?_);exact And.intro rfl (Exists.intro [] ⟨aZ _, rfl, rfl⟩)
     refine aa ?_;show AR _ _ _ _ _ [0, 1, 2, 3] _;refine zS rfl (ah (av := .pt _ _) rfl) <| am rfl rfl (aQ [0, 0, 0] rfl tE rfl (uh F o1 x37 a3 t4 a5 a6 t7 x43.1 x43.2.1 x43.2.2 e44) rfl (fun c A' h => by cases h.1) ?_)
     rintro av A' ⟨h, rfl⟩; cases h
     refine zX rfl (bj (zs := [.string ⟨#[]⟩, .string ⟨#[]⟩]) (by kernel_rfl)) ?_;rintro _ _ ⟨o46, rfl, rfl⟩;refine s0 rfl rfl (aV (i := 0) (vs := [S x43.1, S x43.2.1]) (by kernel_rfl) rfl rfl (by simp [bA, slE]) rfl (ac rfl)) <| ag <| af ?_;obtain ⟨x47, e48, H⟩ := ce H
     rcases Or.symm (cr H) with ⟨p51, e50, H⟩ | ⟨x49, e50, H⟩
     ·subst H;refine aa ?_;show AR _ _ _ _ _ [0, 1, 2, 3, 4, 5] _;refine zS rfl (an (n := 3) (by kernel_rfl) rfl) <| zR rfl (ao (i := 4) cq rfl rfl rfl rfl) <| zS rfl (fL rfl rfl) <| am rfl rfl (aQ [0] rfl tD rfl (lu F y24 (some t25) o46 x43.1 x43.2.1 x47 e48) rfl (fun c A' h => by cases h.1) ?_)
      rintro av A' ⟨h, rfl⟩; cases h
      refine zS rfl (bG rfl) <| am rfl rfl (ba (c := cg (.iface 58 (.agg #[.int .i64 p51]))) [] rfl bV rfl (bW F (!x47) p51 e50) rfl ?_);exact And.intro rfl (Exists.intro [] ⟨aZ _, rfl, rfl⟩)
     refine aa ?_;show AR _ _ _ _ _ [0, 1, 2, 3, 4, 5] _;refine zS rfl (an (n := 3) (by kernel_rfl) rfl) <| zR rfl (ao (i := 4) cq rfl rfl rfl rfl) <| zS rfl (fL rfl rfl) <| am rfl rfl (aQ [0] rfl tD rfl (lu F y24 (some t25) o46 x43.1 x43.2.1 x47 e48) rfl (fun c A' h => by cases h.1) ?_)
     rintro av A' ⟨h, rfl⟩; cases h
     refine zS rfl (bG rfl) <| am rfl rfl (aC rfl bV rfl (cn F (!x47) e50) ?_);refine ag ?_;obtain ⟨g53, H⟩ := aM H;obtain ⟨x54, e55, H⟩ := bO H;refine aa ?_;show AR _ _ _ _ _ [0, 1, 2, 3, 4, 5, 6] _;refine zS rfl (an (n := 3) (by kernel_rfl) rfl) <| zR rfl (ao (i := 4) cq rfl rfl rfl rfl) <| zR rfl (dW (i := 0) (n := 2) Tryz.underlying94 rfl (by kernel_rfl) rfl rfl (ac rfl)) <| zR rfl (dX (E := (ab Enc.str Enc.str)) (bytes := 32) (zs := [.string ⟨#[]⟩, .string ⟨#[]⟩]) (l := ([(x43.1, x43.2.1)] : List ((List UInt8) × List UInt8))) cq (by kernel_rfl) (by kernel_rfl) rfl rfl rfl rfl rfl) <| zX rfl (kg (E := (ab Enc.str Enc.str)) (bytes := 32) 5 cq cq rfl (by kernel_rfl) rfl rfl rfl rfl g53 e55) ?_;rintro _ _ ⟨t52, rfl, rfl⟩;refine zS rfl (an (n := 3) (by kernel_rfl) rfl) <| s0 rfl rfl (aq (i := 4) (c := slE _ _ _) (by kernel_rfl) rfl rfl rfl rfl (ac rfl)) <| ag ?_;exact Exists.intro (n28, x54, t52, x43.2.2) ⟨H, Nat.lt_succ_self _, bc [4, 1, 1, 2, 1] (.cons (.refl _) (.cons (.refl _) (.cons (.refl _) (.nil _)))) rfl⟩
  rintro ⟨y56, y57, y58, t59⟩ H;replace H : eU F a3 a5 a6 x19 y56 y57 y58 = some rv := H
  unfold eU at H
  refine bJ (X := Int) (fun y66 => ⟨[(0, .pt o1 0), (3, .pt o22 0), (4, B y56)], [], [.obj o1 [S y57, .sk t4 a3.length, i64 y66, slE (ab Enc.int (ab Enc.str (ab Enc.str (Enc.sl (ab Enc.str Enc.str))))) a6 (some t7)], .obj o22 [i64 0, S x19.1, S ([] : List UInt8), slE (ab Enc.str Enc.str) y58 (some t59)], .stk t4 (Enc.str.fl a3), .tok t7 43, .tok t59 94]⟩) (fun y66 => eV F a3 a6 x19 y56 y57 y58 y66 = some rv) ?_ ?_
  ·refine af <| aa ?_;show AR _ _ _ _ _ [0, 1, 2, 3, 4, 5] _;refine zS rfl (ah (av := .pt _ _) rfl) <| zS rfl (ar rfl) <| zS rfl (an (n := 1) (by kernel_rfl) rfl) <| zR rfl (ao (i := 0) au rfl rfl rfl rfl) <| zS rfl (ff au rfl) <| zS rfl (bL rfl rfl) <| ag <| ax rfl (fun c61 => ?_) (fun c61 => ?_)
   ·replace H := aW c61 H;refine af ?_;obtain ⟨g62, H⟩ := aM H;refine aa ?_;show AR _ _ _ _ _ [0, 1, 2, 3, 4, 5, 6, 7] _;refine zS rfl (ah (av := .pt _ _) rfl) <| zS rfl (ar rfl) <| zS rfl (an (n := 2) (by kernel_rfl) rfl) <| zR rfl (ao (i := 0) aL rfl rfl rfl rfl) <| zS rfl (cM rfl rfl g62) <| zS rfl (ar rfl) <| zS rfl (an (n := 2) (by kernel_rfl) rfl) <| s0 rfl rfl (aq (i := 0) (c := .v _) (by kernel_rfl) rfl rfl rfl rfl (ac rfl)) <| ag ?_
    rcases Or.symm (cr H) with ⟨p65, e64, H⟩ | ⟨x63, e64, H⟩
    ·subst H;refine aa ?_;show AR _ _ _ _ _ [0, 1, 2, 3, 4, 5] _;refine zS rfl (ah (av := .pt _ _) rfl) <| zS rfl (ar rfl) <| zS rfl (an (n := 2) (by kernel_rfl) rfl) <| zR rfl (ao (i := 0) aL rfl rfl rfl rfl) <| zS rfl (bL rfl rfl) <| am rfl rfl (ba (c := cg (.iface 58 (.agg #[.int .i64 p65]))) [] rfl bV rfl (bW F (decide (a5 + 1 = 1)) p65 e64) rfl ?_);exact And.intro rfl (Exists.intro [] ⟨aZ _, rfl, rfl⟩)
    refine aa ?_;show AR _ _ _ _ _ [0, 1, 2, 3, 4, 5] _;refine zS rfl (ah (av := .pt _ _) rfl) <| zS rfl (ar rfl) <| zS rfl (an (n := 2) (by kernel_rfl) rfl) <| zR rfl (ao (i := 0) aL rfl rfl rfl rfl) <| zS rfl (bL rfl rfl) <| am rfl rfl (aC rfl bV rfl (cn F (decide (a5 + 1 = 1)) e64) ?_);refine ag ?_;exact Exists.intro (a5 + 1) ⟨H, bc [0, 0, 0, 0, 0] (.cons (.refl _) (.cons (.refl _) (.cons (.refl _) (.nil _)))) rfl⟩
   ·replace H := aX c61 H;refine aA ?_;exact Exists.intro a5 ⟨H, bc [0, 0, 0, 0, 0] (.cons (.refl _) (.cons (.refl _) (.cons (.refl _) (.nil _)))) rfl⟩
  rintro y66 H;replace H : eV F a3 a6 x19 y56 y57 y58 y66 = some rv := H
  unfold eV at H
  refine bJ (X := Nat × (List (List UInt8))) (fun (t78, y79) => ⟨[(0, .pt o1 0), (3, .pt o22 0), (4, B y56)], [], [.obj o1 [S y57, .sk t78 y79.length, i64 y66, slE (ab Enc.int (ab Enc.str (ab Enc.str (Enc.sl (ab Enc.str Enc.str))))) a6 (some t7)], .obj o22 [i64 0, S x19.1, S ([] : List UInt8), slE (ab Enc.str Enc.str) y58 (some t59)], .stk t78 (Enc.str.fl y79), .tok t7 43, .tok t59 94]⟩) (fun (t78, y79) => gR F a6 x19 y56 y57 y58 y66 y79 = some rv) ?_ ?_
  ·refine bJ (X := Nat × (List (List UInt8))) (fun (t74, y75) => ⟨[(0, .pt o1 0), (3, .pt o22 0), (4, B y56)], [], [.obj o1 [S y57, .sk t74 y75.length, i64 y66, slE (ab Enc.int (ab Enc.str (ab Enc.str (Enc.sl (ab Enc.str Enc.str))))) a6 (some t7)], .obj o22 [i64 0, S x19.1, S ([] : List UInt8), slE (ab Enc.str Enc.str) y58 (some t59)], .stk t74 (Enc.str.fl y75), .tok t7 43, .tok t59 94]⟩) (fun (t74, y75) => gQ F a6 x19 y56 y57 y58 y66 y75 = some rv) ?_ ?_
   ·obtain ⟨g68, H⟩ := aM H;obtain ⟨x69, e70, H⟩ := bO H;refine cc (by kernel_rfl) ?_;show AI _ _ _ _ _ 12 (Array.replicate 12 false) _;refine zk 0 rfl (ah (av := .pt _ _) rfl) ?_;show AI _ _ _ _ _ _ #[true, false, false, false, false, false, false, false, false, false, false, false] _;refine zk 1 rfl (ah (av := .pt _ _) rfl) ?_;show AI _ _ _ _ _ _ #[true, true, false, false, false, false, false, false, false, false, false, false] _;refine zk 2 rfl (ar rfl) ?_;show AI _ _ _ _ _ _ #[true, true, true, false, false, false, false, false, false, false, false, false] _;refine zk 3 rfl (an (n := 1) (by kernel_rfl) rfl) ?_;show AI _ _ _ _ _ _ #[true, true, true, true, false, false, false, false, false, false, false, false] _;refine zk 5 rfl (an (n := 1) (by kernel_rfl) rfl) ?_;show AI _ _ _ _ _ _ #[true, true, true, true, false, true, false, false, false, false, false, false] _;refine AI.two (i := 4) (j := 6) (by kernel_rfl) rfl rfl rfl rfl ?_ ?_
    ·refine bw rfl (ao (i := 0) au rfl rfl rfl rfl) ?_;show AI _ _ _ _ _ _ #[true, true, true, true, true, true, false, false, false, false, false, false] _;refine cf (i := 6) (by kernel_rfl) rfl rfl <| bw rfl (ao (i := 1) ai rfl rfl rfl rfl) ?_;show AI _ _ _ _ _ _ #[true, true, true, true, true, true, true, false, false, false, false, false] _;refine cf (i := 7) (by kernel_rfl) rfl rfl <| bw rfl (cN (E := Enc.str) (bytes := 16) (xs := [.tmp 60]) (l := ([x19.1] : List (List UInt8))) au (by kernel_rfl) rfl rfl (by decide) rfl rfl) ?_;show AI _ _ _ _ _ _ #[true, true, true, true, true, true, true, true, false, false, false, false] _;refine cf (i := 8) (by kernel_rfl) rfl rfl <| AIO.opx rfl (kD (E := Enc.str) (bytes := 16) 2 au au rfl (by kernel_rfl) rfl rfl rfl rfl rfl rfl rfl g68 e70) ?_;rintro _ _ ⟨t71, rfl, rfl⟩;show AI _ _ _ _ _ _ #[true, true, true, true, true, true, true, true, true, false, false, false] _;refine zk 9 rfl (ar rfl) ?_;show AI _ _ _ _ _ _ #[true, true, true, true, true, true, true, true, true, true, false, false] _;refine zk 10 rfl (an (n := 1) (by kernel_rfl) rfl) ?_;show AI _ _ _ _ _ _ #[true, true, true, true, true, true, true, true, true, true, true, false] _;refine cf (i := 11) (by kernel_rfl) rfl rfl <| AIO.op0 (aq (i := 0) (c := .sk _ _) (by kernel_rfl) rfl rfl rfl rfl (ac rfl)) ?_
     show AI _ _ _ _ _ _ #[true, true, true, true, true, true, true, true, true, true, true, true] _;refine cH rfl ?_;exact Exists.intro (t71, x69) ⟨H, bc [0, 0, 0, 0, 0] (.cons (.refl _) (.cons (.refl _) (.cons (.refl _) (.nil _)))) rfl⟩
    ·refine bw rfl (ao (i := 1) ai rfl rfl rfl rfl) ?_;show AI _ _ _ _ _ _ #[true, true, true, true, false, true, true, false, false, false, false, false] _;refine AI.two (i := 4) (j := 7) (by kernel_rfl) rfl rfl rfl rfl ?_ ?_
     ·refine bw rfl (ao (i := 0) au rfl rfl rfl rfl) ?_;show AI _ _ _ _ _ _ #[true, true, true, true, true, true, true, false, false, false, false, false] _;refine cf (i := 7) (by kernel_rfl) rfl rfl <| bw rfl (cN (E := Enc.str) (bytes := 16) (xs := [.tmp 60]) (l := ([x19.1] : List (List UInt8))) au (by kernel_rfl) rfl rfl (by decide) rfl rfl) ?_;show AI _ _ _ _ _ _ #[true, true, true, true, true, true, true, true, false, false, false, false] _;refine cf (i := 8) (by kernel_rfl) rfl rfl <| AIO.opx rfl (kD (E := Enc.str) (bytes := 16) 2 au au rfl (by kernel_rfl) rfl rfl rfl rfl rfl rfl rfl g68 e70) ?_;rintro _ _ ⟨t72, rfl, rfl⟩;show AI _ _ _ _ _ _ #[true, true, true, true, true, true, true, true, true, false, false, false] _;refine zk 9 rfl (ar rfl) ?_;show AI _ _ _ _ _ _ #[true, true, true, true, true, true, true, true, true, true, false, false] _;refine zk 10 rfl (an (n := 1) (by kernel_rfl) rfl) ?_;show AI _ _ _ _ _ _ #[true, true, true, true, true, true, true, true, true, true, true, false] _;refine cf (i := 11) (by kernel_rfl) rfl rfl <| AIO.op0 (aq (i := 0) (c := .sk _ _) (by kernel_rfl) rfl rfl rfl rfl (ac rfl)) ?_;show AI _ _ _ _ _ _ #[true, true, true, true, true, true, true, true, true, true, true, true] _;refine cH rfl ?_;exact Exists.intro (t72, x69) ⟨H, bc [0, 0, 0, 0, 0] (.cons (.refl _) (.cons (.refl _) (.cons (.refl _) (.nil _)))) rfl⟩
     ·refine bw rfl (cN (E := Enc.str) (bytes := 16) (xs := [.tmp 60]) (l := ([x19.1] : List (List UInt8))) au (by kernel_rfl) rfl rfl (by decide) rfl rfl) ?_;show AI _ _ _ _ _ _ #[true, true, true, true, false, true, true, true, false, false, false, false] _;refine cf (i := 4) (by kernel_rfl) rfl rfl <| bw rfl (ao (i := 0) au rfl rfl rfl rfl) ?_;show AI _ _ _ _ _ _ #[true, true, true, true, true, true, true, true, false, false, false, false] _;refine cf (i := 8) (by kernel_rfl) rfl rfl <| AIO.opx rfl (kD (E := Enc.str) (bytes := 16) 2 au au rfl (by kernel_rfl) rfl rfl rfl rfl rfl rfl rfl g68 e70) ?_;rintro _ _ ⟨t73, rfl, rfl⟩;show AI _ _ _ _ _ _ #[true, true, true, true, true, true, true, true, true, false, false, false] _;refine zk 9 rfl (ar rfl) ?_;show AI _ _ _ _ _ _ #[true, true, true, true, true, true, true, true, true, true, false, false] _;refine zk 10 rfl (an (n := 1) (by kernel_rfl) rfl) ?_;show AI _ _ _ _ _ _ #[true, true, true, true, true, true, true, true, true, true, true, false] _;refine cf (i := 11) (by kernel_rfl) rfl rfl <| AIO.op0 (aq (i := 0) (c := .sk _ _) (by kernel_rfl) rfl rfl rfl rfl (ac rfl)) ?_;show AI _ _ _ _ _ _ #[true, true, true, true, true, true, true, true, true, true, true, true] _;refine cH rfl ?_;exact Exists.intro (t73, x69) ⟨H, bc [0, 0, 0, 0, 0] (.cons (.refl _) (.cons (.refl _) (.cons (.refl _) (.nil _)))) rfl⟩
   rintro ⟨t74, y75⟩ H;replace H : gQ F a6 x19 y56 y57 y58 y66 y75 = some rv := H
   unfold gQ at H
   refine af <| aa ?_;show AR _ _ _ _ _ [0, 1, 2, 3, 4, 5] _;refine zS rfl (ah (av := .pt _ _) rfl) <| zS rfl (ar rfl) <| zS rfl (an (n := 1) (by kernel_rfl) rfl) <| zR rfl (ao (i := 0) au rfl rfl rfl rfl) <| zS rfl (ff au rfl) <| zS rfl (fH rfl rfl) <| ag <| ax rfl (fun c77 => ?_) (fun c77 => ?_)
   ·replace H := aW c77 H;obtain rfl := aj H;refine aa ?_;show AR _ _ _ _ _ [0, 1, 2] _;refine zS rfl (cQ (zs := [.int .i64 0]) (ps := [(0, 1)]) (cs := [i64 5]) (by kernel_rfl) rfl rfl) <| zS rfl (be (a := .agg _) Tryz.underlying58 rfl rfl) <| am rfl rfl (AO.panicT (c := cg (.iface 58 (.agg #[.int .i64 5]))) rfl rfl ?_);exact And.intro rfl (Exists.intro [] ⟨aZ _, rfl, rfl⟩)
   ·replace H := aX c77 H;refine aA ?_;exact Exists.intro (t74, y75) ⟨H, bc [0, 0, 0, 0, 0] (.cons (.refl _) (.cons (.refl _) (.cons (.refl _) (.nil _)))) rfl⟩
  rintro ⟨t78, y79⟩ H;replace H : gR F a6 x19 y56 y57 y58 y66 y79 = some rv := H
  unfold gR at H
  refine bJ (X := (List (Int × (List UInt8) × (List UInt8) × List ((List UInt8) × List UInt8))) × Nat) (fun (y87, t88) => ⟨[(0, .pt o1 0), (3, .pt o22 0), (4, B y56)], [], [.obj o1 [S y57, .sk t78 y79.length, i64 y66, slE (ab Enc.int (ab Enc.str (ab Enc.str (Enc.sl (ab Enc.str Enc.str))))) y87 (some t88)], .obj o22 [i64 0, S x19.1, S ([] : List UInt8), slE (ab Enc.str Enc.str) y58 (some t59)], .stk t78 (Enc.str.fl y79), .tok t88 43, .tok t59 94]⟩) (fun (y87, t88) => gS F x19 y56 y57 y66 y79 y87 = some rv) ?_ ?_
  ·obtain ⟨g82, H⟩ := aM H;obtain ⟨x83, e84, H⟩ := bO H;refine cc (by kernel_rfl) ?_;show AI _ _ _ _ _ 11 (Array.replicate 11 false) _;refine zk 0 rfl (ah (av := .pt _ _) rfl) ?_;show AI _ _ _ _ _ _ #[true, false, false, false, false, false, false, false, false, false, false] _;refine zk 1 rfl (ah (av := .pt _ _) rfl) ?_;show AI _ _ _ _ _ _ #[true, true, false, false, false, false, false, false, false, false, false] _;refine zk 2 rfl (ar rfl) ?_;show AI _ _ _ _ _ _ #[true, true, true, false, false, false, false, false, false, false, false] _;refine zk 3 rfl (an (n := 3) (by kernel_rfl) rfl) ?_;show AI _ _ _ _ _ _ #[true, true, true, true, false, false, false, false, false, false, false] _;refine AI.two (i := 4) (j := 5) (by kernel_rfl) rfl rfl rfl rfl ?_ ?_
   ·refine bw rfl (ao (i := 0) aP rfl rfl rfl rfl) ?_;show AI _ _ _ _ _ _ #[true, true, true, true, true, false, false, false, false, false, false] _;refine cf (i := 5) (by kernel_rfl) rfl rfl <| bw rfl (dW (i := 1) (n := 4) Tryz.underlying43 rfl (by kernel_rfl) rfl rfl (ac rfl)) ?_;show AI _ _ _ _ _ _ #[true, true, true, true, true, true, false, false, false, false, false] _;refine cf (i := 6) (by kernel_rfl) rfl rfl <| bw rfl (jC (ds := [i64 0, S x19.1, S ([] : List UInt8), slE (ab Enc.str Enc.str) y58 none]) 78 (.cons (.refl _) (.cons (.refl _) (.cons (.refl _) (.cons (.tok _ _ _) (.nil))))) (hc := rfl) <| dX (E := (ab Enc.int (ab Enc.str (ab Enc.str (Enc.sl (ab Enc.str Enc.str)))))) (bytes := 64) (zs := [.int .i64 0, .string ⟨#[]⟩, .string ⟨#[]⟩, .slice none 0 0]) (l := ([(0, x19.1, ([] : List UInt8), y58)] : List (Int × (List UInt8) × (List UInt8) × List ((List UInt8) × List UInt8)))) aP (by kernel_rfl) (by kernel_rfl) rfl rfl rfl rfl rfl) ?_;show AI _ _ _ _ _ _ #[true, true, true, true, true, true, true, false, false, false, false] _;refine cf (i := 7) (by kernel_rfl) rfl rfl <| AIO.opx rfl (kg (E := (ab Enc.int (ab Enc.str (ab Enc.str (Enc.sl (ab Enc.str Enc.str)))))) (bytes := 64) 3 aP aP rfl (by kernel_rfl) rfl rfl rfl rfl g82 e84) ?_;rintro _ _ ⟨t81, rfl, rfl⟩;show AI _ _ _ _ _ _ #[true, true, true, true, true, true, true, true, false, false, false] _
    refine zk 8 rfl (ar rfl) ?_;show AI _ _ _ _ _ _ #[true, true, true, true, true, true, true, true, true, false, false] _;refine zk 9 rfl (an (n := 3) (by kernel_rfl) rfl) ?_;show AI _ _ _ _ _ _ #[true, true, true, true, true, true, true, true, true, true, false] _;refine cf (i := 10) (by kernel_rfl) rfl rfl <| AIO.op0 (aq (i := 0) (c := slE _ _ _) (by kernel_rfl) rfl rfl rfl rfl (ac rfl)) ?_;show AI _ _ _ _ _ _ #[true, true, true, true, true, true, true, true, true, true, true] _;refine cH rfl ?_;exact Exists.intro (x83, t81) ⟨H, bc [0, 0, 0, 0, 0] (.cons (.refl _) (.cons (.refl _) (.cons (.refl _) (.nil _)))) rfl⟩
   ·refine bw rfl (dW (i := 1) (n := 4) Tryz.underlying43 rfl (by kernel_rfl) rfl rfl (ac rfl)) ?_;show AI _ _ _ _ _ _ #[true, true, true, true, false, true, false, false, false, false, false] _;refine AI.two (i := 4) (j := 6) (by kernel_rfl) rfl rfl rfl rfl ?_ ?_
    ·refine bw rfl (ao (i := 0) aP rfl rfl rfl rfl) ?_;show AI _ _ _ _ _ _ #[true, true, true, true, true, true, false, false, false, false, false] _;refine cf (i := 6) (by kernel_rfl) rfl rfl <| bw rfl (jC (ds := [i64 0, S x19.1, S ([] : List UInt8), slE (ab Enc.str Enc.str) y58 none]) 78 (.cons (.refl _) (.cons (.refl _) (.cons (.refl _) (.cons (.tok _ _ _) (.nil))))) (hc := rfl) <| dX (E := (ab Enc.int (ab Enc.str (ab Enc.str (Enc.sl (ab Enc.str Enc.str)))))) (bytes := 64) (zs := [.int .i64 0, .string ⟨#[]⟩, .string ⟨#[]⟩, .slice none 0 0]) (l := ([(0, x19.1, ([] : List UInt8), y58)] : List (Int × (List UInt8) × (List UInt8) × List ((List UInt8) × List UInt8)))) aP (by kernel_rfl) (by kernel_rfl) rfl rfl rfl rfl rfl) ?_;show AI _ _ _ _ _ _ #[true, true, true, true, true, true, true, false, false, false, false] _;refine cf (i := 7) (by kernel_rfl) rfl rfl <| AIO.opx rfl (kg (E := (ab Enc.int (ab Enc.str (ab Enc.str (Enc.sl (ab Enc.str Enc.str)))))) (bytes := 64) 3 aP aP rfl (by kernel_rfl) rfl rfl rfl rfl g82 e84) ?_;rintro _ _ ⟨t85, rfl, rfl⟩;show AI _ _ _ _ _ _ #[true, true, true, true, true, true, true, true, false, false, false] _;refine zk 8 rfl (ar rfl) ?_;show AI _ _ _ _ _ _ #[true, true, true, true, true, true, true, true, true, false, false] _;refine zk 9 rfl (an (n := 3) (by kernel_rfl) rfl) ?_
     show AI _ _ _ _ _ _ #[true, true, true, true, true, true, true, true, true, true, false] _;refine cf (i := 10) (by kernel_rfl) rfl rfl <| AIO.op0 (aq (i := 0) (c := slE _ _ _) (by kernel_rfl) rfl rfl rfl rfl (ac rfl)) ?_;show AI _ _ _ _ _ _ #[true, true, true, true, true, true, true, true, true, true, true] _;refine cH rfl ?_;exact Exists.intro (x83, t85) ⟨H, bc [0, 0, 0, 0, 0] (.cons (.refl _) (.cons (.refl _) (.cons (.refl _) (.nil _)))) rfl⟩
    ·refine bw rfl (jC (ds := [i64 0, S x19.1, S ([] : List UInt8), slE (ab Enc.str Enc.str) y58 none]) 78 (.cons (.refl _) (.cons (.refl _) (.cons (.refl _) (.cons (.tok _ _ _) (.nil))))) (hc := rfl) <| dX (E := (ab Enc.int (ab Enc.str (ab Enc.str (Enc.sl (ab Enc.str Enc.str)))))) (bytes := 64) (zs := [.int .i64 0, .string ⟨#[]⟩, .string ⟨#[]⟩, .slice none 0 0]) (l := ([(0, x19.1, ([] : List UInt8), y58)] : List (Int × (List UInt8) × (List UInt8) × List ((List UInt8) × List UInt8)))) aP (by kernel_rfl) (by kernel_rfl) rfl rfl rfl rfl rfl) ?_;show AI _ _ _ _ _ _ #[true, true, true, true, false, true, true, false, false, false, false] _;refine cf (i := 4) (by kernel_rfl) rfl rfl <| bw rfl (ao (i := 0) aP rfl rfl rfl rfl) ?_;show AI _ _ _ _ _ _ #[true, true, true, true, true, true, true, false, false, false, false] _;refine cf (i := 7) (by kernel_rfl) rfl rfl <| AIO.opx rfl (kg (E := (ab Enc.int (ab Enc.str (ab Enc.str (Enc.sl (ab Enc.str Enc.str)))))) (bytes := 64) 3 aP aP rfl (by kernel_rfl) rfl rfl rfl rfl g82 e84) ?_;rintro _ _ ⟨t86, rfl, rfl⟩;show AI _ _ _ _ _ _ #[true, true, true, true, true, true, true, true, false, false, false] _;refine zk 8 rfl (ar rfl) ?_;show AI _ _ _ _ _ _ #[true, true, true, true, true, true, true, true, true, false, false] _;refine zk 9 rfl (an (n := 3) (by kernel_rfl) rfl) ?_
     show AI _ _ _ _ _ _ #[true, true, true, true, true, true, true, true, true, true, false] _;refine cf (i := 10) (by kernel_rfl) rfl rfl <| AIO.op0 (aq (i := 0) (c := slE _ _ _) (by kernel_rfl) rfl rfl rfl rfl (ac rfl)) ?_;show AI _ _ _ _ _ _ #[true, true, true, true, true, true, true, true, true, true, true] _;refine cH rfl ?_;exact Exists.intro (x83, t86) ⟨H, bc [0, 0, 0, 0, 0] (.cons (.refl _) (.cons (.refl _) (.cons (.refl _) (.nil _)))) rfl⟩
  rintro ⟨y87, t88⟩ H;replace H : gS F x19 y56 y57 y66 y79 y87 = some rv := H
  unfold gS at H
  refine bJ (X := Nat × (List (List UInt8)) × (List (Int × (List UInt8) × (List UInt8) × List ((List UInt8) × List UInt8))) × Nat) (fun (t96, y97, y98, t99) => ⟨[], [], [.obj o1 [S y57, .sk t96 y97.length, i64 y66, slE (ab Enc.int (ab Enc.str (ab Enc.str (Enc.sl (ab Enc.str Enc.str))))) y98 (some t99)], .stk t96 (Enc.str.fl y97), .tok t99 43]⟩) (fun (t96, y97, y98, t99) => fY y57 y66 y97 y98 = some rv) ?_ ?_
  ·refine af <| aa ?_;show AR _ _ _ _ _ [0] _;refine zm rfl <| ag <| ax rfl (fun c90 => ?_) (fun c90 => ?_)
   ·replace H := aW c90 H
    rcases Or.symm (cr H) with ⟨p93, e92, H⟩ | ⟨x91, e92, H⟩
    ·subst H;refine aa ?_;show AR _ _ _ _ _ [0, 1, 2, 3] _;refine zS rfl (ah (av := .pt _ _) rfl) <| zS rfl (an (n := 1) (by kernel_rfl) rfl) <| zR rfl (ao (i := 1) ai rfl rfl rfl rfl) <| am rfl rfl (ba (c := cg (.iface 58 (.agg #[.int .i64 p93]))) [0, 1, 1] rfl nK rfl (og F o1 y57 y79 t78 y66 y87 t88 x19.1 p93 e92) rfl ?_);exact And.intro rfl (Exists.intro [] ⟨aZ _, rfl, rfl⟩)
    refine aa ?_;show AR _ _ _ _ _ [0, 1, 2, 3] _;refine zS rfl (ah (av := .pt _ _) rfl) <| zS rfl (an (n := 1) (by kernel_rfl) rfl) <| zR rfl (ao (i := 1) ai rfl rfl rfl rfl) <| am rfl rfl (aQ [0, 1, 1] rfl nK rfl (oU F o1 y57 y79 t78 y66 y87 t88 x19.1 x91.1 x91.2 e92) rfl (fun c A' h => by cases h.1) ?_)
    rintro av A' ⟨h, t94, t95, rfl⟩; cases h
    refine ag ?_;exact Exists.intro (t94, x91.2, x91.1, t95) ⟨H, bc [0, 0, 0] (.nil _) rfl⟩
   ·replace H := aX c90 H;refine aA ?_;exact Exists.intro (t78, y79, y87, t88) ⟨H, bc [0, 1, 1] (.nil _) rfl⟩
  rintro ⟨t96, y97, y98, t99⟩ H;replace H : fY y57 y66 y97 y98 = some rv := H
  unfold fY at H
  refine af <| aa ?_;show AR _ _ _ _ _ [0] _;refine za rfl <| ag <| aG ?_;obtain rfl := aj H;exact And.intro rfl (Exists.intro _ (Exists.intro _ ⟨aD rfl (.refl _), aB [0, 0, 0] rfl, rfl, t96, t99, rfl⟩))
theorem qC (F : Nat) (o1 : Nat) (a2 : List UInt8) (a3 : List (List UInt8)) (t4 : Nat) (a5 : Int) (a6 : List (Int × (List UInt8) × (List UInt8) × List ((List UInt8) × List UInt8))) (t7 : Nat) (r8 : Bool) (r9 : List UInt8) (r12 : Int) (r13 : List (Int × (List UInt8) × (List UInt8) × List ((List UInt8) × List UInt8))) (r10 : List (List UInt8)) (H : iu F a2 a3 a5 a6 = some (Res.ok (r8, r9, r12, r13, r10))) : ACalls Tryz.prog 37 [.pt o1 0] [.obj o1 [S a2, .sk t4 a3.length, i64 a5, slE (ab Enc.int (ab Enc.str (ab Enc.str (Enc.sl (ab Enc.str Enc.str))))) a6 (some t7)], .stk t4 (Enc.str.fl a3), .tok t7 43] (fun e A' => e = .ret (B r8) ∧ ∃ t11 t14, A' = [.obj o1 [S r9, .sk t11 r10.length, i64 r12, slE (ab Enc.int (ab Enc.str (ab Enc.str (Enc.sl (ab Enc.str Enc.str))))) r13 (some t14)], .stk t11 (Enc.str.fl r10), .tok t14 43]) := oV F o1 a2 a3 t4 a5 a6 t7 _ H
theorem pD (F : Nat) (o1 : Nat) (a2 : List UInt8) (a3 : List (List UInt8)) (t4 : Nat) (a5 : Int) (a6 : List (Int × (List UInt8) × (List UInt8) × List ((List UInt8) × List UInt8))) (t7 : Nat) (e : Int) (H : iu F a2 a3 a5 a6 = some (Res.pan e)) : ACalls Tryz.prog 37 [.pt o1 0] [.obj o1 [S a2, .sk t4 a3.length, i64 a5, slE (ab Enc.int (ab Enc.str (ab Enc.str (Enc.sl (ab Enc.str Enc.str))))) a6 (some t7)], .stk t4 (Enc.str.fl a3), .tok t7 43] (fun ae A' => ae = .pan ((fun e => cg (.iface 58 (.agg #[.int .i64 e]))) e) ∧ A' = []) := oV F o1 a2 a3 t4 a5 a6 t7 _ H
abbrev _root_.Go.Av.dI := @Tryz.underlying80
abbrev _root_.Go.Av.cG := @Tryz.underlying81
set_option maxRecDepth 100000 in
set_option maxHeartbeats 1000000 in
theorem sM (F : Nat) (o1 : Nat) (a2 : List UInt8) (a3 : List (List UInt8)) (t4 : Nat) (a5 : Int) (a6 : List (Int × (List UInt8) × (List UInt8) × List ((List UInt8) × List UInt8))) (t7 : Nat) (rv : Res ((List UInt8) × Int × (List (Int × (List UInt8) × (List UInt8) × List ((List UInt8) × List UInt8))) × (List (List UInt8)))) (H : mO F a2 a3 a5 a6 = some rv) : ACalls Tryz.prog 21 [.pt o1 0] [.obj o1 [S a2, .sk t4 a3.length, i64 a5, slE (ab Enc.int (ab Enc.str (ab Enc.str (Enc.sl (ab Enc.str Enc.str))))) a6 (some t7)], .stk t4 (Enc.str.fl a3), .tok t7 43] (js (fun (r : (List UInt8) × Int × (List (Int × (List UInt8) × (List UInt8) × List ((List UInt8) × List UInt8))) × (List (List UInt8))) => (fun e A' => e = .ret (.tup []) ∧ ∃ t10 t13, A' = [.obj o1 [S r.1, .sk t10 r.2.2.2.length, i64 r.2.1, slE (ab Enc.int (ab Enc.str (ab Enc.str (Enc.sl (ab Enc.str Enc.str))))) r.2.2.1 (some t13)], .stk t10 (Enc.str.fl r.2.2.2), .tok t13 43])) (fun e => cg (.iface 58 (.agg #[.int .i64 e]))) rv) := by
 unfold mO at H
 refine ap Tryz.func21 rfl rfl ?_;show AW _ _ 14 _ _ _;refine af <| aa ?_;show AR _ _ _ _ _ [0, 1, 2] _;refine zR rfl (cN (E := lV) (bytes := 8) (xs := [.func 31, .func 32, .func 33, .func 34, .func 35, .func 36, .func 37]) (l := ([31, 32, 33, 34, 35, 36, 37] : List Nat)) cG (by kernel_rfl) rfl rfl (by decide) rfl rfl) <| zS rfl (fb (av' := i64 7) (bB cG rfl) rfl) <| zm rfl <| ag <| aR <| zK 9 <| af <| aa ?_;show AR _ _ _ _ _ [0] _;refine zS rfl (fb (av' := B true) (bZ rfl rfl) (az (by decide))) <| ag <| af <| ax rfl (fun _ => ?_) (fun hx => bK rfl hx);refine aA <| af <| aR <| af <| aa ?_;show AR _ _ _ _ _ [0, 1, 2] _;refine zS rfl (dy (E := lV) (m := 0) cG (by kernel_rfl) rfl rfl rfl rfl) <| zS rfl (aK dI rfl rfl) <| za rfl <| ag <| af ?_
 rcases Or.symm (cr H) with ⟨p16, e15, H⟩ | ⟨x14, e15, H⟩
 ·subst H;refine aa ?_;show AR _ _ _ _ _ [0, 1, 2] _;refine zm rfl <| zS rfl (ah (av := .pt _ _) rfl) <| am rfl rfl (AO.callFPan (c := cg (.iface 58 (.agg #[.int .i64 p16]))) [0, 0, 0] rfl (.inr ⟨rfl, rfl, rfl⟩) tN rfl (qZ F o1 a2 a3 t4 a5 a6 t7 p16 e15) rfl ?_);exact And.intro rfl (Exists.intro [] ⟨aZ _, rfl, rfl⟩)
 refine aa ?_;show AR _ _ _ _ _ [0, 1, 2] _;refine zm rfl <| zS rfl (ah (av := .pt _ _) rfl) <| am rfl rfl (fq [0, 0, 0] rfl (.inr ⟨rfl, rfl, rfl⟩) tN rfl (sd F o1 a2 a3 t4 a5 a6 t7 x14.1 x14.2.1 x14.2.2 e15) rfl (fun c A' h => by cases h.1) ?_)
 rintro av A' ⟨h, t17, rfl⟩; cases h
 refine ag <| ax rfl (fun c18 => ?_) (fun c18 => ?_)
 ·replace H := aW c18 H;refine aG ?_;obtain rfl := aj H;exact And.intro rfl (Exists.intro _ (Exists.intro _ ⟨bk rfl, aB [0, 0, 0] rfl, rfl, t4, t17, rfl⟩))
 ·replace H := aX c18 H;refine aA <| aa ?_;show AR _ _ _ _ _ [0, 1] _;refine zS rfl (fb (av' := i64 1) (cM rfl rfl (by decide)) rfl) <| zm rfl <| ag <| af <| aa ?_;show AR _ _ _ _ _ [0] _;refine zS rfl (fb (av' := B true) (bZ rfl rfl) (az (by decide))) <| ag <| af <| ax rfl (fun _ => ?_) (fun hx => bK rfl hx);refine aA <| af <| aR <| af <| aa ?_;show AR _ _ _ _ _ [0, 1, 2] _;refine zS rfl (dy (E := lV) (m := 1) cG (by kernel_rfl) rfl rfl rfl rfl) <| zS rfl (aK dI rfl rfl) <| za rfl <| ag <| af ?_
  rcases Or.symm (cr H) with ⟨p21, e20, H⟩ | ⟨x19, e20, H⟩
  ·subst H;refine aa ?_;show AR _ _ _ _ _ [0, 1, 2] _;refine zm rfl <| zS rfl (ah (av := .pt _ _) rfl) <| am rfl rfl (AO.callFPan (c := cg (.iface 58 (.agg #[.int .i64 p21]))) [0, 0, 0] rfl (.inr ⟨rfl, rfl, rfl⟩) tM rfl (pE F o1 x14.2.1 a3 t4 a5 x14.2.2 t17 p21 e20) rfl ?_);exact And.intro rfl (Exists.intro [] ⟨aZ _, rfl, rfl⟩)
  refine aa ?_;show AR _ _ _ _ _ [0, 1, 2] _;refine zm rfl <| zS rfl (ah (av := .pt _ _) rfl) <| am rfl rfl (fq [0, 0, 0] rfl (.inr ⟨rfl, rfl, rfl⟩) tM rfl (qD F o1 x14.2.1 a3 t4 a5 x14.2.2 t17 x19.1 x19.2 e20) rfl (fun c A' h => by cases h.1) ?_)
  rintro av A' ⟨h, rfl⟩; cases h
  refine ag <| ax rfl (fun c22 => ?_) (fun c22 => ?_)
  ·replace H := aW c22 H;refine aG ?_;obtain rfl := aj H;exact And.intro rfl (Exists.intro _ (Exists.intro _ ⟨bk rfl, aB [0, 0, 0] rfl, rfl, t4, t17, rfl⟩))
  ·replace H := aX c22 H;refine aA <| aa ?_;show AR _ _ _ _ _ [0, 1] _;refine zS rfl (fb (av' := i64 2) (cM rfl rfl (by decide)) rfl) <| zm rfl <| ag <| af <| aa ?_;show AR _ _ _ _ _ [0] _;refine zS rfl (fb (av' := B true) (bZ rfl rfl) (az (by decide))) <| ag <| af <| ax rfl (fun _ => ?_) (fun hx => bK rfl hx);refine aA <| af <| aR <| af <| aa ?_;show AR _ _ _ _ _ [0, 1, 2] _;refine zS rfl (dy (E := lV) (m := 2) cG (by kernel_rfl) rfl rfl rfl rfl) <| zS rfl (aK dI rfl rfl) <| za rfl <| ag <| af ?_
   rcases Or.symm (cr H) with ⟨p25, e24, H⟩ | ⟨x23, e24, H⟩
   ·subst H;refine aa ?_;show AR _ _ _ _ _ [0, 1, 2] _;refine zm rfl <| zS rfl (ah (av := .pt _ _) rfl) <| am rfl rfl (AO.callFPan (c := cg (.iface 58 (.agg #[.int .i64 p25]))) [0, 0, 0] rfl (.inr ⟨rfl, rfl, rfl⟩) tL rfl (ui F o1 x19.2 a3 t4 a5 x14.2.2 t17 p25 e24) rfl ?_);exact And.intro rfl (Exists.intro [] ⟨aZ _, rfl, rfl⟩)
   refine aa ?_;show AR _ _ _ _ _ [0, 1, 2] _;refine zm rfl <| zS rfl (ah (av := .pt _ _) rfl) <| am rfl rfl (fq [0, 0, 0] rfl (.inr ⟨rfl, rfl, rfl⟩) tL rfl (vf F o1 x19.2 a3 t4 a5 x14.2.2 t17 x23.1 x23.2 e24) rfl (fun c A' h => by cases h.1) ?_)
   rintro av A' ⟨h, rfl⟩; cases h
   refine ag <| ax rfl (fun c26 => ?_) (fun c26 => ?_)
   ·replace H := aW c26 H;refine aG ?_;obtain rfl := aj H;exact And.intro rfl (Exists.intro _ (Exists.intro _ ⟨bk rfl, aB [0, 0, 0] rfl, rfl, t4, t17, rfl⟩))
   ·replace H := aX c26 H;refine aA <| aa ?_;show AR _ _ _ _ _ [0, 1] _;refine zS rfl (fb (av' := i64 3) (cM rfl rfl (by decide)) rfl) <| zm rfl <| ag <| af <| aa ?_;show AR _ _ _ _ _ [0] _;refine zS rfl (fb (av' := B true) (bZ rfl rfl) (az (by decide))) <| ag <| af <| ax rfl (fun _ => ?_) (fun hx => bK rfl hx);refine aA <| af <| aR <| af <| aa ?_;show AR _ _ _ _ _ [0, 1, 2] _;refine zS rfl (dy (E := lV) (m := 3) cG (by kernel_rfl) rfl rfl rfl rfl) <| zS rfl (aK dI rfl rfl) <| za rfl <| ag <| af ?_
    rcases Or.symm (cr H) with ⟨p29, e28, H⟩ | ⟨x27, e28, H⟩
    ·subst H;refine aa ?_;show AR _ _ _ _ _ [0, 1, 2] _;refine zm rfl <| zS rfl (ah (av := .pt _ _) rfl) <| am rfl rfl (AO.callFPan (c := cg (.iface 58 (.agg #[.int .i64 p29]))) [0, 0, 0] rfl (.inr ⟨rfl, rfl, rfl⟩) tK rfl (se F o1 x23.2 a3 t4 a5 x14.2.2 t17 p29 e28) rfl ?_);exact And.intro rfl (Exists.intro [] ⟨aZ _, rfl, rfl⟩)
    refine aa ?_;show AR _ _ _ _ _ [0, 1, 2] _;refine zm rfl <| zS rfl (ah (av := .pt _ _) rfl) <| am rfl rfl (fq [0, 0, 0] rfl (.inr ⟨rfl, rfl, rfl⟩) tK rfl (ug F o1 x23.2 a3 t4 a5 x14.2.2 t17 x27.1 x27.2.1 x27.2.2 e28) rfl (fun c A' h => by cases h.1) ?_)
    rintro av A' ⟨h, t30, rfl⟩; cases h
    refine ag <| ax rfl (fun c31 => ?_) (fun c31 => ?_)
    ·replace H := aW c31 H;refine aG ?_;obtain rfl := aj H;exact And.intro rfl (Exists.intro _ (Exists.intro _ ⟨bk rfl, aB [0, 0, 0] rfl, rfl, t4, t30, rfl⟩))
    ·replace H := aX c31 H;refine aA <| aa ?_;show AR _ _ _ _ _ [0, 1] _;refine zS rfl (fb (av' := i64 4) (cM rfl rfl (by decide)) rfl) <| zm rfl <| ag <| af <| aa ?_;show AR _ _ _ _ _ [0] _;refine zS rfl (fb (av' := B true) (bZ rfl rfl) (az (by decide))) <| ag <| af <| ax rfl (fun _ => ?_) (fun hx => bK rfl hx);refine aA <| af <| aR <| af <| aa ?_;show AR _ _ _ _ _ [0, 1, 2] _;refine zS rfl (dy (E := lV) (m := 4) cG (by kernel_rfl) rfl rfl rfl rfl) <| zS rfl (aK dI rfl rfl) <| za rfl <| ag <| af ?_
     rcases Or.symm (cr H) with ⟨p34, e33, H⟩ | ⟨x32, e33, H⟩
     ·subst H;refine aa ?_;show AR _ _ _ _ _ [0, 1, 2] _;refine zm rfl <| zS rfl (ah (av := .pt _ _) rfl) <| am rfl rfl (AO.callFPan (c := cg (.iface 58 (.agg #[.int .i64 p34]))) [0, 0, 0] rfl (.inr ⟨rfl, rfl, rfl⟩) tJ rfl (uf F o1 x27.2.1 a3 t4 a5 x27.2.2 t30 p34 e33) rfl ?_);exact And.intro rfl (Exists.intro [] ⟨aZ _, rfl, rfl⟩)
     refine aa ?_;show AR _ _ _ _ _ [0, 1, 2] _;refine zm rfl <| zS rfl (ah (av := .pt _ _) rfl) <| am rfl rfl (fq [0, 0, 0] rfl (.inr ⟨rfl, rfl, rfl⟩) tJ rfl (ve F o1 x27.2.1 a3 t4 a5 x27.2.2 t30 x32.1 x32.2 e33) rfl (fun c A' h => by cases h.1) ?_)
     rintro av A' ⟨h, rfl⟩; cases h
     refine ag <| ax rfl (fun c35 => ?_) (fun c35 => ?_)
     ·replace H := aW c35 H;refine aG ?_;obtain rfl := aj H;exact And.intro rfl (Exists.intro _ (Exists.intro _ ⟨bk rfl, aB [0, 0, 0] rfl, rfl, t4, t30, rfl⟩))
     ·replace H := aX c35 H;refine aA <| aa ?_;show AR _ _ _ _ _ [0, 1] _;refine zS rfl (fb (av' := i64 5) (cM rfl rfl (by decide)) rfl) <| zm rfl <| ag <| af <| aa ?_;show AR _ _ _ _ _ [0] _;refine zS rfl (fb (av' := B true) (bZ rfl rfl) (az (by decide))) <| ag <| af <| ax rfl (fun _ => ?_) (fun hx => bK rfl hx);refine aA <| af <| aR <| af <| aa ?_;show AR _ _ _ _ _ [0, 1, 2] _;refine zS rfl (dy (E := lV) (m := 5) cG (by kernel_rfl) rfl rfl rfl rfl) <| zS rfl (aK dI rfl rfl) <| za rfl <| ag <| af ?_
      rcases Or.symm (cr H) with ⟨p38, e37, H⟩ | ⟨x36, e37, H⟩
      ·subst H;refine aa ?_;show AR _ _ _ _ _ [0, 1, 2] _;refine zm rfl <| zS rfl (ah (av := .pt _ _) rfl) <| am rfl rfl (AO.callFPan (c := cg (.iface 58 (.agg #[.int .i64 p38]))) [0, 0, 0] rfl (.inr ⟨rfl, rfl, rfl⟩) tI rfl (qB F o1 x32.2 a3 t4 a5 x27.2.2 t30 p38 e37) rfl ?_);exact And.intro rfl (Exists.intro [] ⟨aZ _, rfl, rfl⟩)
      refine aa ?_;show AR _ _ _ _ _ [0, 1, 2] _;refine zm rfl <| zS rfl (ah (av := .pt _ _) rfl) <| am rfl rfl (fq [0, 0, 0] rfl (.inr ⟨rfl, rfl, rfl⟩) tI rfl (ra F o1 x32.2 a3 t4 a5 x27.2.2 t30 x36.1 x36.2.1 x36.2.2.1 x36.2.2.2 e37) rfl (fun c A' h => by cases h.1) ?_)
      rintro av A' ⟨h, t39, t40, rfl⟩; cases h
      refine ag <| ax rfl (fun c41 => ?_) (fun c41 => ?_)
      ·replace H := aW c41 H;refine aG ?_;obtain rfl := aj H;exact And.intro rfl (Exists.intro _ (Exists.intro _ ⟨bk rfl, aB [0, 0, 0] rfl, rfl, t39, t40, rfl⟩))
      ·replace H := aX c41 H;refine aA <| aa ?_;show AR _ _ _ _ _ [0, 1] _;refine zS rfl (fb (av' := i64 6) (cM rfl rfl (by decide)) rfl) <| zm rfl <| ag <| af <| aa ?_;show AR _ _ _ _ _ [0] _;refine zS rfl (fb (av' := B true) (bZ rfl rfl) (az (by decide))) <| ag <| af <| ax rfl (fun _ => ?_) (fun hx => bK rfl hx);refine aA <| af <| aR <| af <| aa ?_;show AR _ _ _ _ _ [0, 1, 2] _;refine zS rfl (dy (E := lV) (m := 6) cG (by kernel_rfl) rfl rfl rfl rfl) <| zS rfl (aK dI rfl rfl) <| za rfl <| ag <| af ?_
       rcases Or.symm (cr H) with ⟨p44, e43, H⟩ | ⟨x42, e43, H⟩
       ·subst H;refine aa ?_;show AR _ _ _ _ _ [0, 1, 2] _;refine zm rfl <| zS rfl (ah (av := .pt _ _) rfl) <| am rfl rfl (AO.callFPan (c := cg (.iface 58 (.agg #[.int .i64 p44]))) [0, 0, 0] rfl (.inr ⟨rfl, rfl, rfl⟩) tH rfl (pD F o1 x36.2.1 x36.2.2.2 t39 a5 x36.2.2.1 t40 p44 e43) rfl ?_);exact And.intro rfl (Exists.intro [] ⟨aZ _, rfl, rfl⟩)
       refine aa ?_;show AR _ _ _ _ _ [0, 1, 2] _;refine zm rfl <| zS rfl (ah (av := .pt _ _) rfl) <| am rfl rfl (fq [0, 0, 0] rfl (.inr ⟨rfl, rfl, rfl⟩) tH rfl (qC F o1 x36.2.1 x36.2.2.2 t39 a5 x36.2.2.1 t40 x42.1 x42.2.1 x42.2.2.1 x42.2.2.2.1 x42.2.2.2.2 e43) rfl (fun c A' h => by cases h.1) ?_)
       rintro av A' ⟨h, t45, t46, rfl⟩; cases h
       refine ag <| ax rfl (fun c47 => ?_) (fun c47 => ?_)
       ·replace H := aW c47 H;refine aG ?_;obtain rfl := aj H;exact And.intro rfl (Exists.intro _ (Exists.intro _ ⟨bk rfl, aB [0, 0, 0] rfl, rfl, t45, t46, rfl⟩))
       ·replace H := aX c47 H;refine aA <| aa ?_;show AR _ _ _ _ _ [0, 1] _;refine zS rfl (fb (av' := i64 7) (cM rfl rfl (by decide)) rfl) <| zm rfl <| ag <| af <| aa ?_;show AR _ _ _ _ _ [0] _;refine zS rfl (fb (av' := B false) (bZ rfl rfl) (az (by decide))) <| ag <| af <| ax rfl (fun hx => bK hx rfl) (fun _ => ?_);refine cx ?_;obtain rfl := aj H;exact And.intro rfl (Exists.intro _ (Exists.intro _ ⟨bk rfl, aB [0, 0, 0] rfl, rfl, t45, t46, rfl⟩))
theorem ue (F : Nat) (o1 : Nat) (a2 : List UInt8) (a3 : List (List UInt8)) (t4 : Nat) (a5 : Int) (a6 : List (Int × (List UInt8) × (List UInt8) × List ((List UInt8) × List UInt8))) (t7 : Nat) (r8 : List UInt8) (r11 : Int) (r12 : List (Int × (List UInt8) × (List UInt8) × List ((List UInt8) × List UInt8))) (r9 : List (List UInt8)) (H : mO F a2 a3 a5 a6 = some (Res.ok (r8, r11, r12, r9))) : ACalls Tryz.prog 21 [.pt o1 0] [.obj o1 [S a2, .sk t4 a3.length, i64 a5, slE (ab Enc.int (ab Enc.str (ab Enc.str (Enc.sl (ab Enc.str Enc.str))))) a6 (some t7)], .stk t4 (Enc.str.fl a3), .tok t7 43] (fun e A' => e = .ret (.tup []) ∧ ∃ t10 t13, A' = [.obj o1 [S r8, .sk t10 r9.length, i64 r11, slE (ab Enc.int (ab Enc.str (ab Enc.str (Enc.sl (ab Enc.str Enc.str))))) r12 (some t13)], .stk t10 (Enc.str.fl r9), .tok t13 43]) := sM F o1 a2 a3 t4 a5 a6 t7 _ H
theorem sc (F : Nat) (o1 : Nat) (a2 : List UInt8) (a3 : List (List UInt8)) (t4 : Nat) (a5 : Int) (a6 : List (Int × (List UInt8) × (List UInt8) × List ((List UInt8) × List UInt8))) (t7 : Nat) (e : Int) (H : mO F a2 a3 a5 a6 = some (Res.pan e)) : ACalls Tryz.prog 21 [.pt o1 0] [.obj o1 [S a2, .sk t4 a3.length, i64 a5, slE (ab Enc.int (ab Enc.str (ab Enc.str (Enc.sl (ab Enc.str Enc.str))))) a6 (some t7)], .stk t4 (Enc.str.fl a3), .tok t7 43] (fun ae A' => ae = .pan ((fun e => cg (.iface 58 (.agg #[.int .i64 e]))) e) ∧ A' = []) := sM F o1 a2 a3 t4 a5 a6 t7 _ H
set_option maxRecDepth 100000 in
set_option maxHeartbeats 1000000 in
theorem vg (F : Nat) (a1 : List UInt8) (q2 : Option Nat) (r3 : List (Int × (List UInt8) × (List UInt8) × List ((List UInt8) × List UInt8))) (r4 : Int) (H : mh F a1 = some (r3, r4)) : ACalls Tryz.prog 14 [slE Enc.byte a1 q2] [] (Ret (.tup [slE (ab Enc.int (ab Enc.str (ab Enc.str (Enc.sl (ab Enc.str Enc.str))))) r3 none, i64 r4]) []) := by
 unfold mh at H
 refine mL [2, 3] Tryz.func14 rfl rfl ?_;show AW _ _ 38 _ _ _;refine af <| aa ?_;show AR _ _ _ _ _ [0, 1] _;refine zX rfl (bj (zs := [.slice none 0 0]) (by kernel_rfl)) ?_;rintro _ _ ⟨o5, rfl, rfl⟩;refine zX rfl (bj (zs := [.int .i64 0]) (by kernel_rfl)) ?_;rintro _ _ ⟨o6, rfl, rfl⟩;refine ag <| af <| af <| aa ?_;show AR _ _ _ _ _ [0, 1, 2] _;refine zS rfl (ah (av := slE _ _ _) rfl) <| zS rfl (bB al rfl) <| zS rfl (fH rfl rfl) <| ag <| ax rfl (fun c7 => ?_) (fun c7 => ?_)
 ·replace H := aW c7 H;refine af <| aa ?_;show AR _ _ _ _ _ [0, 1] _;refine s0 rfl rfl (aq (i := 1) (c := .v _) (by kernel_rfl) rfl rfl rfl rfl (ac rfl)) <| s0 rfl rfl (aq (i := 0) (c := .v _) (by kernel_rfl) rfl rfl rfl rfl (ac rfl)) <| ag <| aG ?_;obtain ⟨rfl, rfl⟩ := dw H;exact Exists.intro _ (Exists.intro _ ⟨bD rfl ((bo (c := .v _) 1 aP rfl rfl rfl rfl).oneW (.nil _)) (bo (c := .v _) 0 bn rfl rfl rfl rfl), aB [] rfl, rfl, rfl⟩)
 ·replace H := aX c7 H;refine aA <| af <| aa ?_;show AR _ _ _ _ _ [0, 1] _;refine zS rfl (fL rfl rfl) <| am rfl rfl (AO.defer rfl ?_);show AR _ _ _ _ _ _ ⟨_, [.call (.func 20) [.pt o5 0, .pt o6 0] []], _⟩;refine ag <| af <| aa ?_;show AR _ _ _ _ _ [0, 1, 2, 3, 4] _;refine zS rfl (ah (av := slE _ _ _) rfl) <| zS rfl (oA al cO ai rfl) <| zS rfl (cQ (zs := [.string ⟨#[]⟩, .slice none 0 0, .int .i64 0, .slice none 0 0]) (ps := [(0, 1), (1, 1), (2, 1), (3, 1)]) (cs := [S a1, eD, i64 0, eD]) (by kernel_rfl) rfl rfl) <| zX rfl (pB rfl (.inr ⟨_, rfl⟩)) ?_;rintro _ _ ⟨o8, rfl, rfl⟩;refine zS rfl (aH (av := .pt _ _) rfl) <| ag ?_
  refine AW.nil_stkAt 0 1 rfl rfl fun t9 => ?_
  show AW _ _ _ _ _ ⟨_, _, [.stk t9 (Enc.str.fl ([] : List (List UInt8))), .obj o8 [S a1, .sk t9 (([] : List (List UInt8)).length), i64 0, eD], .obj o6 [i64 0], .obj o5 [eD]]⟩
  refine jl 1 3 4 43 rfl rfl fun t10 => ?_
  show AW _ _ _ _ _ ⟨_, _, [.tok t10 43, .stk t9 (Enc.str.fl ([] : List (List UInt8))), .obj o8 [S a1, .sk t9 (([] : List (List UInt8)).length), i64 0, slE (ab Enc.int (ab Enc.str (ab Enc.str (Enc.sl (ab Enc.str Enc.str))))) [] (some t10)], .obj o6 [i64 0], .obj o5 [eD]]⟩;refine bJ (X := (List UInt8) × Nat × (List (List UInt8)) × Int × (List (Int × (List UInt8) × (List UInt8) × List ((List UInt8) × List UInt8))) × Nat) (fun (y26, t27, y28, y29, y30, t31) => ⟨[(2, .pt o5 0), (3, .pt o6 0), (4, .pt o8 0)], [.call (.func 20) [.pt o5 0, .pt o6 0] []], [.obj o8 [S y26, .sk t27 y28.length, i64 y29, slE (ab Enc.int (ab Enc.str (ab Enc.str (Enc.sl (ab Enc.str Enc.str))))) y30 (some t31)], .obj o6 [i64 0], .obj o5 [eD], .stk t27 (Enc.str.fl y28), .tok t31 43]⟩) (fun (y26, t27, y28, y29, y30, t31) => jc F y26 y28 y29 y30 = some (r3, r4)) ?_ ?_
  ·refine aR <| de (X := Nat × (List UInt8) × Nat × (List (List UInt8)) × Int × (List (Int × (List UInt8) × (List UInt8) × List ((List UInt8) × List UInt8))) × Nat) (fun (n18, y11, t12, y13, y14, y15, t16) => ⟨[(2, .pt o5 0), (3, .pt o6 0), (4, .pt o8 0)], [.call (.func 20) [.pt o5 0, .pt o6 0] []], [.obj o8 [S y11, .sk t12 y13.length, i64 y14, slE (ab Enc.int (ab Enc.str (ab Enc.str (Enc.sl (ab Enc.str Enc.str))))) y15 (some t16)], .obj o6 [i64 0], .obj o5 [eD], .stk t12 (Enc.str.fl y13), .tok t16 43]⟩) (fun (n18, y11, t12, y13, y14, y15, t16) => jd F n18 (y11, y13, y14, y15) = some (r3, r4)) (fun (n18, y11, t12, y13, y14, y15, t16) => n18) (F, a1, t9, ([] : List (List UInt8)), 0, [], t10) H (bc [2, 2, 2, 1, 0] (.cons (.refl _) (.cons (.refl _) (.cons (.refl _) (.nil _)))) rfl) ?_;rintro ⟨n18, y11, t12, y13, y14, y15, t16⟩ H;obtain ⟨n18, rfl, H⟩ := fa H;replace H : je F (jd F n18) y11 y13 y14 y15 = some (r3, r4) := H
   unfold je at H
   refine af <| af <| aa ?_;show AR _ _ _ _ _ [0, 1, 2, 3, 4] _;refine zS rfl (ah (av := .pt _ _) rfl) <| zS rfl (ar rfl) <| zS rfl (an (n := 0) (by kernel_rfl) rfl) <| zR rfl (ao (i := 0) ai rfl rfl rfl rfl) <| zS rfl (lT rfl rfl) <| ag <| ax rfl (fun c19 => ?_) (fun c19 => ?_)
   ·replace H := aW c19 H;refine aA <| aR ?_
    rcases Or.symm (mc H) with ⟨p22, e21, H⟩ | ⟨x20, e21, H⟩
    ·refine aa ?_;show AR _ _ _ _ _ [0, 1] _;refine zS rfl (ah (av := .pt _ _) rfl) <| am rfl rfl (ba (c := cg (.iface 58 (.agg #[.int .i64 p22]))) [0, 2, 2] rfl tP rfl (sc F o8 y11 y13 t12 y14 y15 t16 p22 e21) rfl ?_);refine Exists.intro [(2, .pt o5 0), (3, .pt o6 0)] ⟨by simp, .cons (.refl _) (.cons (.refl _) (.nil _)), ?_⟩;show ALeaves _ _ _ _ _ [.call (.func 20) [.pt o5 0, .pt o6 0] []] _ [.obj o6 [i64 0], .obj o5 [eD]];refine cw (v := .tup []) (u1 := (.panicking [{ v := (.iface 58 (.agg #[.int .i64 p22])), recovered := true }])) (A2 := [.obj o6 [i64 p22], .obj o5 [eD]]) [0, 0] (fun h => by cases h) pV rfl ?_ ?_
     ·show ADCalls _ _ [.pt o5 0, .pt o6 0] [.obj o6 [i64 0], .obj o5 [eD]] _ _;refine bH (av := .ifc 58 (.agg [i64 p22])) (l := [1]) Tryz.func20 rfl rfl rfl rfl rfl dd rfl (fun cs => ?_);refine ASR.op rfl rfl ((aH (av := .ifc _ _) rfl).opR _) <| ASR.nil <| af <| aa ?_;show AR _ _ _ _ _ [0, 1] _;refine zS rfl (ah (av := .ifc _ _) rfl) <| zS rfl (dE (ms := []) (.inr rfl) bR rfl rfl) <| ag <| ax rfl (fun _ => ?_) (fun hx => bK rfl hx);refine af <| aa ?_;show AR _ _ _ _ _ [0, 1, 2, 3, 4, 5, 6, 7] _;refine zS rfl (ah (av := .ifc _ _) rfl) <| zS rfl (cu Tryz.underlying58 rfl rfl) <| zS rfl (ah (av := .tup _) rfl) <| zS rfl (ay (av := .agg _) rfl rfl) <| zS rfl (ay (av := .v _) rfl rfl) <| zX rfl (bj (zs := [.int .i64 0]) (by kernel_rfl)) ?_;rintro _ _ ⟨o23, rfl, rfl⟩;refine s0 rfl rfl (aV (i := 0) (vs := [i64 p22]) (by kernel_rfl) rfl rfl (by simp [bA, slE]) rfl (ac rfl)) <| za rfl <| ag <| af <| af <| aa ?_;show AR _ _ _ _ _ [0, 1] _;refine zm rfl <| zS rfl (bG rfl) <| ag <| ax rfl (fun hx => bK hx rfl) (fun _ => ?_);refine aA <| cc (by kernel_rfl) ?_;show AI _ _ _ _ _ 4 (Array.replicate 4 false) _;refine zk 0 rfl (an (n := 0) (by kernel_rfl) rfl) ?_;show AI _ _ _ _ _ _ #[true, false, false, false] _;refine AI.two (i := 1) (j := 2) (by kernel_rfl) rfl rfl rfl rfl ?_ ?_
      ·refine bw rfl (ao (i := 0) bn rfl rfl rfl rfl) ?_;show AI _ _ _ _ _ _ #[true, true, false, false] _;refine cf (i := 2) (by kernel_rfl) rfl rfl <| AIO.op0 (aq (i := 2) (c := .v _) (by kernel_rfl) rfl rfl rfl rfl (ac rfl)) ?_;show AI _ _ _ _ _ _ #[true, true, true, false] _;refine cf (i := 3) (by kernel_rfl) rfl rfl <| AIO.op0 (aq (i := 1) (c := .v _) (by kernel_rfl) rfl rfl rfl rfl (ac rfl)) ?_;show AI _ _ _ _ _ _ #[true, true, true, true] _;refine cH rfl ?_;exact And.intro rfl (Exists.intro _ (Exists.intro _ ⟨bk rfl, aB [1, 1] rfl, rfl, rfl, rfl⟩))
      ·refine AIO.op0 (aq (i := 2) (c := .v _) (by kernel_rfl) rfl rfl rfl rfl (ac rfl)) ?_;show AI _ _ _ _ _ _ #[true, false, true, false] _;refine cf (i := 1) (by kernel_rfl) rfl rfl <| bw rfl (ao (i := 0) bn rfl rfl rfl rfl) ?_;show AI _ _ _ _ _ _ #[true, true, true, false] _;refine cf (i := 3) (by kernel_rfl) rfl rfl <| AIO.op0 (aq (i := 1) (c := .v _) (by kernel_rfl) rfl rfl rfl rfl (ac rfl)) ?_;show AI _ _ _ _ _ _ #[true, true, true, true] _;refine cH rfl ?_;exact And.intro rfl (Exists.intro _ (Exists.intro _ ⟨bk rfl, aB [1, 1] rfl, rfl, rfl, rfl⟩))
     show ALeaves _ _ _ _ _ [] .returning [.obj o6 [i64 p22], .obj o5 [eD]];obtain ⟨rfl, rfl⟩ := dw H;exact Exists.intro _ (Exists.intro _ ⟨bD rfl ((bo (c := .v _) 1 aP rfl rfl rfl rfl).oneW (.nil _)) (bo (c := .v _) 0 bn rfl rfl rfl rfl), aB [] rfl, rfl, rfl⟩)
    refine aa ?_;show AR _ _ _ _ _ [0, 1] _;refine zS rfl (ah (av := .pt _ _) rfl) <| am rfl rfl (aQ [0, 2, 2] rfl tP rfl (ue F o8 y11 y13 t12 y14 y15 t16 x20.1 x20.2.1 x20.2.2.1 x20.2.2.2 e21) rfl (fun c A' h => by cases h.1) ?_)
    rintro av A' ⟨h, t24, t25, rfl⟩; cases h
    refine ag ?_;exact Exists.intro (n18, x20.1, t24, x20.2.2.2, x20.2.1, x20.2.2.1, t25) ⟨H, Nat.lt_succ_self _, bc [0, 2, 2, 0, 0] (.cons (.refl _) (.cons (.refl _) (.cons (.refl _) (.nil _)))) rfl⟩
   ·replace H := aX c19 H;refine cx ?_;exact Exists.intro (y11, t12, y13, y14, y15, t16) ⟨H, bc [0, 0, 0, 0, 0] (.cons (.refl _) (.cons (.refl _) (.cons (.refl _) (.nil _)))) rfl⟩
  rintro ⟨y26, t27, y28, y29, y30, t31⟩ H;replace H : jc F y26 y28 y29 y30 = some (r3, r4) := H
  unfold jc at H
  refine af ?_
  rcases Or.symm (mc H) with ⟨p36, e35, H⟩ | ⟨x34, e35, H⟩
  ·refine aa ?_;show AR _ _ _ _ _ [0, 1, 2, 3, 4, 5, 6, 7, 8, 9, 10, 11, 12, 13] _;refine zS rfl (ah (av := .pt _ _) rfl) <| zS rfl (ar rfl) <| zS rfl (an (n := 1) (by kernel_rfl) rfl) <| zR rfl (ao (i := 0) au rfl rfl rfl rfl) <| zS rfl (ff au rfl) <| zS rfl (bL rfl rfl) <| zm rfl <| aY (l := [13]) 32 (B ((decide ((y28.length : Int) = 0)) && (decide (0 < y29)))) (fun K => ?_) ?_
   ·rcases ak (decide ((y28.length : Int) = 0)) with h33 | h33
    ·refine zU h33 rfl (ah (av := .pt _ _) rfl) <| zU h33 rfl (ar rfl) <| zU h33 rfl (an (n := 2) (by kernel_rfl) rfl) <| zT h33 rfl (cm rfl rfl (ao (i := 0) aL rfl rfl rfl rfl) ?_);refine zU h33 rfl (fH rfl rfl) <| zS rfl (aE (av := .v _) rfl h33 rfl) ?_;exact K _ 5 _ (az (cB h33)) rfl rfl
    ·refine zF h33 rfl <| zF h33 rfl <| zF h33 rfl <| zF h33 rfl <| zF h33 rfl <| zS rfl (aF (av := .v _) rfl h33 rfl) ?_;exact K _ 5 _ (az (cC h33)) rfl rfl
   refine am rfl rfl (ba (c := cg (.iface 58 (.agg #[.int .i64 p36]))) [] rfl bV rfl (bW F ((decide ((y28.length : Int) = 0)) && (decide (0 < y29))) p36 e35) rfl ?_);refine Exists.intro [(2, .pt o5 0), (3, .pt o6 0)] ⟨by simp, .cons (.refl _) (.cons (.refl _) (.nil _)), ?_⟩;show ALeaves _ _ _ _ _ [.call (.func 20) [.pt o5 0, .pt o6 0] []] _ [.obj o8 [S y26, .sk t27 y28.length, i64 y29, slE (ab Enc.int (ab Enc.str (ab Enc.str (Enc.sl (ab Enc.str Enc.str))))) y30 (some t31)], .obj o6 [i64 0], .obj o5 [eD], .stk t27 (Enc.str.fl y28), .tok t31 43];refine cw (v := .tup []) (u1 := (.panicking [{ v := (.iface 58 (.agg #[.int .i64 p36])), recovered := true }])) (A2 := [.obj o6 [i64 p36], .obj o5 [eD]]) [1, 1] (fun h => by cases h) pV rfl ?_ ?_
   ·show ADCalls _ _ [.pt o5 0, .pt o6 0] [.obj o6 [i64 0], .obj o5 [eD]] _ _;refine bH (av := .ifc 58 (.agg [i64 p36])) (l := [1]) Tryz.func20 rfl rfl rfl rfl rfl dd rfl (fun cs => ?_);refine ASR.op rfl rfl ((aH (av := .ifc _ _) rfl).opR _) <| ASR.nil <| af <| aa ?_;show AR _ _ _ _ _ [0, 1] _;refine zS rfl (ah (av := .ifc _ _) rfl) <| zS rfl (dE (ms := []) (.inr rfl) bR rfl rfl) <| ag <| ax rfl (fun _ => ?_) (fun hx => bK rfl hx);refine af <| aa ?_;show AR _ _ _ _ _ [0, 1, 2, 3, 4, 5, 6, 7] _;refine zS rfl (ah (av := .ifc _ _) rfl) <| zS rfl (cu Tryz.underlying58 rfl rfl) <| zS rfl (ah (av := .tup _) rfl) <| zS rfl (ay (av := .agg _) rfl rfl) <| zS rfl (ay (av := .v _) rfl rfl) <| zX rfl (bj (zs := [.int .i64 0]) (by kernel_rfl)) ?_;rintro _ _ ⟨o37, rfl, rfl⟩;refine s0 rfl rfl (aV (i := 0) (vs := [i64 p36]) (by kernel_rfl) rfl rfl (by simp [bA, slE]) rfl (ac rfl)) <| za rfl <| ag <| af <| af <| aa ?_;show AR _ _ _ _ _ [0, 1] _;refine zm rfl <| zS rfl (bG rfl) <| ag <| ax rfl (fun hx => bK hx rfl) (fun _ => ?_);refine aA <| cc (by kernel_rfl) ?_;show AI _ _ _ _ _ 4 (Array.replicate 4 false) _;refine zk 0 rfl (an (n := 0) (by kernel_rfl) rfl) ?_;show AI _ _ _ _ _ _ #[true, false, false, false] _;refine AI.two (i := 1) (j := 2) (by kernel_rfl) rfl rfl rfl rfl ?_ ?_
    ·refine bw rfl (ao (i := 0) bn rfl rfl rfl rfl) ?_;show AI _ _ _ _ _ _ #[true, true, false, false] _;refine cf (i := 2) (by kernel_rfl) rfl rfl <| AIO.op0 (aq (i := 2) (c := .v _) (by kernel_rfl) rfl rfl rfl rfl (ac rfl)) ?_;show AI _ _ _ _ _ _ #[true, true, true, false] _;refine cf (i := 3) (by kernel_rfl) rfl rfl <| AIO.op0 (aq (i := 1) (c := .v _) (by kernel_rfl) rfl rfl rfl rfl (ac rfl)) ?_;show AI _ _ _ _ _ _ #[true, true, true, true] _;refine cH rfl ?_;exact And.intro rfl (Exists.intro _ (Exists.intro _ ⟨bk rfl, aB [1, 1] rfl, rfl, rfl, rfl⟩))
    ·refine AIO.op0 (aq (i := 2) (c := .v _) (by kernel_rfl) rfl rfl rfl rfl (ac rfl)) ?_;show AI _ _ _ _ _ _ #[true, false, true, false] _;refine cf (i := 1) (by kernel_rfl) rfl rfl <| bw rfl (ao (i := 0) bn rfl rfl rfl rfl) ?_;show AI _ _ _ _ _ _ #[true, true, true, false] _;refine cf (i := 3) (by kernel_rfl) rfl rfl <| AIO.op0 (aq (i := 1) (c := .v _) (by kernel_rfl) rfl rfl rfl rfl (ac rfl)) ?_;show AI _ _ _ _ _ _ #[true, true, true, true] _;refine cH rfl ?_;exact And.intro rfl (Exists.intro _ (Exists.intro _ ⟨bk rfl, aB [1, 1] rfl, rfl, rfl, rfl⟩))
   show ALeaves _ _ _ _ _ [] .returning [.obj o6 [i64 p36], .obj o5 [eD], .obj o8 [S y26, .sk t27 y28.length, i64 y29, slE (ab Enc.int (ab Enc.str (ab Enc.str (Enc.sl (ab Enc.str Enc.str))))) y30 (some t31)], .stk t27 (Enc.str.fl y28), .tok t31 43];obtain ⟨rfl, rfl⟩ := dw H;exact Exists.intro _ (Exists.intro _ ⟨bD rfl ((bo (c := .v _) 1 aP rfl rfl rfl rfl).oneW (.nil _)) (bo (c := .v _) 0 bn rfl rfl rfl rfl), aB [] rfl, rfl, rfl⟩)
  refine aa ?_;show AR _ _ _ _ _ [0, 1, 2, 3, 4, 5, 6, 7, 8, 9, 10, 11, 12, 13] _;refine zS rfl (ah (av := .pt _ _) rfl) <| zS rfl (ar rfl) <| zS rfl (an (n := 1) (by kernel_rfl) rfl) <| zR rfl (ao (i := 0) au rfl rfl rfl rfl) <| zS rfl (ff au rfl) <| zS rfl (bL rfl rfl) <| zm rfl <| aY (l := [13]) 32 (B ((decide ((y28.length : Int) = 0)) && (decide (0 < y29)))) (fun K => ?_) ?_
  ·rcases ak (decide ((y28.length : Int) = 0)) with h33 | h33
   ·refine zU h33 rfl (ah (av := .pt _ _) rfl) <| zU h33 rfl (ar rfl) <| zU h33 rfl (an (n := 2) (by kernel_rfl) rfl) <| zT h33 rfl (cm rfl rfl (ao (i := 0) aL rfl rfl rfl rfl) ?_);refine zU h33 rfl (fH rfl rfl) <| zS rfl (aE (av := .v _) rfl h33 rfl) ?_;exact K _ 5 _ (az (cB h33)) rfl rfl
   ·refine zF h33 rfl <| zF h33 rfl <| zF h33 rfl <| zF h33 rfl <| zF h33 rfl <| zS rfl (aF (av := .v _) rfl h33 rfl) ?_;exact K _ 5 _ (az (cC h33)) rfl rfl
  refine am rfl rfl (aC rfl bV rfl (cn F ((decide ((y28.length : Int) = 0)) && (decide (0 < y29))) e35) ?_);refine ag <| af <| aa ?_;show AR _ _ _ _ _ [0, 1, 2, 3, 4, 5] _;refine zS rfl (ah (av := .pt _ _) rfl) <| zS rfl (ar rfl) <| zS rfl (an (n := 3) (by kernel_rfl) rfl) <| zR rfl (ao (i := 0) aP rfl rfl rfl rfl) <| s0 rfl rfl (aq (i := 2) (c := slE _ _ _) (by kernel_rfl) rfl rfl rfl rfl (ac rfl)) <| s0 rfl rfl (aq (i := 1) (c := .v _) (by kernel_rfl) rfl rfl rfl rfl (ac rfl)) <| ag <| aG ?_;show ALeaves _ _ _ _ _ [.call (.func 20) [.pt o5 0, .pt o6 0] []] _ [.obj o8 [S y26, .sk t27 y28.length, i64 y29, slE (ab Enc.int (ab Enc.str (ab Enc.str (Enc.sl (ab Enc.str Enc.str))))) y30 (some t31)], .obj o6 [i64 0], .obj o5 [slE (ab Enc.int (ab Enc.str (ab Enc.str (Enc.sl (ab Enc.str Enc.str))))) y30 (some t31)], .stk t27 (Enc.str.fl y28), .tok t31 43];refine cw (v := .tup []) (u1 := .returning) (A2 := [.obj o6 [i64 0], .obj o5 [slE (ab Enc.int (ab Enc.str (ab Enc.str (Enc.sl (ab Enc.str Enc.str))))) y30 (some t31)]]) [1, 1] (fun h => by cases h) pV rfl ?_ ?_
  ·show ADCalls _ _ [.pt o5 0, .pt o6 0] [.obj o6 [i64 0], .obj o5 [slE (ab Enc.int (ab Enc.str (ab Enc.str (Enc.sl (ab Enc.str Enc.str))))) y30 (some t31)]] _ _;refine bH (av := .v .nilIface) (l := [1]) Tryz.func20 rfl rfl rfl rfl rfl Recovers.ret rfl (fun cs => ?_);refine ASR.op rfl rfl ((asg rfl).opR _) <| ASR.nil <| af <| aa ?_;show AR _ _ _ _ _ [0, 1] _;refine zm rfl <| zS rfl (mD (n := 0) (t := 0) (k := .i64) bR rfl rfl) <| ag <| ax rfl (fun hx => bK hx rfl) (fun _ => ?_);refine aA ?_;exact And.intro rfl (Exists.intro _ (Exists.intro _ ⟨bk rfl, aB [0, 0] rfl, rfl, rfl, rfl⟩))
  show ALeaves _ _ _ _ _ [] .returning [.obj o6 [i64 0], .obj o5 [slE (ab Enc.int (ab Enc.str (ab Enc.str (Enc.sl (ab Enc.str Enc.str))))) y30 (some t31)], .obj o8 [S y26, .sk t27 y28.length, i64 y29, slE (ab Enc.int (ab Enc.str (ab Enc.str (Enc.sl (ab Enc.str Enc.str))))) y30 (some t31)], .stk t27 (Enc.str.fl y28), .tok t31 43];obtain ⟨rfl, rfl⟩ := dw H;exact Exists.intro _ (Exists.intro _ ⟨bD rfl ((bo (c := slE _ _ _) 1 aP rfl rfl rfl rfl).oneW (.tok _ _ _)) (bo (c := .v _) 0 bn rfl rfl rfl rfl), aB [] rfl, rfl, rfl⟩)
end Go.Proofs.YtkbfjepffpddfaaGreatDoor
namespace Go.Pv
def nC (F : Nat) : Option ((List UInt8)) :=
some ([105, 116, 101, 109] : List UInt8)
def nW (F : Nat) (a1 : List (Int × (List UInt8) × (List UInt8) × List ((List UInt8) × List UInt8))) : Option ((List (Int × (List UInt8) × (List UInt8) × List ((List UInt8) × List UInt8))) × Bool) :=
fw (lb F a1) fun x5 x6 =>
some (x5, x6)
def jD (F : Nat) (a1 : List (Int × (List UInt8) × (List UInt8) × List ((List UInt8) × List UInt8))) : Option ((List UInt8) × (List UInt8) × (List UInt8) × (List UInt8) × Int) :=
bnd (da F a1 ([([103, 117, 105, 100] : List UInt8)] : List (List UInt8))) fun x9 =>
bnd (da F a1 ([([116, 105, 116, 108, 101] : List UInt8)] : List (List UInt8))) fun x11 =>
bnd (da F a1 ([([108, 105, 110, 107] : List UInt8)] : List (List UInt8))) fun x13 =>
bnd (da F a1 ([([100, 101, 115, 99, 114, 105, 112, 116, 105, 111, 110] : List UInt8)] : List (List UInt8))) fun x15 =>
some (x9, x11, x13, x15, 0)
def mm (F : Nat) : Option ((List UInt8)) :=
some ([101, 110, 116, 114, 121] : List UInt8)
def pw (F : Nat) (a1 : List (Int × (List UInt8) × (List UInt8) × List ((List UInt8) × List UInt8))) : Option ((List (Int × (List UInt8) × (List UInt8) × List ((List UInt8) × List UInt8))) × Bool) :=
some (a1, true)
def gg (x9 : List UInt8) (x11 : List UInt8) (x13 : List UInt8) (y23 : List UInt8) (y33 : Int) : Option ((List UInt8) × (List UInt8) × (List UInt8) × (List UInt8) × Int) :=
some (x9, x11, y23, x13, y33)
def eY (F : Nat) (a1 : List (Int × (List UInt8) × (List UInt8) × List ((List UInt8) × List UInt8))) (x9 : List UInt8) (x11 : List UInt8) (x13 : List UInt8) (y23 : List UInt8) : Option ((List UInt8) × (List UInt8) × (List UInt8) × (List UInt8) × Int) :=
bnd (da F a1 ([([117, 112, 100, 97, 116, 101, 100] : List UInt8)] : List (List UInt8))) fun x25 =>
fw (iJ F x25) fun x27 x28 =>
bif ((decide (x28 = 0)) && (decide (0 ≤ x27))) && (decide (x27 ≤ 253402300799)) then
  gg x9 x11 x13 y23 x27
else
  gg x9 x11 x13 y23 0
def iC (F : Nat) (a1 : List (Int × (List UInt8) × (List UInt8) × List ((List UInt8) × List UInt8))) : Option ((List UInt8) × (List UInt8) × (List UInt8) × (List UInt8) × Int) :=
bnd (da F a1 ([([105, 100] : List UInt8)] : List (List UInt8))) fun x9 =>
bnd (da F a1 ([([116, 105, 116, 108, 101] : List UInt8)] : List (List UInt8))) fun x11 =>
bnd (da F a1 ([([115, 117, 109, 109, 97, 114, 121] : List UInt8), ([99, 111, 110, 116, 101, 110, 116] : List UInt8)] : List (List UInt8))) fun x13 =>
fw (lc F a1) fun x16 x17 =>
bif x17 then
  fw (kL F x16 ([104, 114, 101, 102] : List UInt8)) fun x20 x21 =>
  eY F a1 x9 x11 x13 x20
else
  eY F a1 x9 x11 x13 ([] : List UInt8)
def dj (x19 : List UInt8) (y57 : List ((List UInt8) × (List UInt8) × (List UInt8) × (List UInt8) × Int)) : Option ((List UInt8) × (List ((List UInt8) × (List UInt8) × (List UInt8) × (List UInt8) × Int)) × Int) :=
some (x19, y57, 0)
def di (F : Nat) (x10 : Option Bool) (y25 : List ((List UInt8) × (List UInt8) × (List UInt8) × (List UInt8) × Int)) (z27 : Nat) (x29 : List (Int × (List UInt8) × (List UInt8) × List ((List UInt8) × List UInt8))) : Option (((List ((List UInt8) × (List UInt8) × (List UInt8) × (List UInt8) × Int)) × Nat) × Bool) :=
grd (decide (z27 = 0)) <|
bnd (fh F x29) fun x30 =>
bnd (ikm x10 (nC F) (mm F)) fun x32 =>
bif !decide (x30 = x32) then
  some ((y25, 0), true)
else
  bif decide ((y25.length : Int) = 200) then
    some ((y25, 1), false)
  else
    bnd5 (ikm x10 (jD F x29) (iC F x29)) fun x36 x37 x38 x39 x40 =>
    grd (ky (min (x39.length : Int) 4000) x39.length) <|
    lt (to_ x39 (min (x39.length : Int) 4000)) fun x44 =>
    grd (fF (y25.length + ([(x36, x37, x38, x44, x40)] : List ((List UInt8) × (List UInt8) × (List UInt8) × (List UInt8) × Int)).length)) <|
    lt (y25 ++ ([(x36, x37, x38, x44, x40)] : List ((List UInt8) × (List UInt8) × (List UInt8) × (List UInt8) × Int))) fun x48 =>
    some ((x48, 0), true)
def jj (F : Nat) (a1 : List (Int × (List UInt8) × (List UInt8) × List ((List UInt8) × List UInt8))) : Option ((List UInt8) × (List ((List UInt8) × (List UInt8) × (List UInt8) × (List UInt8) × Int)) × Int) :=
bnd (jV F a1) fun x7 =>
bif !x7 then
  some (([] : List UInt8), [], 2)
else
  fw (qY F a1) fun x10 x11 =>
  bif !x11 then
    some (([] : List UInt8), [], 2)
  else
    fw (ikm x10 (nW F a1) (pw F a1)) fun x15 x16 =>
    bif !x16 then
      some (([] : List UInt8), [], 2)
    else
      bnd (da F x15 ([([116, 105, 116, 108, 101] : List UInt8)] : List (List UInt8))) fun x19 =>
      bnd (dF F x15) fun _ =>
      bnd (fg F (fun s x => di F x10 s.1 s.2 x) ([], 0) x15) fun x51 =>
      bif decide (x51.2 = 0) then
        dj x19 x51.1
      else
        bif decide (x51.2 = 1) then
          dj x19 x51.1
        else
          none
def iU (F : Nat) (a1 : List UInt8) : Option ((List UInt8) × (List ((List UInt8) × (List UInt8) × (List UInt8) × (List UInt8) × Int)) × Int) :=
fw (mh F a1) fun x7 x8 =>
bif !decide (x8 = 0) then
  some (([] : List UInt8), [], x8)
else
  bnd3 (jj F x7) fun x11 x12 x13 =>
  some (x11, x12, x13)
end Go.Pv
namespace Go.Proofs.YtkbfjepffpddfaaGreatDoor
open Go.RowKit Go.Av Go.Pv
theorem en14_fdb : ∀ (args : Array Value) (w : World), (callFunc 14 args).run Tryz.prog w = .ok (.enter 14 args) w := fun _ _ => by kernel_rfl
theorem en15_fdb : ∀ (args : Array Value) (w : World), (callFunc 15 args).run Tryz.prog w = .ok (.enter 15 args) w := fun _ _ => by kernel_rfl
theorem en23_fdb : ∀ (args : Array Value) (w : World), (callFunc 23 args).run Tryz.prog w = .ok (.enter 23 args) w := fun _ _ => by kernel_rfl
theorem en24_fdb : ∀ (args : Array Value) (w : World), (callFunc 24 args).run Tryz.prog w = .ok (.enter 24 args) w := fun _ _ => by kernel_rfl
theorem jp : ∀ (args : Array Value) (w : World), (callFunc 25 args).run Tryz.prog w = .ok (.enter 25 args) w := fun _ _ => by kernel_rfl
theorem en26_fdb : ∀ (args : Array Value) (w : World), (callFunc 26 args).run Tryz.prog w = .ok (.enter 26 args) w := fun _ _ => by kernel_rfl
theorem en27_fdb : ∀ (args : Array Value) (w : World), (callFunc 27 args).run Tryz.prog w = .ok (.enter 27 args) w := fun _ _ => by kernel_rfl
theorem wu : ∀ (args : Array Value) (w : World), (callFunc 38 args).run Tryz.prog w = .ok (.enter 38 args) w := fun _ _ => by kernel_rfl
theorem en41_fdb : ∀ (args : Array Value) (w : World), (callFunc 41 args).run Tryz.prog w = .ok (.enter 41 args) w := fun _ _ => by kernel_rfl
theorem zy : ∀ (args : Array Value) (w : World), (callFunc 146 args).run Tryz.prog w = .ok (.enter 146 args) w := fun _ _ => by kernel_rfl
theorem zx : ∀ (args : Array Value) (w : World), (callFunc 147 args).run Tryz.prog w = .ok (.enter 147 args) w := fun _ _ => by kernel_rfl
theorem zw : ∀ (args : Array Value) (w : World), (callFunc 148 args).run Tryz.prog w = .ok (.enter 148 args) w := fun _ _ => by kernel_rfl
theorem zu : ∀ (args : Array Value) (w : World), (callFunc 150 args).run Tryz.prog w = .ok (.enter 150 args) w := fun _ _ => by kernel_rfl
theorem zt : ∀ (args : Array Value) (w : World), (callFunc 151 args).run Tryz.prog w = .ok (.enter 151 args) w := fun _ _ => by kernel_rfl
theorem zr : ∀ (args : Array Value) (w : World), (callFunc 152 args).run Tryz.prog w = .ok (.enter 152 args) w := fun _ _ => by kernel_rfl
theorem zo : ∀ (args : Array Value) (w : World), (callFunc 154 args).run Tryz.prog w = .ok (.enter 154 args) w := fun _ _ => by kernel_rfl
theorem zn : ∀ (args : Array Value) (w : World), (callFunc 155 args).run Tryz.prog w = .ok (.enter 155 args) w := fun _ _ => by kernel_rfl
set_option maxRecDepth 100000 in
set_option maxHeartbeats 1000000 in
theorem wG (F : Nat) (r1 : List UInt8) (H : nC F = some r1) : ACalls Tryz.prog 147 [.agg []] [] (Ret (S r1) []) := by
 unfold nC at H
 refine ap Tryz.func147 rfl rfl ?_;show AW _ _ 3 _ _ _;refine af <| aa ?_;show AR _ _ _ _ _ [0, 1] _;refine zR rfl (dP rfl (.inr ⟨_, rfl⟩)) <| za rfl <| ag <| af <| aa ?_;show AR _ _ _ _ _ [0] _;refine za rfl <| ag <| aG ?_;obtain rfl := aj H;exact And.intro rfl (Exists.intro _ (Exists.intro _ ⟨aD rfl (.refl _), aB [] rfl, rfl, rfl⟩))
set_option maxRecDepth 100000 in
set_option maxHeartbeats 1000000 in
theorem yb (F : Nat) (a1 : List (Int × (List UInt8) × (List UInt8) × List ((List UInt8) × List UInt8))) (q2 : Option Nat) (r3 : List (Int × (List UInt8) × (List UInt8) × List ((List UInt8) × List UInt8))) (r4 : Bool) (H : nW F a1 = some (r3, r4)) : ACalls Tryz.prog 148 [.agg [], slE (ab Enc.int (ab Enc.str (ab Enc.str (Enc.sl (ab Enc.str Enc.str))))) a1 q2] [] (Ret (.tup [slE (ab Enc.int (ab Enc.str (ab Enc.str (Enc.sl (ab Enc.str Enc.str))))) r3 none, B r4]) []) := by
 unfold nW at H
 refine ap Tryz.func148 rfl rfl ?_;show AW _ _ 10 _ _ _;refine af <| aa ?_;show AR _ _ _ _ _ [0, 1, 2] _;refine zR rfl (dP rfl (.inr ⟨_, rfl⟩)) <| za rfl <| za rfl <| ag <| af ?_;obtain ⟨x5, x6, e7, H⟩ := cD H;refine aa ?_;show AR _ _ _ _ _ [0, 1, 2, 3, 4, 5] _;refine zS rfl (ah (av := slE _ _ _) rfl) <| am rfl rfl (aC rfl wu rfl (um F a1 q2 x5 x6 e7) ?_);refine zS rfl (ay (av := slE _ _ _) rfl rfl) <| zS rfl (ay (av := .v _) rfl rfl) <| zS rfl (aH (av := slE _ _ _) rfl) <| za rfl <| ag <| aG ?_;obtain ⟨rfl, rfl⟩ := dw H;exact And.intro rfl (Exists.intro _ (Exists.intro _ ⟨bm rfl (.refl _) (.refl _), aB [] rfl, rfl, rfl⟩))
abbrev _root_.Go.Av.dJ := @Tryz.underlying32
set_option maxRecDepth 100000 in
set_option maxHeartbeats 1000000 in
theorem vi (F : Nat) (a1 : List (Int × (List UInt8) × (List UInt8) × List ((List UInt8) × List UInt8))) (q2 : Option Nat) (r3 : List UInt8) (r4 : List UInt8) (r5 : List UInt8) (r6 : List UInt8) (r7 : Int) (H : jD F a1 = some (r3, r4, r5, r6, r7)) : ACalls Tryz.prog 146 [.agg [], slE (ab Enc.int (ab Enc.str (ab Enc.str (Enc.sl (ab Enc.str Enc.str))))) a1 q2] [] (Ret (.agg [S r3, S r4, S r5, S r6, i64 r7]) []) := by
 unfold jD at H
 refine ap Tryz.func146 rfl rfl ?_;show AW _ _ 18 _ _ _;refine af <| aa ?_;show AR _ _ _ _ _ [0, 1] _;refine zR rfl (dP rfl (.inr ⟨_, rfl⟩)) <| zX rfl (bj (zs := [.string ⟨#[]⟩, .string ⟨#[]⟩, .string ⟨#[]⟩, .string ⟨#[]⟩, .int .i64 0]) (by kernel_rfl)) ?_;rintro _ _ ⟨o8, rfl, rfl⟩;refine ag <| af ?_;obtain ⟨x9, e10, H⟩ := ce H;obtain ⟨x11, e12, H⟩ := ce H;obtain ⟨x13, e14, H⟩ := ce H;obtain ⟨x15, e16, H⟩ := ce H;refine aa ?_;show AR _ _ _ _ _ [0, 1, 2, 3, 4, 5, 6, 7, 8, 9, 10, 11, 12, 13] _;refine zS rfl (ah (av := slE _ _ _) rfl) <| zR rfl (cN (E := Enc.str) (bytes := 16) (xs := [.const _]) (l := ([([103, 117, 105, 100] : List UInt8)] : List (List UInt8))) au (by kernel_rfl) rfl rfl (by decide) rfl rfl) <| am rfl rfl (aC rfl jp rfl (dT F a1 q2 ([([103, 117, 105, 100] : List UInt8)] : List (List UInt8)) x9 e10) ?_);refine zS rfl (ah (av := slE _ _ _) rfl) <| zR rfl (cN (E := Enc.str) (bytes := 16) (xs := [.const _]) (l := ([([116, 105, 116, 108, 101] : List UInt8)] : List (List UInt8))) au (by kernel_rfl) rfl rfl (by decide) rfl rfl) <| am rfl rfl (aC rfl jp rfl (dT F a1 q2 ([([116, 105, 116, 108, 101] : List UInt8)] : List (List UInt8)) x11 e12) ?_)
 refine zS rfl (ah (av := slE _ _ _) rfl) <| zR rfl (cN (E := Enc.str) (bytes := 16) (xs := [.const _]) (l := ([([108, 105, 110, 107] : List UInt8)] : List (List UInt8))) au (by kernel_rfl) rfl rfl (by decide) rfl rfl) <| am rfl rfl (aC rfl jp rfl (dT F a1 q2 ([([108, 105, 110, 107] : List UInt8)] : List (List UInt8)) x13 e14) ?_);refine zS rfl (ah (av := slE _ _ _) rfl) <| zR rfl (cN (E := Enc.str) (bytes := 16) (xs := [.const _]) (l := ([([100, 101, 115, 99, 114, 105, 112, 116, 105, 111, 110] : List UInt8)] : List (List UInt8))) au (by kernel_rfl) rfl rfl (by decide) rfl rfl) <| am rfl rfl (aC rfl jp rfl (dT F a1 q2 ([([100, 101, 115, 99, 114, 105, 112, 116, 105, 111, 110] : List UInt8)] : List (List UInt8)) x15 e16) ?_);refine zS rfl (cQ (zs := [.string ⟨#[]⟩, .string ⟨#[]⟩, .string ⟨#[]⟩, .string ⟨#[]⟩, .int .i64 0]) (ps := [(0, 1), (1, 1), (2, 1), (3, 1), (4, 1)]) (cs := [S x9, S x11, S x13, S x15, i64 0]) (by kernel_rfl) rfl rfl) <| s0 rfl rfl (aV (i := 0) (vs := [S x9, S x11, S x13, S x15, i64 0]) (by kernel_rfl) rfl rfl (by simp [bA, slE]) rfl (ac rfl)) <| ag <| aG ?_;obtain ⟨rfl, rfl, rfl, rfl, rfl⟩ := res5 H;exact And.intro rfl (Exists.intro _ (Exists.intro _ ⟨dl (lB rfl (CellV.agg (off := 0) (cs := [S x9, S x11, S x13, S x15, i64 0]) (n := 5) 0 dJ rfl (by kernel_rfl) rfl rfl (ac rfl))), aB [] rfl, rfl, rfl⟩))
set_option maxRecDepth 100000 in
set_option maxHeartbeats 1000000 in
theorem vo (F : Nat) (r1 : List UInt8) (H : mm F = some r1) : ACalls Tryz.prog 151 [.agg []] [] (Ret (S r1) []) := by
 unfold mm at H
 refine ap Tryz.func151 rfl rfl ?_;show AW _ _ 3 _ _ _;refine af <| aa ?_;show AR _ _ _ _ _ [0, 1] _;refine zR rfl (dP rfl (.inr ⟨_, rfl⟩)) <| za rfl <| ag <| af <| aa ?_;show AR _ _ _ _ _ [0] _;refine za rfl <| ag <| aG ?_;obtain rfl := aj H;exact And.intro rfl (Exists.intro _ (Exists.intro _ ⟨aD rfl (.refl _), aB [] rfl, rfl, rfl⟩))
set_option maxRecDepth 100000 in
set_option maxHeartbeats 1000000 in
theorem wK (F : Nat) (a1 : List (Int × (List UInt8) × (List UInt8) × List ((List UInt8) × List UInt8))) (q2 : Option Nat) (r3 : List (Int × (List UInt8) × (List UInt8) × List ((List UInt8) × List UInt8))) (r4 : Bool) (H : pw F a1 = some (r3, r4)) : ACalls Tryz.prog 152 [.agg [], slE (ab Enc.int (ab Enc.str (ab Enc.str (Enc.sl (ab Enc.str Enc.str))))) a1 q2] [] (Ret (.tup [slE (ab Enc.int (ab Enc.str (ab Enc.str (Enc.sl (ab Enc.str Enc.str))))) r3 none, B r4]) []) := by
 unfold pw at H
 refine ap Tryz.func152 rfl rfl ?_;show AW _ _ 7 _ _ _;refine af <| aa ?_;show AR _ _ _ _ _ [0, 1, 2] _;refine zR rfl (dP rfl (.inr ⟨_, rfl⟩)) <| za rfl <| za rfl <| ag <| af <| aa ?_;show AR _ _ _ _ _ [0, 1, 2] _;refine zS rfl (ah (av := slE _ _ _) rfl) <| zS rfl (aH (av := slE _ _ _) rfl) <| za rfl <| ag <| aG ?_;obtain ⟨rfl, rfl⟩ := dw H;exact And.intro rfl (Exists.intro _ (Exists.intro _ ⟨bm rfl (.tok _ _ _) (.refl _), aB [] rfl, rfl, rfl⟩))
set_option maxRecDepth 100000 in
set_option maxHeartbeats 1000000 in
theorem ur (F : Nat) (a1 : List (Int × (List UInt8) × (List UInt8) × List ((List UInt8) × List UInt8))) (q2 : Option Nat) (r3 : List UInt8) (r4 : List UInt8) (r5 : List UInt8) (r6 : List UInt8) (r7 : Int) (H : iC F a1 = some (r3, r4, r5, r6, r7)) : ACalls Tryz.prog 150 [.agg [], slE (ab Enc.int (ab Enc.str (ab Enc.str (Enc.sl (ab Enc.str Enc.str))))) a1 q2] [] (Ret (.agg [S r3, S r4, S r5, S r6, i64 r7]) []) := by
 unfold iC at H
 refine ap Tryz.func150 rfl rfl ?_;show AW _ _ 52 _ _ _;refine af <| aa ?_;show AR _ _ _ _ _ [0, 1] _;refine zR rfl (dP rfl (.inr ⟨_, rfl⟩)) <| zX rfl (bj (zs := [.string ⟨#[]⟩, .string ⟨#[]⟩, .string ⟨#[]⟩, .string ⟨#[]⟩, .int .i64 0]) (by kernel_rfl)) ?_;rintro _ _ ⟨o8, rfl, rfl⟩;refine ag <| af ?_;obtain ⟨x9, e10, H⟩ := ce H;obtain ⟨x11, e12, H⟩ := ce H;obtain ⟨x13, e14, H⟩ := ce H;refine aa ?_;show AR _ _ _ _ _ [0, 1, 2, 3, 4, 5, 6, 7, 8, 9, 10, 11] _;refine zS rfl (ah (av := slE _ _ _) rfl) <| zR rfl (cN (E := Enc.str) (bytes := 16) (xs := [.const _]) (l := ([([105, 100] : List UInt8)] : List (List UInt8))) au (by kernel_rfl) rfl rfl (by decide) rfl rfl) <| am rfl rfl (aC rfl jp rfl (dT F a1 q2 ([([105, 100] : List UInt8)] : List (List UInt8)) x9 e10) ?_);refine zS rfl (ah (av := slE _ _ _) rfl) <| zR rfl (cN (E := Enc.str) (bytes := 16) (xs := [.const _]) (l := ([([116, 105, 116, 108, 101] : List UInt8)] : List (List UInt8))) au (by kernel_rfl) rfl rfl (by decide) rfl rfl) <| am rfl rfl (aC rfl jp rfl (dT F a1 q2 ([([116, 105, 116, 108, 101] : List UInt8)] : List (List UInt8)) x11 e12) ?_)
 refine zS rfl (ah (av := slE _ _ _) rfl) <| zR rfl (cN (E := Enc.str) (bytes := 16) (xs := [.const _, .const _]) (l := ([([115, 117, 109, 109, 97, 114, 121] : List UInt8), ([99, 111, 110, 116, 101, 110, 116] : List UInt8)] : List (List UInt8))) au (by kernel_rfl) rfl rfl (by decide) rfl rfl) <| am rfl rfl (aC rfl jp rfl (dT F a1 q2 ([([115, 117, 109, 109, 97, 114, 121] : List UInt8), ([99, 111, 110, 116, 101, 110, 116] : List UInt8)] : List (List UInt8)) x13 e14) ?_);refine zS rfl (cQ (zs := [.string ⟨#[]⟩, .string ⟨#[]⟩, .string ⟨#[]⟩, .string ⟨#[]⟩, .int .i64 0]) (ps := [(0, 1), (1, 1), (2, 1), (3, 1), (4, 1)]) (cs := [S x9, S x11, S ([] : List UInt8), S x13, i64 0]) (by kernel_rfl) rfl rfl) <| zX rfl (bj (zs := [.string ⟨#[]⟩, .string ⟨#[]⟩, .string ⟨#[]⟩, .string ⟨#[]⟩, .int .i64 0]) (by kernel_rfl)) ?_;rintro _ _ ⟨o15, rfl, rfl⟩;refine s0 rfl rfl (aV (i := 0) (vs := [S x9, S x11, S ([] : List UInt8), S x13, i64 0]) (by kernel_rfl) rfl rfl (by simp [bA, slE]) rfl (ac rfl)) <| ag <| af ?_;obtain ⟨x16, x17, e18, H⟩ := cD H;refine aa ?_;show AR _ _ _ _ _ [0, 1, 2, 3, 4, 5, 6] _;refine zS rfl (ah (av := slE _ _ _) rfl) <| am rfl rfl (aC rfl wu rfl (un F a1 q2 x16 x17 e18) ?_)
 refine zS rfl (ah (av := .tup _) rfl) <| zS rfl (ay (av := slE _ _ _) rfl rfl) <| zS rfl (ay (av := .v _) rfl rfl) <| zS rfl (aH (av := slE _ _ _) rfl) <| za rfl <| ag <| bJ (X := (List UInt8)) (fun y23 => ⟨[(1, slE (ab Enc.int (ab Enc.str (ab Enc.str (Enc.sl (ab Enc.str Enc.str))))) a1 q2), (4, .pt o8 0), (5, .pt o15 0)], [], [.obj o15 [S x9, S x11, S y23, S x13, i64 0], .obj o8 [S ([] : List UInt8), S ([] : List UInt8), S ([] : List UInt8), S ([] : List UInt8), i64 0]]⟩) (fun y23 => eY F a1 x9 x11 x13 y23 = some (r3, r4, r5, r6, r7)) ?_ ?_
 ·refine af <| aa ?_;show AR _ _ _ _ _ [0] _;refine zm rfl <| ag <| ax rfl (fun c19 => ?_) (fun c19 => ?_)
  ·replace H := aW c19 H;obtain ⟨x20, x21, e22, H⟩ := cD H;refine aa ?_;show AR _ _ _ _ _ [0, 1, 2, 3, 4, 5, 6] _;refine zS rfl (ah (av := slE _ _ _) rfl) <| am rfl rfl (aC rfl zo rfl (qf F x16 none ([104, 114, 101, 102] : List UInt8) x20 x21 e22) ?_);refine zS rfl (ah (av := .tup _) rfl) <| zS rfl (ay (av := .v _) rfl rfl) <| zS rfl (ay (av := .v _) rfl rfl) <| zS rfl (an (n := 2) (by kernel_rfl) rfl) <| s0 rfl rfl (aq (i := 0) (c := .v _) (by kernel_rfl) rfl rfl rfl rfl (ac rfl)) <| ag ?_;exact Exists.intro x20 ⟨H, bc [0, 0] (.cons (.refl _) (.cons (.refl _) (.cons (.refl _) (.nil _)))) rfl⟩
  ·replace H := aX c19 H;refine aA ?_;exact Exists.intro ([] : List UInt8) ⟨H, bc [0, 0] (.cons (.refl _) (.cons (.refl _) (.cons (.refl _) (.nil _)))) rfl⟩
 rintro y23 H;replace H : eY F a1 x9 x11 x13 y23 = some (r3, r4, r5, r6, r7) := H
 unfold eY at H
 refine bJ (X := Int) (fun y33 => ⟨[(4, .pt o8 0), (5, .pt o15 0)], [], [.obj o15 [S x9, S x11, S y23, S x13, i64 y33], .obj o8 [S ([] : List UInt8), S ([] : List UInt8), S ([] : List UInt8), S ([] : List UInt8), i64 0]]⟩) (fun y33 => gg x9 x11 x13 y23 y33 = some (r3, r4, r5, r6, r7)) ?_ ?_
 ·refine af ?_;obtain ⟨x25, e26, H⟩ := ce H;obtain ⟨x27, x28, e29, H⟩ := cD H;refine aa ?_;show AR _ _ _ _ _ [0, 1, 2, 3, 4, 5, 6, 7, 8] _;refine zS rfl (ah (av := slE _ _ _) rfl) <| zR rfl (cN (E := Enc.str) (bytes := 16) (xs := [.const _]) (l := ([([117, 112, 100, 97, 116, 101, 100] : List UInt8)] : List (List UInt8))) au (by kernel_rfl) rfl rfl (by decide) rfl rfl) <| am rfl rfl (aC rfl jp rfl (dT F a1 q2 ([([117, 112, 100, 97, 116, 101, 100] : List UInt8)] : List (List UInt8)) x25 e26) ?_);refine am rfl rfl (aC rfl zn rfl (sg F x25 x27 x28 e29) ?_);refine zS rfl (ah (av := .tup _) rfl) <| zS rfl (ay (av := .v _) rfl rfl) <| zS rfl (ay (av := .v _) rfl rfl) <| za rfl <| za rfl <| ag <| af <| aa ?_;show AR _ _ _ _ _ [0, 1, 2, 3, 4, 5, 6, 7, 8, 9] _;refine zm rfl <| zS rfl (bL rfl rfl) <| zm rfl <| aY (l := [6, 7, 8, 9]) 44 (B ((decide (x28 = 0)) && (decide (0 ≤ x27)))) (fun K => ?_) ?_
  ·rcases ak (decide (x28 = 0)) with h30 | h30
   ·refine zM h30 rfl <| zU h30 rfl (fy rfl rfl) <| zS rfl (aE (av := .v _) rfl h30 rfl) ?_;exact K _ 2 _ (az (cB h30)) rfl rfl
   ·refine zF h30 rfl <| zF h30 rfl <| zS rfl (aF (av := .v _) rfl h30 rfl) ?_;exact K _ 2 _ (az (cC h30)) rfl rfl
  refine zm rfl <| aY (l := []) 48 (B (((decide (x28 = 0)) && (decide (0 ≤ x27))) && (decide (x27 ≤ 253402300799)))) (fun K => ?_) ?_
  ·rcases ak ((decide (x28 = 0)) && (decide (0 ≤ x27))) with h31 | h31
   ·refine zM h31 rfl <| zU h31 rfl (gi rfl rfl) <| zS rfl (aE (av := .v _) rfl h31 rfl) ?_;exact K _ 2 _ (az (cB h31)) rfl rfl
   ·refine zF h31 rfl <| zF h31 rfl <| zS rfl (aF (av := .v _) rfl h31 rfl) ?_;exact K _ 2 _ (az (cC h31)) rfl rfl
  refine ag <| ax rfl (fun c32 => ?_) (fun c32 => ?_)
  ·replace H := aW c32 H;refine aa ?_;show AR _ _ _ _ _ [0, 1, 2] _;refine zm rfl <| zS rfl (an (n := 4) (by kernel_rfl) rfl) <| s0 rfl rfl (aq (i := 0) (c := .v _) (by kernel_rfl) rfl rfl rfl rfl (ac rfl)) <| ag ?_;exact Exists.intro x27 ⟨H, bc [0, 0] (.cons (.refl _) (.cons (.refl _) (.nil _))) rfl⟩
  ·replace H := aX c32 H;refine aA ?_;exact Exists.intro 0 ⟨H, bc [0, 0] (.cons (.refl _) (.cons (.refl _) (.nil _))) rfl⟩
 rintro y33 H;replace H : gg x9 x11 x13 y23 y33 = some (r3, r4, r5, r6, r7) := H
 unfold gg at H
 refine af <| aa ?_;show AR _ _ _ _ _ [0, 1] _;refine zR rfl (dW (i := 0) (n := 5) dJ rfl (by kernel_rfl) rfl rfl (ac rfl)) <| s0 rfl rfl (aV (i := 1) (vs := [S x9, S x11, S y23, S x13, i64 y33]) (by kernel_rfl) rfl rfl (by simp [bA, slE]) rfl (ac rfl)) <| ag <| aG ?_;obtain ⟨rfl, rfl, rfl, rfl, rfl⟩ := res5 H;exact And.intro rfl (Exists.intro _ (Exists.intro _ ⟨dl (lB rfl (CellV.agg (off := 0) (cs := [S x9, S x11, S y23, S x13, i64 y33]) (n := 5) 1 dJ rfl (by kernel_rfl) rfl rfl (ac rfl))), aB [] rfl, rfl, rfl⟩))
abbrev _root_.Go.Av.bh := @Tryz.underlying24
abbrev _root_.Go.Av.cX := @Tryz.underlying26
set_option maxRecDepth 100000 in
set_option maxHeartbeats 1000000 in
theorem re (F : Nat) (a1 : List (Int × (List UInt8) × (List UInt8) × List ((List UInt8) × List UInt8))) (q2 : Option Nat) (r3 : List UInt8) (r4 : List ((List UInt8) × (List UInt8) × (List UInt8) × (List UInt8) × Int)) (r5 : Int) (H : jj F a1 = some (r3, r4, r5)) : ACalls Tryz.prog 15 [slE (ab Enc.int (ab Enc.str (ab Enc.str (Enc.sl (ab Enc.str Enc.str))))) a1 q2] [] (Ret (.tup [.agg [S r3, slE (ab Enc.str (ab Enc.str (ab Enc.str (ab Enc.str Enc.int)))) r4 none], i64 r5]) []) := by
 unfold jj at H
 refine ig Tryz.func15 rfl rfl ?_;show AW _ _ 65 _ _ _;refine af <| aa ?_;show AR _ _ _ _ _ [0, 1] _;refine zX rfl (bj (zs := [.string ⟨#[]⟩, .slice none 0 0]) (by kernel_rfl)) ?_;rintro _ _ ⟨o6, rfl, rfl⟩;refine za rfl <| ag <| af <| af ?_;obtain ⟨x7, e8, H⟩ := ce H;refine aa ?_;show AR _ _ _ _ _ [0, 1, 2] _;refine zS rfl (ah (av := slE _ _ _) rfl) <| am rfl rfl (aC rfl en23_fdb rfl (sn F a1 q2 x7 e8) ?_);refine zS rfl (bG rfl) <| ag <| ax rfl (fun c9 => ?_) (fun c9 => ?_)
 ·replace H := aW c9 H;refine af <| aa ?_;show AR _ _ _ _ _ [0, 1, 2] _;refine zS rfl (cQ (zs := [.string ⟨#[]⟩, .slice none 0 0]) (ps := [(0, 1), (1, 1)]) (cs := [S ([] : List UInt8), eD]) (by kernel_rfl) rfl rfl) <| s0 rfl rfl (aV (i := 0) (vs := [S ([] : List UInt8), eD]) (by kernel_rfl) rfl rfl (by simp [bA, slE]) rfl (ac rfl)) <| za rfl <| ag <| aG ?_;obtain ⟨rfl, rfl, rfl⟩ := res3 H;exact Exists.intro _ (And.intro (.nil _) (Exists.intro _ (Exists.intro _ ⟨dl (bD rfl (CellV.aggW (cs := [S ([] : List UInt8), eD]) (CellV.agg (off := 0) (cs := [S ([] : List UInt8), eD]) (n := 2) 0 cX rfl (by kernel_rfl) rfl rfl (ac rfl)) (.cons (.refl _) (.cons (.nil _) (.nil)))) ((show PlaceV _ _ _ (.tmp _) _ from (.refl _)))), aB [] rfl, rfl, rfl⟩)))
 ·replace H := aX c9 H;refine aA <| af ?_;obtain ⟨x10, x11, e12, H⟩ := cD H;refine aa ?_;show AR _ _ _ _ _ [0, 1, 2, 3, 4, 5, 6, 7] _;refine zS rfl (ah (av := slE _ _ _) rfl) <| am rfl rfl (aC rfl en24_fdb rfl (yd F a1 q2 x10 x11 e12) ?_);refine zS rfl (ah (av := .tup _) rfl) <| zS rfl (ay (av := ikA _ _ _) rfl rfl) <| zS rfl (ay (av := .v _) rfl rfl) <| zX rfl (bj (zs := [.nilIface]) (by kernel_rfl)) ?_;rintro _ _ ⟨o13, rfl, rfl⟩;refine s0 rfl rfl (aq (i := 0) (c := ikA _ _ _) (by kernel_rfl) rfl rfl (ikA_cell _ _ _) rfl (ac rfl)) <| AR.freezeCp 4 0 rfl rfl ?_;show AR _ _ _ _ _ _ ⟨_, _, [.obj o6 [S ([] : List UInt8), eD]]⟩;refine za rfl <| ag <| af <| af <| aa ?_;show AR _ _ _ _ _ [0, 1] _;refine zm rfl <| zS rfl (bG rfl) <| ag <| ax rfl (fun c14 => ?_) (fun c14 => ?_)
  ·replace H := aW c14 H;refine af <| aa ?_;show AR _ _ _ _ _ [0, 1, 2] _;refine zS rfl (cQ (zs := [.string ⟨#[]⟩, .slice none 0 0]) (ps := [(0, 1), (1, 1)]) (cs := [S ([] : List UInt8), eD]) (by kernel_rfl) rfl rfl) <| s0 rfl rfl (aV (i := 0) (vs := [S ([] : List UInt8), eD]) (by kernel_rfl) rfl rfl (by simp [bA, slE]) rfl (ac rfl)) <| za rfl <| ag <| aG ?_;obtain ⟨rfl, rfl, rfl⟩ := res3 H;exact Exists.intro _ (And.intro (.nil _) (Exists.intro _ (Exists.intro _ ⟨dl (bD rfl (CellV.aggW (cs := [S ([] : List UInt8), eD]) (CellV.agg (off := 0) (cs := [S ([] : List UInt8), eD]) (n := 2) 0 cX rfl (by kernel_rfl) rfl rfl (ac rfl)) (.cons (.refl _) (.cons (.nil _) (.nil)))) ((show PlaceV _ _ _ (.tmp _) _ from (.refl _)))), aB [] rfl, rfl, rfl⟩)))
  ·replace H := aX c14 H;refine aA <| af ?_;obtain ⟨x15, x16, e17, H⟩ := cD H;refine aa ?_;show AR _ _ _ _ _ [0, 1, 2, 3, 4, 5, 6, 7] _;refine zS rfl (aK Tryz.underlying67 rfl rfl) <| zS rfl (ah (av := slE _ _ _) rfl) <| am rfl rfl (AO.invp (t1 := 83) (t2 := 84) (c := x10) rfl rfl (fun v w => by kernel_rfl) (fun v w => by kernel_rfl) zw zr rfl (K2.of e17 (fun e => yb F a1 q2 x15 x16 e) (fun e => wK F a1 q2 x15 x16 e)) ?_);refine zS rfl (ah (av := .tup _) rfl) <| zS rfl (ay (av := slE _ _ _) rfl rfl) <| zS rfl (ay (av := .v _) rfl rfl) <| zS rfl (aH (av := slE _ _ _) rfl) <| za rfl <| ag <| af <| af <| aa ?_;show AR _ _ _ _ _ [0, 1] _;refine zm rfl <| zS rfl (bG rfl) <| ag <| ax rfl (fun c18 => ?_) (fun c18 => ?_)
   ·replace H := aW c18 H;refine af <| aa ?_;show AR _ _ _ _ _ [0, 1, 2] _;refine zS rfl (cQ (zs := [.string ⟨#[]⟩, .slice none 0 0]) (ps := [(0, 1), (1, 1)]) (cs := [S ([] : List UInt8), eD]) (by kernel_rfl) rfl rfl) <| s0 rfl rfl (aV (i := 0) (vs := [S ([] : List UInt8), eD]) (by kernel_rfl) rfl rfl (by simp [bA, slE]) rfl (ac rfl)) <| za rfl <| ag <| aG ?_;obtain ⟨rfl, rfl, rfl⟩ := res3 H;exact Exists.intro _ (And.intro (.nil _) (Exists.intro _ (Exists.intro _ ⟨dl (bD rfl (CellV.aggW (cs := [S ([] : List UInt8), eD]) (CellV.agg (off := 0) (cs := [S ([] : List UInt8), eD]) (n := 2) 0 cX rfl (by kernel_rfl) rfl rfl (ac rfl)) (.cons (.refl _) (.cons (.nil _) (.nil)))) ((show PlaceV _ _ _ (.tmp _) _ from (.refl _)))), aB [] rfl, rfl, rfl⟩)))
   ·replace H := aX c18 H;refine aA <| af ?_;obtain ⟨x19, e20, H⟩ := ce H;refine aa ?_;show AR _ _ _ _ _ [0, 1, 2, 3, 4, 5] _;refine zS rfl (ah (av := slE _ _ _) rfl) <| zR rfl (cN (E := Enc.str) (bytes := 16) (xs := [.const _]) (l := ([([116, 105, 116, 108, 101] : List UInt8)] : List (List UInt8))) au (by kernel_rfl) rfl rfl (by decide) rfl rfl) <| am rfl rfl (aC rfl jp rfl (dT F x15 none ([([116, 105, 116, 108, 101] : List UInt8)] : List (List UInt8)) x19 e20) ?_);refine zS rfl (cQ (zs := [.string ⟨#[]⟩, .slice none 0 0]) (ps := [(0, 1), (1, 1)]) (cs := [S x19, eD]) (by kernel_rfl) rfl rfl) <| zX rfl (bj (zs := [.string ⟨#[]⟩, .slice none 0 0]) (by kernel_rfl)) ?_;rintro _ _ ⟨o21, rfl, rfl⟩;refine s0 rfl rfl (aV (i := 0) (vs := [S x19, eD]) (by kernel_rfl) rfl rfl (by simp [bA, slE]) rfl (ac rfl)) <| ag ?_
    refine jl 0 1 5 32 rfl rfl fun t22 => ?_
    show AW _ _ _ _ _ ⟨_, _, [.tok t22 32, .obj o21 [S x19, slE (ab Enc.str (ab Enc.str (ab Enc.str (ab Enc.str Enc.int)))) [] (some t22)], .obj o6 [S ([] : List UInt8), eD]]⟩;refine bJ (X := Nat × (List ((List UInt8) × (List UInt8) × (List UInt8) × (List UInt8) × Int)) × Nat) (fun (t56, y57, t58) => ⟨[(2, .pt o6 0), (7, .pt o21 0)], [.mark t56], [.obj o21 [S x19, slE (ab Enc.str (ab Enc.str (ab Enc.str (ab Enc.str Enc.int)))) y57 (some t58)], .obj o6 [S ([] : List UInt8), eD], .tok t58 32, .db t56]⟩) (fun (t56, y57, t58) => dj x19 y57 = some (r3, r4, r5)) ?_ ?_
    ·refine af ?_;obtain ⟨_, e23, H⟩ := ce H;refine aa ?_;show AR _ _ _ _ _ [0, 1] _;refine zS rfl (ah (av := slE _ _ _) rfl) <| am rfl rfl (aQ [] rfl en26_fdb rfl (jI F x15 e23) rfl (fun c A' h => by obtain ⟨_, h, _⟩ := h; cases h) ?_)
     rintro av A' ⟨o24, h, rfl⟩; cases h
     refine ag <| aR ?_;obtain ⟨x51, e52, H⟩ := ce H;refine AW.rangeK (α := List (Int × (List UInt8) × (List UInt8) × List ((List UInt8) × List UInt8))) (σ := (List ((List UInt8) × (List UInt8) × (List UInt8) × (List UInt8) × Int)) × Nat) (τ := Nat) (fun x => [slE (ab Enc.int (ab Enc.str (ab Enc.str (Enc.sl (ab Enc.str Enc.str))))) x none]) (fun s t => [.obj o21 [S x19, slE (ab Enc.str (ab Enc.str (ab Enc.str (ab Enc.str Enc.int)))) s.1 (some t)], .obj o6 [S ([] : List UInt8), eD], .tok t 32]) (fun s => jat [.exit 0] s.2) (fun s x => di F x10 s.1 s.2 x) ([], 0) t22 x51 [0] [1, 1, 0] rfl en41_fdb (fun _ => rfl) (by decide) rfl rfl rfl (fun o T' hY => kC F T' _ o hY _ _ o24 x15 x51 e52) ?_ ?_
     ·rintro l ⟨y25, z27⟩ t26 x29 rv H;replace H : di F x10 y25 z27 x29 = some rv := H
      unfold di at H
      obtain ⟨g50, H⟩ := aM H;obtain rfl := of_decide_eq_true g50;refine ⟨rfl, ?_⟩;show AW _ _ _ _ _ ⟨(37, slE (ab Enc.int (ab Enc.str (ab Enc.str (Enc.sl (ab Enc.str Enc.str))))) x29 none) :: _, [], _⟩;refine aa ?_;show AR _ _ _ _ _ [0] _;refine zS rfl (aH (av := slE _ _ _) rfl) <| ag <| aR <| af <| af ?_;obtain ⟨x30, e31, H⟩ := ce H;obtain ⟨x32, e33, H⟩ := ce H;refine qJ (by kernel_rfl) (by kernel_rfl) ?_;show AI _ _ _ _ _ 5 (Array.replicate 5 false) _;refine zk 0 rfl (ah (av := slE _ _ _) rfl) ?_;show AI _ _ _ _ _ _ #[true, false, false, false, false] _;refine zk 2 rfl (aK Tryz.underlying67 rfl rfl) ?_;show AI _ _ _ _ _ _ #[true, false, true, false, false] _;refine cf (i := 1) (by kernel_rfl) rfl rfl <| AIO.callp rfl en27_fdb rfl (gG F x29 none x30 e31) ?_;show AI _ _ _ _ _ _ #[true, true, true, false, false] _;refine cf (i := 3) (by kernel_rfl) rfl rfl <| AIO.invp (t1 := 83) (t2 := 84) (c := x10) rfl rfl (fun v w => by kernel_rfl) (fun v w => by kernel_rfl) zx zt rfl (K2.of e33 (fun e => wG F x32 e) (fun e => vo F x32 e)) ?_;show AI _ _ _ _ _ _ #[true, true, true, true, false] _;refine zk 4 rfl (lT rfl rfl) ?_;show AI _ _ _ _ _ _ #[true, true, true, true, true] _;refine cH rfl <| ax rfl (fun c34 => ?_) (fun c34 => ?_)
      ·replace H := aW c34 H;refine cx ?_;obtain rfl := aj H;exact ⟨rfl, rfl, t26, aB [0, 0, 0] rfl⟩
      ·replace H := aX c34 H;refine aA <| af <| af <| aa ?_;show AR _ _ _ _ _ [0, 1, 2, 3] _;refine zS rfl (an (n := 1) (by kernel_rfl) rfl) <| zR rfl (ao (i := 0) bh rfl rfl rfl rfl) <| zS rfl (bB bh rfl) <| zS rfl (bL rfl rfl) <| ag <| ax rfl (fun c35 => ?_) (fun c35 => ?_)
       ·replace H := aW c35 H;refine cx ?_;obtain rfl := aj H;exact ⟨rfl, rfl, t26, aB [0, 0, 0] rfl⟩
       ·replace H := aX c35 H;refine aA <| af ?_;obtain ⟨x36, x37, x38, x39, x40, e41, H⟩ := bnd5_s H;refine aa ?_;show AR _ _ _ _ _ [0, 1, 2, 3, 4] _;refine zS rfl (aK Tryz.underlying67 rfl rfl) <| zS rfl (ah (av := slE _ _ _) rfl) <| am rfl rfl (AO.invp (t1 := 83) (t2 := 84) (c := x10) rfl rfl (fun v w => by kernel_rfl) (fun v w => by kernel_rfl) zy zu rfl (K2.of e41 (fun e => vi F x29 none x36 x37 x38 x39 x40 e) (fun e => ur F x29 none x36 x37 x38 x39 x40 e)) ?_);refine zX rfl (bj (zs := [.string ⟨#[]⟩, .string ⟨#[]⟩, .string ⟨#[]⟩, .string ⟨#[]⟩, .int .i64 0]) (by kernel_rfl)) ?_;rintro _ _ ⟨o42, rfl, rfl⟩;refine s0 rfl rfl (aV (i := 0) (vs := [S x36, S x37, S x38, S x39, i64 x40]) (by kernel_rfl) rfl rfl (by simp [bA, slE]) rfl (ac rfl)) <| ag <| af ?_;obtain ⟨g43, H⟩ := aM H;obtain ⟨x44, e45, H⟩ := bO H;refine aa ?_;show AR _ _ _ _ _ [0, 1, 2, 3, 4, 5, 6, 7, 8] _;refine zS rfl (an (n := 3) (by kernel_rfl) rfl) <| zR rfl (ao (i := 0) ai rfl rfl rfl rfl) <| zS rfl (an (n := 3) (by kernel_rfl) rfl) <| zR rfl (ao (i := 0) ai rfl rfl rfl rfl) <| zS rfl (bz ai rfl) <| zS rfl (opS_min rfl rfl) <| zS rfl (lj ai rfl rfl g43 e45) <| zS rfl (an (n := 3) (by kernel_rfl) rfl) <| s0 rfl rfl (aq (i := 0) (c := .v _) (by kernel_rfl) rfl rfl rfl rfl (ac rfl)) <| ag ?_;obtain ⟨g47, H⟩ := aM H
        obtain ⟨x48, e49, H⟩ := bO H;refine aa ?_;show AR _ _ _ _ _ [0, 1, 2, 3, 4, 5, 6] _;refine zS rfl (an (n := 1) (by kernel_rfl) rfl) <| zR rfl (ao (i := 1) bh rfl rfl rfl rfl) <| zR rfl (dW (i := 0) (n := 5) dJ rfl (by kernel_rfl) rfl rfl (ac rfl)) <| zR rfl (dX (E := (ab Enc.str (ab Enc.str (ab Enc.str (ab Enc.str Enc.int))))) (bytes := 72) (zs := [.string ⟨#[]⟩, .string ⟨#[]⟩, .string ⟨#[]⟩, .string ⟨#[]⟩, .int .i64 0]) (l := ([(x36, x37, x38, x44, x40)] : List ((List UInt8) × (List UInt8) × (List UInt8) × (List UInt8) × Int))) bh (by kernel_rfl) (by kernel_rfl) rfl rfl rfl rfl rfl) <| zX rfl (kg (E := (ab Enc.str (ab Enc.str (ab Enc.str (ab Enc.str Enc.int))))) (bytes := 72) 3 bh bh rfl (by kernel_rfl) rfl rfl rfl rfl g47 e49) ?_;rintro _ _ ⟨t46, rfl, rfl⟩;refine zS rfl (an (n := 1) (by kernel_rfl) rfl) <| s0 rfl rfl (aq (i := 1) (c := slE _ _ _) (by kernel_rfl) rfl rfl rfl rfl (ac rfl)) <| ag ?_;obtain rfl := aj H;exact ⟨rfl, rfl, t46, aB [1, 1, 1] rfl⟩
     rintro o54 t53
     generalize hzz55 : x51.2 = z55 at H ⊢
     rcases bifz H with ⟨rfl, H⟩ | ⟨hz0, H⟩
     ·exact Exists.intro (o54, x51.1, t53) ⟨H, bc [2, 2, 2, 0] (.cons (.refl _) (.cons (.refl _) (.nil _))) rfl⟩
     rcases bifz H with ⟨rfl, H⟩ | ⟨hz1, H⟩
     ·refine cx ?_;exact Exists.intro (o54, x51.1, t53) ⟨H, bc [2, 2, 2, 0] (.cons (.refl _) (.cons (.refl _) (.nil _))) rfl⟩
     exact va H
    rintro ⟨t56, y57, t58⟩ H;replace H : dj x19 y57 = some (r3, r4, r5) := H
    unfold dj at H
    refine af <| aa ?_;show AR _ _ _ _ _ [0, 1, 2] _;refine zR rfl (dW (i := 0) (n := 2) cX rfl (by kernel_rfl) rfl rfl (ac rfl)) <| s0 rfl rfl (aV (i := 1) (vs := [S x19, slE (ab Enc.str (ab Enc.str (ab Enc.str (ab Enc.str Enc.int)))) y57 (some t58)]) (by kernel_rfl) rfl rfl (by simp [bA, slE]) rfl (ac rfl)) <| za rfl <| ag <| aG ?_;obtain ⟨rfl, rfl, rfl⟩ := res3 H;exact Exists.intro _ (And.intro (Unmark.at 3 rfl (.nil _)) (Exists.intro _ (Exists.intro _ ⟨dl (bD rfl (CellV.aggW (cs := [S x19, slE (ab Enc.str (ab Enc.str (ab Enc.str (ab Enc.str Enc.int)))) y57 (some t58)]) (CellV.agg (off := 0) (cs := [S x19, slE (ab Enc.str (ab Enc.str (ab Enc.str (ab Enc.str Enc.int)))) y57 (some t58)]) (n := 2) 1 cX rfl (by kernel_rfl) rfl rfl (ac rfl)) (.cons (.refl _) (.cons (.tok _ _ _) (.nil)))) ((show PlaceV _ _ _ (.tmp _) _ from (.refl _)))), aB [] rfl, rfl, rfl⟩)))
set_option maxRecDepth 100000 in
set_option maxHeartbeats 1000000 in
theorem qg (F : Nat) (a1 : List UInt8) (q2 : Option Nat) (r3 : List UInt8) (r4 : List ((List UInt8) × (List UInt8) × (List UInt8) × (List UInt8) × Int)) (r5 : Int) (H : iU F a1 = some (r3, r4, r5)) : ACalls Tryz.prog 9 [slE Enc.byte a1 q2] [] (Ret (.tup [.agg [S r3, slE (ab Enc.str (ab Enc.str (ab Enc.str (ab Enc.str Enc.int)))) r4 none], i64 r5]) []) := by
 unfold iU at H
 refine ap Tryz.func9 rfl rfl ?_;show AW _ _ 19 _ _ _;refine af <| aa ?_;show AR _ _ _ _ _ [0, 1] _;refine zX rfl (bj (zs := [.string ⟨#[]⟩, .slice none 0 0]) (by kernel_rfl)) ?_;rintro _ _ ⟨o6, rfl, rfl⟩;refine za rfl <| ag <| af ?_;obtain ⟨x7, x8, e9, H⟩ := cD H;refine aa ?_;show AR _ _ _ _ _ [0, 1, 2, 3, 4, 5, 6] _;refine zS rfl (ah (av := slE _ _ _) rfl) <| am rfl rfl (aC rfl en14_fdb rfl (vg F a1 q2 x7 x8 e9) ?_);refine zS rfl (ah (av := .tup _) rfl) <| zS rfl (ay (av := slE _ _ _) rfl rfl) <| zS rfl (ay (av := .v _) rfl rfl) <| zS rfl (aH (av := slE _ _ _) rfl) <| za rfl <| ag <| af <| af <| aa ?_;show AR _ _ _ _ _ [0, 1] _;refine zm rfl <| zS rfl (kb rfl rfl) <| ag <| ax rfl (fun c10 => ?_) (fun c10 => ?_)
 ·replace H := aW c10 H;refine af <| aa ?_;show AR _ _ _ _ _ [0, 1, 2, 3] _;refine zS rfl (cQ (zs := [.string ⟨#[]⟩, .slice none 0 0]) (ps := [(0, 1), (1, 1)]) (cs := [S ([] : List UInt8), eD]) (by kernel_rfl) rfl rfl) <| zm rfl <| s0 rfl rfl (aV (i := 0) (vs := [S ([] : List UInt8), eD]) (by kernel_rfl) rfl rfl (by simp [bA, slE]) rfl (ac rfl)) <| za rfl <| ag <| aG ?_;obtain ⟨rfl, rfl, rfl⟩ := res3 H;exact And.intro rfl (Exists.intro _ (Exists.intro _ ⟨dl (bD rfl (CellV.aggW (cs := [S ([] : List UInt8), eD]) (CellV.agg (off := 0) (cs := [S ([] : List UInt8), eD]) (n := 2) 0 cX rfl (by kernel_rfl) rfl rfl (ac rfl)) (.cons (.refl _) (.cons (.nil _) (.nil)))) ((show PlaceV _ _ _ (.tmp _) _ from (.refl _)))), aB [] rfl, rfl, rfl⟩))
 ·replace H := aX c10 H;refine aA <| af ?_;obtain ⟨x11, x12, x13, e14, H⟩ := xu H;refine aa ?_;show AR _ _ _ _ _ [0, 1, 2, 3, 4, 5] _;refine zS rfl (ah (av := slE _ _ _) rfl) <| am rfl rfl (aC rfl en15_fdb rfl (re F x7 none x11 x12 x13 e14) ?_);refine zS rfl (ay (av := .agg _) rfl rfl) <| zS rfl (ay (av := .v _) rfl rfl) <| s0 rfl rfl (aV (i := 0) (vs := [S x11, slE (ab Enc.str (ab Enc.str (ab Enc.str (ab Enc.str Enc.int)))) x12 none]) (by kernel_rfl) rfl rfl (by simp [bA, slE]) rfl (ac rfl)) <| za rfl <| ag <| aG ?_;obtain ⟨rfl, rfl, rfl⟩ := res3 H;exact And.intro rfl (Exists.intro _ (Exists.intro _ ⟨dl (bD rfl (CellV.agg (off := 0) (cs := [S x11, slE (ab Enc.str (ab Enc.str (ab Enc.str (ab Enc.str Enc.int)))) x12 none]) (n := 2) 0 cX rfl (by kernel_rfl) rfl rfl (ac rfl)) ((show PlaceV _ _ _ (.tmp _) _ from (.refl _)))), aB [] rfl, rfl, rfl⟩))
end Go.Proofs.YtkbfjepffpddfaaGreatDoor
namespace Go.Pv
def jK : Option Bool :=
some true
def hM (a2 : List ((List UInt8) × (List UInt8) × (List UInt8) × (List UInt8) × Int)) (a4 : List ((List UInt8) × (List UInt8) × (List UInt8) × (List UInt8) × Int)) (rec9 : Int → Option Bool) (y8 : Int) : Option Bool :=
bif decide (y8 < (a2.length : Int)) then
  grd (dx y8 a2.length) <|
  lt (at_ a2 y8) fun x13 =>
  grd (dx y8 a4.length) <|
  lt (at_ a4 y8) fun x16 =>
  bif !((decide (x13.1 = x16.1)) && ((decide (x13.2.1 = x16.2.1)) && ((decide (x13.2.2.1 = x16.2.2.1)) && ((decide (x13.2.2.2.1 = x16.2.2.2.1)) && (x13.2.2.2.2 == x16.2.2.2.2))))) then
    some false
  else
    grd (okI (y8 + 1)) <|
    rec9 (y8 + 1)
else
  jK
def hH (a2 : List ((List UInt8) × (List UInt8) × (List UInt8) × (List UInt8) × Int)) (a4 : List ((List UInt8) × (List UInt8) × (List UInt8) × (List UInt8) × Int)) (n : Nat) : Int → Option Bool :=
  loop (fun rec x => hM a2 a4 rec x) n
def kX (F : Nat) (a1 : List UInt8) (a2 : List ((List UInt8) × (List UInt8) × (List UInt8) × (List UInt8) × Int)) (a3 : List UInt8) (a4 : List ((List UInt8) × (List UInt8) × (List UInt8) × (List UInt8) × Int)) : Option Bool :=
bif (!decide (a1 = a3)) || (!decide ((a2.length : Int) = (a4.length : Int))) then
  some false
else
  hH a2 a4 F 0
def jS (F : Nat) : Option Bool :=
bnd3 (iU F ([60, 114, 115, 115, 62, 60, 99, 104, 97, 110, 110, 101, 108, 62, 60, 116] ++ [105, 116, 108, 101, 62, 84, 60, 47, 116, 105, 116, 108, 101, 62, 60, 105] ++ [116, 101, 109, 62, 60, 103, 117, 105, 100, 62, 49, 60, 47, 103, 117, 105] ++ [100, 62, 60, 47, 105, 116, 101, 109, 62, 60, 47, 99, 104, 97, 110, 110] ++ [101, 108, 62, 60, 47, 114, 115, 115, 62] : List UInt8)) fun x3 x4 x5 =>
bnd (kX F x3 x4 ([84] : List UInt8) ([(([49] : List UInt8), ([] : List UInt8), ([] : List UInt8), ([] : List UInt8), 0)] : List ((List UInt8) × (List UInt8) × (List UInt8) × (List UInt8) × Int))) fun x8 =>
ls ((decide (x5 = 0)) && x8) (fO F ([(2, ([] : List UInt8), ([32, 97, 32] : List UInt8), ([] : List ((List UInt8) × List UInt8)))] : List (Int × (List UInt8) × (List UInt8) × List ((List UInt8) × List UInt8)))) fun x12 =>
some (((decide (x5 = 0)) && x8) && (decide (x12 = ([97] : List UInt8))))
def gK (F : Nat) (a1 : Int) : Option ((List UInt8)) :=
grd (dS a1 100) <|
grd (dS a1 100) <|
grd (okI ((a1 / 100) + 1)) <|
grd (nZ (a1 / 100) ((a1 / 100) + 1) ([48, 49, 50, 51, 52, 53, 54, 55, 56, 57] : List UInt8).length) <|
lt (sub ([48, 49, 50, 51, 52, 53, 54, 55, 56, 57] : List UInt8) (a1 / 100) ((a1 / 100) + 1)) fun x7 =>
grd (dS a1 10) <|
grd (dS (a1 / 10) 10) <|
grd (dS a1 10) <|
grd (dS (a1 / 10) 10) <|
grd (okI (((a1 / 10) % 10) + 1)) <|
grd (nZ ((a1 / 10) % 10) (((a1 / 10) % 10) + 1) ([48, 49, 50, 51, 52, 53, 54, 55, 56, 57] : List UInt8).length) <|
lt (sub ([48, 49, 50, 51, 52, 53, 54, 55, 56, 57] : List UInt8) ((a1 / 10) % 10) (((a1 / 10) % 10) + 1)) fun x15 =>
grd (fF (x7.length + x15.length)) <|
lt (x7 ++ x15) fun x18 =>
grd (dS a1 10) <|
grd (dS a1 10) <|
grd (okI ((a1 % 10) + 1)) <|
grd (nZ (a1 % 10) ((a1 % 10) + 1) ([48, 49, 50, 51, 52, 53, 54, 55, 56, 57] : List UInt8).length) <|
lt (sub ([48, 49, 50, 51, 52, 53, 54, 55, 56, 57] : List UInt8) (a1 % 10) ((a1 % 10) + 1)) fun x24 =>
grd (fF (x18.length + x24.length)) <|
lt (x18 ++ x24) fun x27 =>
some x27
end Go.Pv
namespace Go.Proofs.YtkbfjepffpddfaaGreatDoor
open Go.RowKit Go.Av Go.Pv
theorem en9_fdl : ∀ (args : Array Value) (w : World), (callFunc 9 args).run Tryz.prog w = .ok (.enter 9 args) w := fun _ _ => by kernel_rfl
theorem en10_fdl : ∀ (args : Array Value) (w : World), (callFunc 10 args).run Tryz.prog w = .ok (.enter 10 args) w := fun _ _ => by kernel_rfl
theorem en13_fdl : ∀ (args : Array Value) (w : World), (callFunc 13 args).run Tryz.prog w = .ok (.enter 13 args) w := fun _ _ => by kernel_rfl
set_option maxRecDepth 100000 in
set_option maxHeartbeats 1000000 in
theorem uk (F : Nat) (a1 : List UInt8) (a2 : List ((List UInt8) × (List UInt8) × (List UInt8) × (List UInt8) × Int)) (a3 : List UInt8) (a4 : List ((List UInt8) × (List UInt8) × (List UInt8) × (List UInt8) × Int)) (r5 : Bool) (H : kX F a1 a2 a3 a4 = some r5) : ACalls Tryz.prog 10 [.agg [S a1, slE (ab Enc.str (ab Enc.str (ab Enc.str (ab Enc.str Enc.int)))) a2 none], .agg [S a3, slE (ab Enc.str (ab Enc.str (ab Enc.str (ab Enc.str Enc.int)))) a4 none]] [] (Ret (B r5) []) := by
 unfold kX at H
 refine ap Tryz.func10 rfl rfl ?_;show AW _ _ 38 _ _ _;refine af <| aa ?_;show AR _ _ _ _ _ [0, 1, 2] _;refine zR rfl (dP rfl (.inr ⟨_, rfl⟩)) <| zR rfl (dP rfl (.inr ⟨_, rfl⟩)) <| za rfl <| ag <| af <| af <| aa ?_;show AR _ _ _ _ _ [0, 1, 2, 3, 4, 5, 6, 7, 8, 9, 10, 11, 12, 13] _;refine zS rfl (aN (n := 0) (by kernel_rfl) rfl (ac rfl)) <| zS rfl (aK ai rfl rfl) <| zS rfl (aN (n := 0) (by kernel_rfl) rfl (ac rfl)) <| zS rfl (aK ai rfl rfl) <| zS rfl (lT rfl rfl) <| zm rfl <| aY (l := []) 19 (B ((!decide (a1 = a3)) || (!decide ((a2.length : Int) = (a4.length : Int))))) (fun K => ?_) ?_
 ·rcases ak (!decide (a1 = a3)) with h6 | h6
  ·refine zF h6 rfl <| zF h6 rfl <| zF h6 rfl <| zF h6 rfl <| zF h6 rfl <| zF h6 rfl <| zF h6 rfl <| zS rfl (aE (av := .v _) rfl h6 rfl) ?_;exact K _ 7 _ (az (kw h6)) rfl rfl
  ·refine zU h6 rfl (aN (n := 1) (by kernel_rfl) rfl (ac rfl)) <| zU h6 rfl (aK bh rfl rfl) <| zU h6 rfl (bB bh rfl) <| zU h6 rfl (aN (n := 1) (by kernel_rfl) rfl (ac rfl)) <| zU h6 rfl (aK bh rfl rfl) <| zU h6 rfl (bB bh rfl) <| zU h6 rfl (kb rfl rfl) <| zS rfl (aF (av := .v _) rfl h6 rfl) ?_;exact K _ 7 _ (az (kx h6)) rfl rfl
 refine ag <| ax rfl (fun c7 => ?_) (fun c7 => ?_)
 ·replace H := aW c7 H;refine af <| aa ?_;show AR _ _ _ _ _ [0] _;refine za rfl <| ag <| aG ?_;obtain rfl := aj H;exact And.intro rfl (Exists.intro _ (Exists.intro _ ⟨aD rfl (.refl _), aB [] rfl, rfl, rfl⟩))
 ·replace H := aX c7 H;refine aA <| bJ (X := Unit) (fun _ => ⟨[], [], []⟩) (fun _ => jK = some r5) ?_ ?_
  ·refine af <| aa ?_;show AR _ _ _ _ _ [0] _;refine za rfl <| ag <| aR <| de (X := Nat × Int) (fun (n10, y8) => ⟨[(2, .cp [S a1, slE (ab Enc.str (ab Enc.str (ab Enc.str (ab Enc.str Enc.int)))) a2 none]), (3, .cp [S a3, slE (ab Enc.str (ab Enc.str (ab Enc.str (ab Enc.str Enc.int)))) a4 none]), (5, i64 y8)], [], []⟩) (fun (n10, y8) => hH a2 a4 n10 y8 = some r5) (fun (n10, y8) => n10) (F, 0) H (bc [] (.cons (.refl _) (.cons (.refl _) (.cons (.refl _) (.nil _)))) rfl) ?_;rintro ⟨n10, y8⟩ H;obtain ⟨n10, rfl, H⟩ := fa H;replace H : hM a2 a4 (hH a2 a4 n10) y8 = some r5 := H
   unfold hM at H
   refine af <| af <| aa ?_;show AR _ _ _ _ _ [0, 1, 2, 3, 4] _;refine zm rfl <| zS rfl (aN (n := 1) (by kernel_rfl) rfl (ac rfl)) <| zS rfl (aK bh rfl rfl) <| zS rfl (bB bh rfl) <| zS rfl (bZ rfl rfl) <| ag <| ax rfl (fun c11 => ?_) (fun c11 => ?_)
   ·replace H := aW c11 H;refine aA <| af <| aR <| af ?_;obtain ⟨g12, H⟩ := aM H;obtain ⟨x13, e14, H⟩ := bO H;obtain ⟨g15, H⟩ := aM H;obtain ⟨x16, e17, H⟩ := bO H;refine cc (by kernel_rfl) ?_;show AI _ _ _ _ _ 11 (Array.replicate 11 false) _;refine zk 0 rfl (aN (n := 1) (by kernel_rfl) rfl (ac rfl)) ?_;show AI _ _ _ _ _ _ #[true, false, false, false, false, false, false, false, false, false, false] _;refine zk 1 rfl (aK bh rfl rfl) ?_;show AI _ _ _ _ _ _ #[true, true, false, false, false, false, false, false, false, false, false] _;refine zk 2 rfl (mv rfl) ?_;show AI _ _ _ _ _ _ #[true, true, true, false, false, false, false, false, false, false, false] _;refine zk 3 rfl (dn (E := (ab Enc.str (ab Enc.str (ab Enc.str (ab Enc.str Enc.int))))) bh (by kernel_rfl) rfl rfl g12 e14) ?_;show AI _ _ _ _ _ _ #[true, true, true, true, false, false, false, false, false, false, false] _;refine zk 4 rfl (cK dJ rfl (n := 5) (by kernel_rfl) rfl (ac rfl)) ?_;show AI _ _ _ _ _ _ #[true, true, true, true, true, false, false, false, false, false, false] _;refine zk 5 rfl (aN (n := 1) (by kernel_rfl) rfl (ac rfl)) ?_;show AI _ _ _ _ _ _ #[true, true, true, true, true, true, false, false, false, false, false] _;refine zk 6 rfl (aK bh rfl rfl) ?_;show AI _ _ _ _ _ _ #[true, true, true, true, true, true, true, false, false, false, false] _
    refine zk 7 rfl (mv rfl) ?_;show AI _ _ _ _ _ _ #[true, true, true, true, true, true, true, true, false, false, false] _;refine zk 8 rfl (dn (E := (ab Enc.str (ab Enc.str (ab Enc.str (ab Enc.str Enc.int))))) bh (by kernel_rfl) rfl rfl g15 e17) ?_;show AI _ _ _ _ _ _ #[true, true, true, true, true, true, true, true, true, false, false] _;refine zk 9 rfl (cK dJ rfl (n := 5) (by kernel_rfl) rfl (ac rfl)) ?_;show AI _ _ _ _ _ _ #[true, true, true, true, true, true, true, true, true, true, false] _;refine zk 10 rfl (sy (r := (decide (x13.1 = x16.1)) && ((decide (x13.2.1 = x16.2.1)) && ((decide (x13.2.2.1 = x16.2.2.1)) && ((decide (x13.2.2.2.1 = x16.2.2.2.1)) && (x13.2.2.2.2 == x16.2.2.2.2))))) (.inr rfl) dJ (by kernel_rfl) (by kernel_rfl) (by kernel_rfl) rfl rfl rfl (by simp only [List.all_cons, List.all_nil, id, str_beq, Bool.and_true])) ?_;show AI _ _ _ _ _ _ #[true, true, true, true, true, true, true, true, true, true, true] _;refine cH rfl <| ax rfl (fun c18 => ?_) (fun c18 => ?_)
    ·replace H := aW c18 H;refine af <| aa ?_;show AR _ _ _ _ _ [0] _;refine za rfl <| ag <| aG ?_;obtain rfl := aj H;exact And.intro rfl (Exists.intro _ (Exists.intro _ ⟨aD rfl (.refl _), aB [] rfl, rfl, rfl⟩))
    ·replace H := aX c18 H;refine aA ?_;obtain ⟨g19, H⟩ := aM H;refine aa ?_;show AR _ _ _ _ _ [0, 1, 2] _;refine zm rfl <| zS rfl (cM rfl rfl g19) <| za rfl <| ag ?_;exact Exists.intro (n10, y8 + 1) ⟨H, Nat.lt_succ_self _, bc [] (.cons (.refl _) (.cons (.refl _) (.cons (.refl _) (.nil _)))) rfl⟩
   ·replace H := aX c11 H;refine cx ?_;exact Exists.intro () ⟨H, bc [] (.nil _) rfl⟩
  rintro _ H;replace H : jK = some r5 := H
  unfold jK at H
  refine af <| aa ?_;show AR _ _ _ _ _ [0] _;refine za rfl <| ag <| aG ?_;obtain rfl := aj H;exact And.intro rfl (Exists.intro _ (Exists.intro _ ⟨aD rfl (.refl _), aB [] rfl, rfl, rfl⟩))
set_option maxRecDepth 100000 in
set_option maxHeartbeats 1000000 in
theorem si (F : Nat) (r1 : Bool) (H : jS F = some r1) : ACalls Tryz.prog 7 [] [] (Ret (B r1) []) := by
 unfold jS at H
 refine ap Tryz.func7 rfl rfl ?_;show AW _ _ 26 _ _ _;refine af <| aa ?_;show AR _ _ _ _ _ [0] _;refine za rfl <| ag <| af ?_;obtain ⟨x3, x4, x5, e6, H⟩ := xu H;refine aa ?_;show AR _ _ _ _ _ [0, 1, 2, 3, 4, 5, 6, 7, 8] _;refine zX rfl (wR (E := Enc.byte) (bytes := 1) (xs := [.const _, .const _, .const _, .const _, .const _, .const _, .const _, .const _, .const _, .const _, .const _, .const _, .const _, .const _, .const _, .const _] ++ [.const _, .const _, .const _, .const _, .const _, .const _, .const _, .const _, .const _, .const _, .const _, .const _, .const _, .const _, .const _, .const _] ++ [.const _, .const _, .const _, .const _, .const _, .const _, .const _, .const _, .const _, .const _, .const _, .const _, .const _, .const _, .const _, .const _] ++ [.const _, .const _, .const _, .const _, .const _, .const _, .const _, .const _, .const _, .const _, .const _, .const _, .const _, .const _, .const _, .const _] ++ [.const _, .const _, .const _, .const _, .const _, .const _, .const _, .const _, .const _]) (l := ([60, 114, 115, 115, 62, 60, 99, 104, 97, 110, 110, 101, 108, 62, 60, 116] ++ [105, 116, 108, 101, 62, 84, 60, 47, 116, 105, 116, 108, 101, 62, 60, 105] ++ [116, 101, 109, 62, 60, 103, 117, 105, 100, 62, 49, 60, 47, 103, 117, 105] ++ [100, 62, 60, 47, 105, 116, 101, 109, 62, 60, 47, 99, 104, 97, 110, 110] ++ [101, 108, 62, 60, 47, 114, 115, 115, 62] : List UInt8)) al (by kernel_rfl) rfl rfl (by decide) rfl rfl) ?_;rintro _ _ ⟨t2, rfl, rfl⟩
 refine zR rfl (sB 0 al cO rfl (by simp) rfl) <| am rfl rfl (aC rfl en9_fdl rfl (qg F ([60, 114, 115, 115, 62, 60, 99, 104, 97, 110, 110, 101, 108, 62, 60, 116] ++ [105, 116, 108, 101, 62, 84, 60, 47, 116, 105, 116, 108, 101, 62, 60, 105] ++ [116, 101, 109, 62, 60, 103, 117, 105, 100, 62, 49, 60, 47, 103, 117, 105] ++ [100, 62, 60, 47, 105, 116, 101, 109, 62, 60, 47, 99, 104, 97, 110, 110] ++ [101, 108, 62, 60, 47, 114, 115, 115, 62] : List UInt8) (some t2) x3 x4 x5 e6) ?_);refine zS rfl (ah (av := .tup _) rfl) <| zS rfl (ay (av := .agg _) rfl rfl) <| zS rfl (ay (av := .v _) rfl rfl) <| zX rfl (bj (zs := [.string ⟨#[]⟩, .slice none 0 0]) (by kernel_rfl)) ?_;rintro _ _ ⟨o7, rfl, rfl⟩;refine s0 rfl rfl (aV (i := 0) (vs := [S x3, slE (ab Enc.str (ab Enc.str (ab Enc.str (ab Enc.str Enc.int)))) x4 none]) (by kernel_rfl) rfl rfl (by simp [bA, slE]) rfl (ac rfl)) <| AR.freezeCp 1 0 rfl rfl ?_;show AR _ _ _ _ _ _ ⟨_, _, [.tok t2 5]⟩;refine za rfl <| ag <| af ?_;obtain ⟨x8, e9, H⟩ := ce H;refine aa ?_;show AR _ _ _ _ _ [0, 1, 2, 3, 4, 5] _
 refine zS rfl (cK cX rfl (n := 2) (by kernel_rfl) rfl (ac rfl)) <| zS rfl (cQ (zs := [.string ⟨#[]⟩, .string ⟨#[]⟩, .string ⟨#[]⟩, .string ⟨#[]⟩, .int .i64 0]) (ps := [(0, 1), (1, 1), (2, 1), (3, 1), (4, 1)]) (cs := [S ([49] : List UInt8), S ([] : List UInt8), S ([] : List UInt8), S ([] : List UInt8), i64 0]) (by kernel_rfl) rfl rfl) <| zR rfl (dX (E := (ab Enc.str (ab Enc.str (ab Enc.str (ab Enc.str Enc.int))))) (bytes := 72) (zs := [.string ⟨#[]⟩, .string ⟨#[]⟩, .string ⟨#[]⟩, .string ⟨#[]⟩, .int .i64 0]) (l := ([(([49] : List UInt8), ([] : List UInt8), ([] : List UInt8), ([] : List UInt8), 0)] : List ((List UInt8) × (List UInt8) × (List UInt8) × (List UInt8) × Int))) bh (by kernel_rfl) (by kernel_rfl) rfl rfl rfl rfl rfl) <| zS rfl (cQ (zs := [.string ⟨#[]⟩, .slice none 0 0]) (ps := [(0, 1), (1, 1)]) (cs := [S ([84] : List UInt8), slE (ab Enc.str (ab Enc.str (ab Enc.str (ab Enc.str Enc.int)))) ([(([49] : List UInt8), ([] : List UInt8), ([] : List UInt8), ([] : List UInt8), 0)] : List ((List UInt8) × (List UInt8) × (List UInt8) × (List UInt8) × Int)) none]) (by kernel_rfl) rfl rfl) <| am rfl rfl (aC rfl en10_fdl rfl (uk F x3 x4 ([84] : List UInt8) ([(([49] : List UInt8), ([] : List UInt8), ([] : List UInt8), ([] : List UInt8), 0)] : List ((List UInt8) × (List UInt8) × (List UInt8) × (List UInt8) × Int)) x8 e9) ?_);refine za rfl <| ag <| af ?_;obtain ⟨x12, e13, H⟩ := fI H;refine aa ?_
 show AR _ _ _ _ _ [0, 1, 2, 3, 4, 5, 6, 7, 8, 9, 10, 11] _;refine zm rfl <| zS rfl (bL rfl rfl) <| zm rfl <| aY (l := [5, 6, 7, 8, 9, 10, 11]) 19 (B ((decide (x5 = 0)) && x8)) (fun K => ?_) ?_
 ·rcases ak (decide (x5 = 0)) with h10 | h10
  ·refine zM h10 rfl <| zS rfl (aE (av := .v _) rfl h10 rfl) ?_;exact K _ 1 _ (az (cB h10)) rfl rfl
  ·refine zF h10 rfl <| zS rfl (aF (av := .v _) rfl h10 rfl) ?_;exact K _ 1 _ (az (cC h10)) rfl rfl
 refine zm rfl <| aY (l := [11]) 25 (B (((decide (x5 = 0)) && x8) && (decide (x12 = ([97] : List UInt8))))) (fun K => ?_) ?_
 ·rcases ak ((decide (x5 = 0)) && x8) with h11 | h11
  ·refine zU h11 rfl (cQ (zs := [.int .i64 0, .string ⟨#[]⟩, .string ⟨#[]⟩, .slice none 0 0]) (ps := [(0, 1), (1, 1), (2, 1), (3, 1)]) (cs := [i64 2, S ([] : List UInt8), S ([32, 97, 32] : List UInt8), eD]) (by kernel_rfl) rfl rfl) <| zT h11 rfl (cm rfl rfl (jC (ds := [i64 2, S ([] : List UInt8), S ([32, 97, 32] : List UInt8), slE (ab Enc.str Enc.str) ([] : List ((List UInt8) × List UInt8)) none]) 21 (.cons (.refl _) (.cons (.refl _) (.cons (.refl _) (.cons (.nil _) (.nil))))) (hc := rfl) <| dX (E := (ab Enc.int (ab Enc.str (ab Enc.str (Enc.sl (ab Enc.str Enc.str)))))) (bytes := 64) (zs := [.int .i64 0, .string ⟨#[]⟩, .string ⟨#[]⟩, .slice none 0 0]) (l := ([(2, ([] : List UInt8), ([32, 97, 32] : List UInt8), ([] : List ((List UInt8) × List UInt8)))] : List (Int × (List UInt8) × (List UInt8) × List ((List UInt8) × List UInt8)))) aP (by kernel_rfl) (by kernel_rfl) rfl rfl rfl rfl rfl) ?_);refine zT h11 rfl (aC rfl en13_fdl rfl (pa F ([(2, ([] : List UInt8), ([32, 97, 32] : List UInt8), ([] : List ((List UInt8) × List UInt8)))] : List (Int × (List UInt8) × (List UInt8) × List ((List UInt8) × List UInt8))) none x12 (e13 h11)) ?_);refine zU h11 rfl (ej rfl rfl) <| zS rfl (aE (av := .v _) rfl h11 rfl) ?_;exact K _ 4 _ (az (cB h11)) rfl rfl
  ·refine zF h11 rfl <| zF h11 rfl <| zF h11 rfl <| zF h11 rfl <| zS rfl (aF (av := .v _) rfl h11 rfl) ?_;exact K _ 4 _ (az (cC h11)) rfl rfl
 refine za rfl <| ag <| aG ?_;obtain rfl := aj H;exact And.intro rfl (Exists.intro _ (Exists.intro _ ⟨aD rfl (.refl _), aB [] rfl, rfl, rfl⟩))
set_option maxRecDepth 100000 in
set_option maxHeartbeats 1000000 in
theorem nj (F : Nat) (a1 : Int) (r2 : List UInt8) (H : gK F a1 = some r2) : ACalls Tryz.prog 11 [i64 a1] [] (Ret (S r2) []) := by
 unfold gK at H
 refine ap Tryz.func11 rfl rfl ?_;show AW _ _ 29 _ _ _;refine af <| aa ?_;show AR _ _ _ _ _ [0] _;refine za rfl <| ag <| af <| aa ?_;show AR _ _ _ _ _ [0] _;refine za rfl <| ag <| af ?_;obtain ⟨g3, H⟩ := aM H;obtain ⟨g4, H⟩ := aM H;obtain ⟨g5, H⟩ := aM H;obtain ⟨g6, H⟩ := aM H;obtain ⟨x7, e8, H⟩ := bO H;obtain ⟨g9, H⟩ := aM H;obtain ⟨g10, H⟩ := aM H;obtain ⟨g11, H⟩ := aM H;obtain ⟨g12, H⟩ := aM H;obtain ⟨g13, H⟩ := aM H;obtain ⟨g14, H⟩ := aM H;obtain ⟨x15, e16, H⟩ := bO H;obtain ⟨g17, H⟩ := aM H;obtain ⟨x18, e19, H⟩ := bO H;obtain ⟨g20, H⟩ := aM H;obtain ⟨g21, H⟩ := aM H;obtain ⟨g22, H⟩ := aM H;obtain ⟨g23, H⟩ := aM H;obtain ⟨x24, e25, H⟩ := bO H;obtain ⟨g26, H⟩ := aM H;obtain ⟨x27, e28, H⟩ := bO H;refine cc (by kernel_rfl) ?_;show AI _ _ _ _ _ 26 (Array.replicate 26 false) _;refine zk 0 rfl (mv rfl) ?_;show AI _ _ _ _ _ _ #[true, false, false, false, false, false, false, false, false, false, false, false, false, false, false, false, false, false, false, false, false, false, false, false, false, false] _;refine zk 1 rfl (mv rfl) ?_;show AI _ _ _ _ _ _ #[true, true, false, false, false, false, false, false, false, false, false, false, false, false, false, false, false, false, false, false, false, false, false, false, false, false] _;refine zk 2 rfl (qL rfl rfl g3) ?_
 show AI _ _ _ _ _ _ #[true, true, true, false, false, false, false, false, false, false, false, false, false, false, false, false, false, false, false, false, false, false, false, false, false, false] _;refine zk 3 rfl (mv rfl) ?_;show AI _ _ _ _ _ _ #[true, true, true, true, false, false, false, false, false, false, false, false, false, false, false, false, false, false, false, false, false, false, false, false, false, false] _;refine zk 4 rfl (qL rfl rfl g4) ?_;show AI _ _ _ _ _ _ #[true, true, true, true, true, false, false, false, false, false, false, false, false, false, false, false, false, false, false, false, false, false, false, false, false, false] _;refine zk 5 rfl (cM rfl rfl g5) ?_;show AI _ _ _ _ _ _ #[true, true, true, true, true, true, false, false, false, false, false, false, false, false, false, false, false, false, false, false, false, false, false, false, false, false] _;refine zk 6 rfl (jT ai rfl rfl rfl g6 e8) ?_;show AI _ _ _ _ _ _ #[true, true, true, true, true, true, true, false, false, false, false, false, false, false, false, false, false, false, false, false, false, false, false, false, false, false] _;refine zk 7 rfl (mv rfl) ?_;show AI _ _ _ _ _ _ #[true, true, true, true, true, true, true, true, false, false, false, false, false, false, false, false, false, false, false, false, false, false, false, false, false, false] _;refine zk 8 rfl (mv rfl) ?_
 show AI _ _ _ _ _ _ #[true, true, true, true, true, true, true, true, true, false, false, false, false, false, false, false, false, false, false, false, false, false, false, false, false, false] _;refine zk 9 rfl (qL rfl rfl g9) ?_;show AI _ _ _ _ _ _ #[true, true, true, true, true, true, true, true, true, true, false, false, false, false, false, false, false, false, false, false, false, false, false, false, false, false] _;refine zk 10 rfl (oK rfl rfl g10) ?_;show AI _ _ _ _ _ _ #[true, true, true, true, true, true, true, true, true, true, true, false, false, false, false, false, false, false, false, false, false, false, false, false, false, false] _;refine zk 11 rfl (mv rfl) ?_;show AI _ _ _ _ _ _ #[true, true, true, true, true, true, true, true, true, true, true, true, false, false, false, false, false, false, false, false, false, false, false, false, false, false] _;refine zk 12 rfl (qL rfl rfl g11) ?_;show AI _ _ _ _ _ _ #[true, true, true, true, true, true, true, true, true, true, true, true, true, false, false, false, false, false, false, false, false, false, false, false, false, false] _;refine zk 13 rfl (oK rfl rfl g12) ?_;show AI _ _ _ _ _ _ #[true, true, true, true, true, true, true, true, true, true, true, true, true, true, false, false, false, false, false, false, false, false, false, false, false, false] _;refine zk 14 rfl (cM rfl rfl g13) ?_;show AI _ _ _ _ _ _ #[true, true, true, true, true, true, true, true, true, true, true, true, true, true, true, false, false, false, false, false, false, false, false, false, false, false] _
 refine zk 15 rfl (jT ai rfl rfl rfl g14 e16) ?_;show AI _ _ _ _ _ _ #[true, true, true, true, true, true, true, true, true, true, true, true, true, true, true, true, false, false, false, false, false, false, false, false, false, false] _;refine zk 16 rfl (oL rfl rfl g17 e19) ?_;show AI _ _ _ _ _ _ #[true, true, true, true, true, true, true, true, true, true, true, true, true, true, true, true, true, false, false, false, false, false, false, false, false, false] _;refine zk 17 rfl (mv rfl) ?_;show AI _ _ _ _ _ _ #[true, true, true, true, true, true, true, true, true, true, true, true, true, true, true, true, true, true, false, false, false, false, false, false, false, false] _;refine zk 18 rfl (mv rfl) ?_;show AI _ _ _ _ _ _ #[true, true, true, true, true, true, true, true, true, true, true, true, true, true, true, true, true, true, true, false, false, false, false, false, false, false] _;refine zk 19 rfl (oK rfl rfl g20) ?_;show AI _ _ _ _ _ _ #[true, true, true, true, true, true, true, true, true, true, true, true, true, true, true, true, true, true, true, true, false, false, false, false, false, false] _;refine zk 20 rfl (mv rfl) ?_;show AI _ _ _ _ _ _ #[true, true, true, true, true, true, true, true, true, true, true, true, true, true, true, true, true, true, true, true, true, false, false, false, false, false] _;refine zk 21 rfl (oK rfl rfl g21) ?_;show AI _ _ _ _ _ _ #[true, true, true, true, true, true, true, true, true, true, true, true, true, true, true, true, true, true, true, true, true, true, false, false, false, false] _
 refine zk 22 rfl (cM rfl rfl g22) ?_;show AI _ _ _ _ _ _ #[true, true, true, true, true, true, true, true, true, true, true, true, true, true, true, true, true, true, true, true, true, true, true, false, false, false] _;refine zk 23 rfl (jT ai rfl rfl rfl g23 e25) ?_;show AI _ _ _ _ _ _ #[true, true, true, true, true, true, true, true, true, true, true, true, true, true, true, true, true, true, true, true, true, true, true, true, false, false] _;refine zk 24 rfl (oL rfl rfl g26 e28) ?_;show AI _ _ _ _ _ _ #[true, true, true, true, true, true, true, true, true, true, true, true, true, true, true, true, true, true, true, true, true, true, true, true, true, false] _;refine zk 25 rfl (asg rfl) ?_;show AI _ _ _ _ _ _ #[true, true, true, true, true, true, true, true, true, true, true, true, true, true, true, true, true, true, true, true, true, true, true, true, true, true] _;refine cH rfl <| aG ?_;obtain rfl := aj H;exact And.intro rfl (Exists.intro _ (Exists.intro _ ⟨aD rfl (.refl _), aB [] rfl, rfl, rfl⟩))
end Go.Proofs.YtkbfjepffpddfaaGreatDoor
namespace Go.Pv
def gm : Option Bool :=
some true
def eP (F : Nat) (x33 : List ((List UInt8) × (List UInt8) × (List UInt8) × (List UInt8) × Int)) (y38 : Int) (rec43 : Int → Option Bool) (y42 : Int) : Option Bool :=
bif decide (y42 < y38) then
  grd (dx y42 x33.length) <|
  lt (at_ x33 y42) fun x47 =>
  bnd (gK F y42) fun x49 =>
  bif !decide (x47.1 = x49) then
    some false
  else
    grd (okI (y42 + 1)) <|
    rec43 (y42 + 1)
else
  gm
def eN (F : Nat) (x33 : List ((List UInt8) × (List UInt8) × (List UInt8) × (List UInt8) × Int)) (y38 : Int) (n : Nat) : Int → Option Bool :=
  loop (fun rec x => eP F x33 y38 rec x) n
def cW (F : Nat) (x33 : List ((List UInt8) × (List UInt8) × (List UInt8) × (List UInt8) × Int)) (x34 : Int) (y38 : Int) : Option Bool :=
bif (!decide (x34 = 0)) || (!decide ((x33.length : Int) = y38)) then
  some false
else
  eN F x33 y38 F 0
def dH (F : Nat) (a1 : Int) (y25 : List UInt8) : Option Bool :=
grd (fF (y25.length + ([60, 47, 99, 104, 97, 110, 110, 101, 108, 62, 60, 47, 114, 115, 115, 62] : List UInt8).length)) <|
lt (y25 ++ ([60, 47, 99, 104, 97, 110, 110, 101, 108, 62, 60, 47, 114, 115, 115, 62] : List UInt8)) fun x28 =>
grd (fF x28.length) <|
bnd3 (iU F x28) fun x32 x33 x34 =>
bif decide (200 < a1) then
  cW F x33 x34 200
else
  cW F x33 x34 a1
def eO (F : Nat) (a1 : Int) (rec10 : ((List UInt8) × Int) → Option Bool) (y8 : List UInt8) (y9 : Int) : Option Bool :=
bif decide (y9 < a1) then
  grd (fF (y8.length + ([60, 105, 116, 101, 109, 62, 60, 103, 117, 105, 100, 62] : List UInt8).length)) <|
  lt (y8 ++ ([60, 105, 116, 101, 109, 62, 60, 103, 117, 105, 100, 62] : List UInt8)) fun x14 =>
  bnd (gK F y9) fun x16 =>
  grd (fF (x14.length + x16.length)) <|
  lt (x14 ++ x16) fun x19 =>
  grd (fF (x19.length + ([60, 47, 103, 117, 105, 100, 62, 60, 47, 105, 116, 101, 109, 62] : List UInt8).length)) <|
  lt (x19 ++ ([60, 47, 103, 117, 105, 100, 62, 60, 47, 105, 116, 101, 109, 62] : List UInt8)) fun x22 =>
  grd (okI (y9 + 1)) <|
  rec10 (x22, y9 + 1)
else
  dH F a1 y8
def eM (F : Nat) (a1 : Int) (n : Nat) : ((List UInt8) × Int) → Option Bool :=
  loop (fun rec x => eO F a1 rec x.1 x.2) n
def ja (F : Nat) (a1 : Int) : Option Bool :=
bnd (jS F) fun x3 =>
bif ((!x3) || (decide (a1 < 0))) || (decide (260 < a1)) then
  some x3
else
  eM F a1 F (([60, 114, 115, 115, 62, 60, 99, 104, 97, 110, 110, 101, 108, 62] : List UInt8), 0)
end Go.Pv
namespace Go.Proofs.YtkbfjepffpddfaaGreatDoor
open Go.RowKit Go.Av Go.Pv
theorem sG : ∀ (args : Array Value) (w : World), (callFunc 7 args).run Tryz.prog w = .ok (.enter 7 args) w := fun _ _ => by kernel_rfl
theorem sF : ∀ (args : Array Value) (w : World), (callFunc 9 args).run Tryz.prog w = .ok (.enter 9 args) w := fun _ _ => by kernel_rfl
theorem np : ∀ (args : Array Value) (w : World), (callFunc 11 args).run Tryz.prog w = .ok (.enter 11 args) w := fun _ _ => by kernel_rfl
set_option maxRecDepth 100000 in
set_option maxHeartbeats 1000000 in
theorem pH (F : Nat) (a1 : Int) (r2 : Bool) (H : ja F a1 = some r2) : ACalls Tryz.prog 4 [i64 a1] [] (Ret (B r2) []) := by
 unfold ja at H
 refine ap Tryz.func4 rfl rfl ?_;show AW _ _ 66 _ _ _;refine af <| aa ?_;show AR _ _ _ _ _ [0] _;refine za rfl <| ag <| af ?_;obtain ⟨x3, e4, H⟩ := ce H;refine aa ?_;show AR _ _ _ _ _ [0, 1] _;refine am rfl rfl (aC rfl sG rfl (si F x3 e4) ?_);refine za rfl <| ag <| af <| af <| aa ?_;show AR _ _ _ _ _ [0, 1, 2, 3, 4, 5, 6, 7, 8, 9] _;refine zm rfl <| zS rfl (bG rfl) <| zm rfl <| aY (l := [6, 7, 8, 9]) 16 (B ((!x3) || (decide (a1 < 0)))) (fun K => ?_) ?_
 ·rcases ak (!x3) with h5 | h5
  ·refine zF h5 rfl <| zF h5 rfl <| zS rfl (aE (av := .v _) rfl h5 rfl) ?_;exact K _ 2 _ (az (kw h5)) rfl rfl
  ·refine zM h5 rfl <| zU h5 rfl (bZ rfl rfl) <| zS rfl (aF (av := .v _) rfl h5 rfl) ?_;exact K _ 2 _ (az (kx h5)) rfl rfl
 refine zm rfl <| aY (l := []) 20 (B (((!x3) || (decide (a1 < 0))) || (decide (260 < a1)))) (fun K => ?_) ?_
 ·rcases ak ((!x3) || (decide (a1 < 0))) with h6 | h6
  ·refine zF h6 rfl <| zF h6 rfl <| zS rfl (aE (av := .v _) rfl h6 rfl) ?_;exact K _ 2 _ (az (kw h6)) rfl rfl
  ·refine zM h6 rfl <| zU h6 rfl (fH rfl rfl) <| zS rfl (aF (av := .v _) rfl h6 rfl) ?_;exact K _ 2 _ (az (kx h6)) rfl rfl
 refine ag <| ax rfl (fun c7 => ?_) (fun c7 => ?_)
 ·replace H := aW c7 H;refine af <| aa ?_;show AR _ _ _ _ _ [0, 1] _;refine zm rfl <| za rfl <| ag <| aG ?_;obtain rfl := aj H;exact And.intro rfl (Exists.intro _ (Exists.intro _ ⟨aD rfl (.refl _), aB [] rfl, rfl, rfl⟩))
 ·replace H := aX c7 H;refine aA <| af <| aa ?_;show AR _ _ _ _ _ [0] _;refine za rfl <| ag <| bJ (X := (List UInt8)) (fun y25 => ⟨[(0, i64 a1), (4, S y25)], [], []⟩) (fun y25 => dH F a1 y25 = some r2) ?_ ?_
  ·refine af <| aa ?_;show AR _ _ _ _ _ [0] _;refine za rfl <| ag <| aR <| de (X := Nat × (List UInt8) × Int) (fun (n11, y8, y9) => ⟨[(0, i64 a1), (4, S y8), (5, i64 y9)], [], []⟩) (fun (n11, y8, y9) => eM F a1 n11 (y8, y9) = some r2) (fun (n11, y8, y9) => n11) (F, ([60, 114, 115, 115, 62, 60, 99, 104, 97, 110, 110, 101, 108, 62] : List UInt8), 0) H (bc [] (.cons (.refl _) (.cons (.refl _) (.cons (.refl _) (.nil _)))) rfl) ?_;rintro ⟨n11, y8, y9⟩ H;obtain ⟨n11, rfl, H⟩ := fa H;replace H : eO F a1 (eM F a1 n11) y8 y9 = some r2 := H
   unfold eO at H
   refine af <| af <| aa ?_;show AR _ _ _ _ _ [0, 1, 2] _;refine zm rfl <| zm rfl <| zS rfl (bZ rfl rfl) <| ag <| ax rfl (fun c12 => ?_) (fun c12 => ?_)
   ·replace H := aW c12 H;refine aA <| af <| aR ?_;obtain ⟨g13, H⟩ := aM H;obtain ⟨x14, e15, H⟩ := bO H;obtain ⟨x16, e17, H⟩ := ce H;obtain ⟨g18, H⟩ := aM H;obtain ⟨x19, e20, H⟩ := bO H;obtain ⟨g21, H⟩ := aM H;obtain ⟨x22, e23, H⟩ := bO H;refine aa ?_;show AR _ _ _ _ _ [0, 1, 2, 3, 4, 5, 6] _;refine zm rfl <| zS rfl (oL rfl rfl g13 e15) <| zm rfl <| am rfl rfl (aC rfl np rfl (nj F y9 x16 e17) ?_);refine zS rfl (oL rfl rfl g18 e20) <| zS rfl (oL rfl rfl g21 e23) <| za rfl <| ag ?_;obtain ⟨g24, H⟩ := aM H;refine aa ?_;show AR _ _ _ _ _ [0, 1, 2] _;refine zm rfl <| zS rfl (cM rfl rfl g24) <| za rfl <| ag ?_;exact Exists.intro (n11, x22, y9 + 1) ⟨H, Nat.lt_succ_self _, bc [] (.cons (.refl _) (.cons (.refl _) (.cons (.refl _) (.nil _)))) rfl⟩
   ·replace H := aX c12 H;refine cx ?_;exact Exists.intro y8 ⟨H, bc [] (.cons (.refl _) (.cons (.refl _) (.nil _))) rfl⟩
  rintro y25 H;replace H : dH F a1 y25 = some r2 := H
  unfold dH at H
  refine af ?_;obtain ⟨g27, H⟩ := aM H;obtain ⟨x28, e29, H⟩ := bO H;obtain ⟨g30, H⟩ := aM H;obtain ⟨x32, x33, x34, e35, H⟩ := xu H;refine aa ?_;show AR _ _ _ _ _ [0, 1, 2, 3, 4, 5, 6, 7, 8, 9] _;refine zm rfl <| zS rfl (oL rfl rfl g27 e29) <| zX rfl (ju (bytes := 1) ai al cO rfl g30) ?_;rintro _ _ ⟨t31, rfl, rfl⟩;refine am rfl rfl (aC rfl sF rfl (qg F x28 (some t31) x32 x33 x34 e35) ?_);refine zS rfl (ah (av := .tup _) rfl) <| zS rfl (ay (av := .agg _) rfl rfl) <| zS rfl (ay (av := .v _) rfl rfl) <| zX rfl (bj (zs := [.string ⟨#[]⟩, .slice none 0 0]) (by kernel_rfl)) ?_;rintro _ _ ⟨o36, rfl, rfl⟩;refine s0 rfl rfl (aV (i := 0) (vs := [S x32, slE (ab Enc.str (ab Enc.str (ab Enc.str (ab Enc.str Enc.int)))) x33 none]) (by kernel_rfl) rfl rfl (by simp [bA, slE]) rfl (ac rfl)) <| AR.freezeCp 6 0 rfl rfl ?_;show AR _ _ _ _ _ _ ⟨_, _, [.tok t31 5]⟩;refine za rfl <| ag <| af <| aa ?_;show AR _ _ _ _ _ [0, 1] _;refine zm rfl <| za rfl <| ag <| bJ (X := Int) (fun y38 => ⟨[(6, .cp [S x32, slE (ab Enc.str (ab Enc.str (ab Enc.str (ab Enc.str Enc.int)))) x33 none]), (7, i64 x34), (8, i64 y38)], [], []⟩) (fun y38 => cW F x33 x34 y38 = some r2) ?_ ?_
  ·refine af <| aa ?_;show AR _ _ _ _ _ [0, 1] _;refine zm rfl <| zS rfl (fH rfl rfl) <| ag <| ax rfl (fun c37 => ?_) (fun c37 => ?_)
   ·replace H := aW c37 H;refine aa ?_;show AR _ _ _ _ _ [0] _;refine za rfl <| ag ?_;exact Exists.intro 200 ⟨H, bc [] (.cons (.refl _) (.cons (.refl _) (.cons (.refl _) (.nil _)))) rfl⟩
   ·replace H := aX c37 H;refine aA ?_;exact Exists.intro a1 ⟨H, bc [] (.cons (.refl _) (.cons (.refl _) (.cons (.refl _) (.nil _)))) rfl⟩
  rintro y38 H;replace H : cW F x33 x34 y38 = some r2 := H
  unfold cW at H
  refine af <| af <| aa ?_;show AR _ _ _ _ _ [0, 1, 2, 3, 4, 5, 6, 7, 8] _;refine zm rfl <| zS rfl (kb rfl rfl) <| zm rfl <| aY (l := []) 51 (B ((!decide (x34 = 0)) || (!decide ((x33.length : Int) = y38)))) (fun K => ?_) ?_
  ·rcases ak (!decide (x34 = 0)) with h40 | h40
   ·refine zF h40 rfl <| zF h40 rfl <| zF h40 rfl <| zF h40 rfl <| zF h40 rfl <| zS rfl (aE (av := .v _) rfl h40 rfl) ?_;exact K _ 5 _ (az (kw h40)) rfl rfl
   ·refine zU h40 rfl (aN (n := 1) (by kernel_rfl) rfl (ac rfl)) <| zU h40 rfl (aK bh rfl rfl) <| zU h40 rfl (bB bh rfl) <| zM h40 rfl <| zU h40 rfl (kb rfl rfl) <| zS rfl (aF (av := .v _) rfl h40 rfl) ?_;exact K _ 5 _ (az (kx h40)) rfl rfl
  refine ag <| ax rfl (fun c41 => ?_) (fun c41 => ?_)
  ·replace H := aW c41 H;refine af <| aa ?_;show AR _ _ _ _ _ [0] _;refine za rfl <| ag <| aG ?_;obtain rfl := aj H;exact And.intro rfl (Exists.intro _ (Exists.intro _ ⟨aD rfl (.refl _), aB [] rfl, rfl, rfl⟩))
  ·replace H := aX c41 H;refine aA <| bJ (X := Unit) (fun _ => ⟨[], [], []⟩) (fun _ => gm = some r2) ?_ ?_
   ·refine af <| aa ?_;show AR _ _ _ _ _ [0] _;refine za rfl <| ag <| aR <| de (X := Nat × Int) (fun (n44, y42) => ⟨[(6, .cp [S x32, slE (ab Enc.str (ab Enc.str (ab Enc.str (ab Enc.str Enc.int)))) x33 none]), (8, i64 y38), (9, i64 y42)], [], []⟩) (fun (n44, y42) => eN F x33 y38 n44 y42 = some r2) (fun (n44, y42) => n44) (F, 0) H (bc [] (.cons (.refl _) (.cons (.refl _) (.cons (.refl _) (.nil _)))) rfl) ?_;rintro ⟨n44, y42⟩ H;obtain ⟨n44, rfl, H⟩ := fa H;replace H : eP F x33 y38 (eN F x33 y38 n44) y42 = some r2 := H
    unfold eP at H
    refine af <| af <| aa ?_;show AR _ _ _ _ _ [0, 1, 2] _;refine zm rfl <| zm rfl <| zS rfl (bZ rfl rfl) <| ag <| ax rfl (fun c45 => ?_) (fun c45 => ?_)
    ·replace H := aW c45 H;refine aA <| af <| aR <| af ?_;obtain ⟨g46, H⟩ := aM H;obtain ⟨x47, e48, H⟩ := bO H;obtain ⟨x49, e50, H⟩ := ce H;refine cc (by kernel_rfl) ?_;show AI _ _ _ _ _ 9 (Array.replicate 9 false) _;refine zk 0 rfl (aN (n := 1) (by kernel_rfl) rfl (ac rfl)) ?_;show AI _ _ _ _ _ _ #[true, false, false, false, false, false, false, false, false] _;refine zk 1 rfl (aK bh rfl rfl) ?_;show AI _ _ _ _ _ _ #[true, true, false, false, false, false, false, false, false] _;refine zk 2 rfl (mv rfl) ?_;show AI _ _ _ _ _ _ #[true, true, true, false, false, false, false, false, false] _;refine zk 3 rfl (dn (E := (ab Enc.str (ab Enc.str (ab Enc.str (ab Enc.str Enc.int))))) bh (by kernel_rfl) rfl rfl g46 e48) ?_;show AI _ _ _ _ _ _ #[true, true, true, true, false, false, false, false, false] _;refine zk 4 rfl (aN (n := 0) (by kernel_rfl) rfl (ac rfl)) ?_;show AI _ _ _ _ _ _ #[true, true, true, true, true, false, false, false, false] _;refine zk 5 rfl (aK ai rfl rfl) ?_;show AI _ _ _ _ _ _ #[true, true, true, true, true, true, false, false, false] _;refine zk 6 rfl (mv rfl) ?_;show AI _ _ _ _ _ _ #[true, true, true, true, true, true, true, false, false] _;refine cf (i := 7) (by kernel_rfl) rfl rfl <| AIO.callp rfl np rfl (nj F y42 x49 e50) ?_;show AI _ _ _ _ _ _ #[true, true, true, true, true, true, true, true, false] _
     refine zk 8 rfl (lT rfl rfl) ?_;show AI _ _ _ _ _ _ #[true, true, true, true, true, true, true, true, true] _;refine cH rfl <| ax rfl (fun c51 => ?_) (fun c51 => ?_)
     ·replace H := aW c51 H;refine af <| aa ?_;show AR _ _ _ _ _ [0] _;refine za rfl <| ag <| aG ?_;obtain rfl := aj H;exact And.intro rfl (Exists.intro _ (Exists.intro _ ⟨aD rfl (.refl _), aB [] rfl, rfl, rfl⟩))
     ·replace H := aX c51 H;refine aA ?_;obtain ⟨g52, H⟩ := aM H;refine aa ?_;show AR _ _ _ _ _ [0, 1, 2] _;refine zm rfl <| zS rfl (cM rfl rfl g52) <| za rfl <| ag ?_;exact Exists.intro (n44, y42 + 1) ⟨H, Nat.lt_succ_self _, bc [] (.cons (.refl _) (.cons (.refl _) (.cons (.refl _) (.nil _)))) rfl⟩
    ·replace H := aX c45 H;refine cx ?_;exact Exists.intro () ⟨H, bc [] (.nil _) rfl⟩
   rintro _ H;replace H : gm = some r2 := H
   unfold gm at H
   refine af <| aa ?_;show AR _ _ _ _ _ [0] _;refine za rfl <| ag <| aG ?_;obtain rfl := aj H;exact And.intro rfl (Exists.intro _ (Exists.intro _ ⟨aD rfl (.refl _), aB [] rfl, rfl, rfl⟩))
end Go.Proofs.YtkbfjepffpddfaaGreatDoor
