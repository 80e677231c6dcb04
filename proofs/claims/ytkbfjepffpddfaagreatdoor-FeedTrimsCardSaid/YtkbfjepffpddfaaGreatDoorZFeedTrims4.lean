/-
  Texts in one (only what FeedTrims needs): EntBW, XmlAP, XmlAW, FdBP, FdBW, FdLP, FdLW, RefEP, RefEW, LFeedTrimsP.
-/
import Derived.Test.YtkbfjepffpddfaaGreatDoorZFeedTrims3
import Derived.Test.YtkbfjepffpddfaaGreatDoorShelf
import Derived.Lib.ItoaNum
import Derived.Lib.IndexLaws
import Derived.Test.YtkbfjepffpddfaaGreatDoorChecked
set_option linter.unusedVariables false
set_option linter.unusedSimpArgs false
set_option linter.unusedSectionVars false
namespace Go.Proofs.YtkbfjepffpddfaaGreatDoor
open Go.RowKit Go.Av Go.Pv
theorem pQ : ∀ (args : Array Value) (w : World), (callFunc 17 args).run Tryz.prog w = .ok (.enter 17 args) w := fun _ _ => by kernel_rfl
theorem yn : ∀ (args : Array Value) (w : World), (callFunc 19 args).run Tryz.prog w = .ok (.enter 19 args) w := fun _ _ => by kernel_rfl
theorem yi : ∀ (args : Array Value) (w : World), (callFunc 44 args).run Tryz.prog w = .ok (.enter 44 args) w := fun _ _ => by kernel_rfl
theorem tf : ∀ (args : Array Value) (w : World), (callFunc 61 args).run Tryz.prog w = .ok (.enter 61 args) w := fun _ _ => by kernel_rfl
theorem xZ : ∀ (args : Array Value) (w : World), (callFunc 70 args).run Tryz.prog w = .ok (.enter 70 args) w := fun _ _ => by kernel_rfl
theorem xW : ∀ (args : Array Value) (w : World), (callFunc 82 args).run Tryz.prog w = .ok (.enter 82 args) w := fun _ _ => by kernel_rfl
theorem xV : ∀ (args : Array Value) (w : World), (callFunc 91 args).run Tryz.prog w = .ok (.enter 91 args) w := fun _ _ => by kernel_rfl
theorem nD : ∀ (args : Array Value) (w : World), (callFunc 92 args).run Tryz.prog w = .ok (.enter 92 args) w := fun _ _ => by kernel_rfl
theorem xU : ∀ (args : Array Value) (w : World), (callFunc 93 args).run Tryz.prog w = .ok (.enter 93 args) w := fun _ _ => by kernel_rfl
theorem xT : ∀ (args : Array Value) (w : World), (callFunc 98 args).run Tryz.prog w = .ok (.enter 98 args) w := fun _ _ => by kernel_rfl
theorem td : ∀ (args : Array Value) (w : World), (callFunc 99 args).run Tryz.prog w = .ok (.enter 99 args) w := fun _ _ => by kernel_rfl
theorem wF : ∀ (args : Array Value) (w : World), (callFunc 102 args).run Tryz.prog w = .ok (.enter 102 args) w := fun _ _ => by kernel_rfl
theorem wE : ∀ (args : Array Value) (w : World), (callFunc 103 args).run Tryz.prog w = .ok (.enter 103 args) w := fun _ _ => by kernel_rfl
theorem wD : ∀ (args : Array Value) (w : World), (callFunc 104 args).run Tryz.prog w = .ok (.enter 104 args) w := fun _ _ => by kernel_rfl
set_option maxRecDepth 100000 in
set_option maxHeartbeats 1000000 in
theorem wg (F : Nat) (a1 : Int) (r2 : List UInt8) (r3 : Bool) (H : jl F a1 = some (r2, r3)) : ACalls Tryz.prog 104 [i64 a1] [] (Ret (.tup [S r2, B r3]) []) := by
 unfold jl at H
 refine ap Tryz.func104 rfl rfl ?_;show AW _ _ 35 _ _ _;refine af <| aa ?_;show AR _ _ _ _ _ [0, 1] _;refine za rfl <| za rfl <| ag <| af <| aa ?_;show AR _ _ _ _ _ [0, 1, 2, 3, 4, 5, 6, 7, 8, 9, 10] _;refine zm rfl <| zS rfl (bK rfl rfl) <| zm rfl <| aY (l := [6, 7, 8, 9, 10]) 10 (B ((decide (a1 = 9)) || (decide (a1 = 10)))) (fun K => ?_) ?_
 ·rcases al (decide (a1 = 9)) with h4 | h4
  ·refine zF h4 rfl <| zF h4 rfl <| zS rfl (aD (av := .v _) rfl h4 rfl) ?_;exact K _ 2 _ (ay (iQ h4)) rfl rfl
  ·refine zM h4 rfl <| zU h4 rfl (bK rfl rfl) <| zS rfl (aE (av := .v _) rfl h4 rfl) ?_;exact K _ 2 _ (ay (iR h4)) rfl rfl
 refine zm rfl <| aY (l := [10]) 14 (B (((decide (a1 = 9)) || (decide (a1 = 10))) || (decide (a1 = 13)))) (fun K => ?_) ?_
 ·rcases al ((decide (a1 = 9)) || (decide (a1 = 10))) with h5 | h5
  ·refine zF h5 rfl <| zF h5 rfl <| zS rfl (aD (av := .v _) rfl h5 rfl) ?_;exact K _ 2 _ (ay (iQ h5)) rfl rfl
  ·refine zM h5 rfl <| zU h5 rfl (bK rfl rfl) <| zS rfl (aE (av := .v _) rfl h5 rfl) ?_;exact K _ 2 _ (ay (iR h5)) rfl rfl
 refine za rfl <| ag <| af <| af ?_;obtain ⟨x7, e8, H⟩ := eY H;obtain ⟨x10, e11, H⟩ := eY H;obtain ⟨x13, e14, H⟩ := eY H;refine aa ?_;show AR _ _ _ _ _ [0, 1, 2, 3, 4, 5, 6, 7, 8, 9, 10, 11, 12, 13, 14, 15, 16] _;refine zm rfl <| zS rfl (bG rfl) <| zm rfl <| aY (l := [7, 8, 9, 10, 11, 12, 13, 14, 15, 16]) 21 (B ((!(((decide (a1 = 9)) || (decide (a1 = 10))) || (decide (a1 = 13)))) && (!x7))) (fun K => ?_) ?_
 ·rcases al (!(((decide (a1 = 9)) || (decide (a1 = 10))) || (decide (a1 = 13)))) with h6 | h6
  ·refine zM h6 rfl <| zT h6 rfl (aC rfl nD rfl (pj F a1 32 55295 x7 (e8 h6)) ?_);refine zU h6 rfl (bG rfl) <| zS rfl (aD (av := .v _) rfl h6 rfl) ?_;exact K _ 3 _ (ay (cz h6)) rfl rfl
  ·refine zF h6 rfl <| zF h6 rfl <| zF h6 rfl <| zS rfl (aE (av := .v _) rfl h6 rfl) ?_;exact K _ 3 _ (ay (cA h6)) rfl rfl
 refine zm rfl <| aY (l := [12, 13, 14, 15, 16]) 26 (B (((!(((decide (a1 = 9)) || (decide (a1 = 10))) || (decide (a1 = 13)))) && (!x7)) && (!x10))) (fun K => ?_) ?_
 ·rcases al ((!(((decide (a1 = 9)) || (decide (a1 = 10))) || (decide (a1 = 13)))) && (!x7)) with h9 | h9
  ·refine zM h9 rfl <| zT h9 rfl (aC rfl nD rfl (pj F a1 57344 65533 x10 (e11 h9)) ?_);refine zU h9 rfl (bG rfl) <| zS rfl (aD (av := .v _) rfl h9 rfl) ?_;exact K _ 3 _ (ay (cz h9)) rfl rfl
  ·refine zF h9 rfl <| zF h9 rfl <| zF h9 rfl <| zS rfl (aE (av := .v _) rfl h9 rfl) ?_;exact K _ 3 _ (ay (cA h9)) rfl rfl
 refine zm rfl <| aY (l := []) 31 (B ((((!(((decide (a1 = 9)) || (decide (a1 = 10))) || (decide (a1 = 13)))) && (!x7)) && (!x10)) && (!x13))) (fun K => ?_) ?_
 ·rcases al (((!(((decide (a1 = 9)) || (decide (a1 = 10))) || (decide (a1 = 13)))) && (!x7)) && (!x10)) with h12 | h12
  ·refine zM h12 rfl <| zT h12 rfl (aC rfl nD rfl (pj F a1 65536 1114111 x13 (e14 h12)) ?_);refine zU h12 rfl (bG rfl) <| zS rfl (aD (av := .v _) rfl h12 rfl) ?_;exact K _ 3 _ (ay (cz h12)) rfl rfl
  ·refine zF h12 rfl <| zF h12 rfl <| zF h12 rfl <| zS rfl (aE (av := .v _) rfl h12 rfl) ?_;exact K _ 3 _ (ay (cA h12)) rfl rfl
 refine ag <| ax rfl (fun c15 => ?_) (fun c15 => ?_)
 ·replace H := aW c15 H;refine af <| aa ?_;show AR _ _ _ _ _ [0, 1] _;refine za rfl <| za rfl <| ag <| aI ?_;obtain ⟨rfl, rfl⟩ := dx H;exact And.intro rfl (Exists.intro _ (Exists.intro _ ⟨bm rfl (.refl _) (.refl _), aB [] rfl, rfl, rfl⟩))
 ·replace H := aX c15 H;refine aA <| af ?_;obtain ⟨g16, H⟩ := aN H;obtain ⟨x17, e18, H⟩ := bR H;refine aa ?_;show AR _ _ _ _ _ [0, 1, 2, 3, 4] _;refine zm rfl <| zS rfl (sV (by kernel_rfl) Tryz.underlying21 rfl g16) <| zS rfl (oD Tryz.underlying21 ai rfl e18) <| za rfl <| za rfl <| ag <| aI ?_;obtain ⟨rfl, rfl⟩ := dx H;exact And.intro rfl (Exists.intro _ (Exists.intro _ ⟨bm rfl (.refl _) (.refl _), aB [] rfl, rfl, rfl⟩))
abbrev _root_.Go.Av.eA := @Tryz.underlying129
set_option maxRecDepth 100000 in
set_option maxHeartbeats 1000000 in
theorem uO (F : Nat) (r1 : List (List UInt8 × Int)) (H : kJ F = some r1) : ACalls Tryz.prog 98 [] [] (Ret (mpI .i32 r1) []) := by
 unfold kJ at H
 refine ap Tryz.func98 rfl rfl ?_;show AW _ _ 3 _ _ _;refine af <| aa ?_;show AR _ _ _ _ _ [0] _;refine za rfl <| ag <| af <| aa ?_;show AR _ _ _ _ _ [0, 1, 2, 3, 4, 5, 6, 7] _;refine AM.make (k := .i32) rfl rfl <| AM.insert (s := ([97, 109, 112] : List UInt8)) rfl eA ai rfl (by decide) <| AM.insert (s := ([108, 116] : List UInt8)) rfl eA ai rfl (by decide) <| AM.insert (s := ([103, 116] : List UInt8)) rfl eA ai rfl (by decide) <| AM.insert (s := ([113, 117, 111, 116] : List UInt8)) rfl eA ai rfl (by decide) <| AM.insert (s := ([97, 112, 111, 115] : List UInt8)) rfl eA ai rfl (by decide) <| AM.done (es := ([(([97, 109, 112] : List UInt8), 38), (([108, 116] : List UInt8), 60), (([103, 116] : List UInt8), 62), (([113, 117, 111, 116] : List UInt8), 34), (([97, 112, 111, 115] : List UInt8), 39)] : List (List UInt8 × Int))) <| zS rfl (ah (av := mpI _ _) rfl) <| zS rfl (aJ (av := mpI _ _) rfl) <| ag <| aI ?_;obtain rfl := ak H;exact And.intro rfl (Exists.intro _ (Exists.intro _ ⟨aG rfl (.refl _), aB [] rfl, rfl, rfl⟩))
set_option maxRecDepth 100000 in
set_option maxHeartbeats 1000000 in
theorem oW (F : Nat) (a1 : List UInt8) (a2 : Int) (r3 : List UInt8) (r4 : Bool) (H : dQ F a1 a2 = some (r3, r4)) : ACalls Tryz.prog 99 [S a1, i64 a2] [] (Ret (.tup [S r3, B r4]) []) := by
 unfold dQ at H
 refine ap Tryz.func99 rfl rfl ?_;show AW _ _ 41 _ _ _;refine af <| aa ?_;show AR _ _ _ _ _ [0, 1] _;refine za rfl <| za rfl <| ag <| af <| af ?_;obtain ⟨g6, H⟩ := cQ H;obtain ⟨x7, e8, H⟩ := bR H;obtain ⟨g10, H⟩ := cQ H;obtain ⟨x11, e12, H⟩ := bR H;obtain ⟨g14, H⟩ := cQ H;obtain ⟨x15, e16, H⟩ := bR H;obtain ⟨x18, e19, H⟩ := eY H;refine aa ?_;show AR _ _ _ _ _ [0, 1, 2, 3, 4, 5, 6, 7, 8, 9, 10, 11, 12, 13, 14, 15, 16, 17, 18, 19, 20] _;refine zm rfl <| zS rfl (dR rfl rfl) <| zm rfl <| aY (l := [7, 8, 9, 10, 11, 12, 13, 14, 15, 16, 17, 18, 19, 20]) 14 (B ((decide (a1 = ([] : List UInt8))) || (decide (x7 = 43)))) (fun K => ?_) ?_
 ·rcases al (decide (a1 = ([] : List UInt8))) with h5 | h5
  ·refine zF h5 rfl <| zF h5 rfl <| zF h5 rfl <| zS rfl (aD (av := .v _) rfl h5 rfl) ?_;exact K _ 3 _ (ay (iQ h5)) rfl rfl
  ·refine zM h5 rfl <| zU h5 rfl (bp ai rfl rfl (g6 (nf h5)) e8) <| zU h5 rfl (gK (a := x7) (b := 43) rfl rfl) <| zS rfl (aE (av := .v _) rfl h5 rfl) ?_;exact K _ 3 _ (ay (iR h5)) rfl rfl
 refine zm rfl <| aY (l := [12, 13, 14, 15, 16, 17, 18, 19, 20]) 19 (B (((decide (a1 = ([] : List UInt8))) || (decide (x7 = 43))) || (decide (x11 = 45)))) (fun K => ?_) ?_
 ·rcases al ((decide (a1 = ([] : List UInt8))) || (decide (x7 = 43))) with h9 | h9
  ·refine zF h9 rfl <| zF h9 rfl <| zF h9 rfl <| zS rfl (aD (av := .v _) rfl h9 rfl) ?_;exact K _ 3 _ (ay (iQ h9)) rfl rfl
  ·refine zM h9 rfl <| zU h9 rfl (bp ai rfl rfl (g10 (nf h9)) e12) <| zU h9 rfl (gK (a := x11) (b := 45) rfl rfl) <| zS rfl (aE (av := .v _) rfl h9 rfl) ?_;exact K _ 3 _ (ay (iR h9)) rfl rfl
 refine zm rfl <| aY (l := [17, 18, 19, 20]) 24 (B ((((decide (a1 = ([] : List UInt8))) || (decide (x7 = 43))) || (decide (x11 = 45))) || (decide (x15 = 95)))) (fun K => ?_) ?_
 ·rcases al (((decide (a1 = ([] : List UInt8))) || (decide (x7 = 43))) || (decide (x11 = 45))) with h13 | h13
  ·refine zF h13 rfl <| zF h13 rfl <| zF h13 rfl <| zS rfl (aD (av := .v _) rfl h13 rfl) ?_;exact K _ 3 _ (ay (iQ h13)) rfl rfl
  ·refine zM h13 rfl <| zU h13 rfl (bp ai rfl rfl (g14 (nf h13)) e16) <| zU h13 rfl (gK (a := x15) (b := 95) rfl rfl) <| zS rfl (aE (av := .v _) rfl h13 rfl) ?_;exact K _ 3 _ (ay (iR h13)) rfl rfl
 refine zm rfl <| aY (l := []) 28 (B (((((decide (a1 = ([] : List UInt8))) || (decide (x7 = 43))) || (decide (x11 = 45))) || (decide (x15 = 95))) || x18)) (fun K => ?_) ?_
 ·rcases al ((((decide (a1 = ([] : List UInt8))) || (decide (x7 = 43))) || (decide (x11 = 45))) || (decide (x15 = 95))) with h17 | h17
  ·refine zF h17 rfl <| zF h17 rfl <| zS rfl (aD (av := .v _) rfl h17 rfl) ?_;exact K _ 2 _ (ay (iQ h17)) rfl rfl
  ·refine zM h17 rfl <| zT h17 rfl (aC rfl wF rfl (sd F a1 ([95] : List UInt8) x18 (e19 (nf h17))) ?_);refine zS rfl (aE (av := .v _) rfl h17 rfl) ?_;exact K _ 2 _ (ay (iR h17)) rfl rfl
 refine ag <| ax rfl (fun c20 => ?_) (fun c20 => ?_)
 ·replace H := aW c20 H;refine af <| aa ?_;show AR _ _ _ _ _ [0, 1] _;refine za rfl <| za rfl <| ag <| aI ?_;obtain ⟨rfl, rfl⟩ := dx H;exact And.intro rfl (Exists.intro _ (Exists.intro _ ⟨bm rfl (.refl _) (.refl _), aB [] rfl, rfl, rfl⟩))
 ·replace H := aX c20 H;refine aA <| af ?_;obtain ⟨x21, x22, e23, H⟩ := cF H;refine aa ?_;show AR _ _ _ _ _ [0, 1, 2, 3, 4, 5, 6, 7] _;refine zm rfl <| zm rfl <| am rfl rfl (aC rfl wE rfl (ou F a1 a2 0 x21 x22 e23) ?_);refine zS rfl (ah (av := .tup _) rfl) <| zS rfl (az (av := .v _) rfl rfl) <| zS rfl (az (av := eAny _ _) rfl rfl) <| za rfl <| zS rfl (aJ (av := eAny _ _) rfl) <| ag <| af <| af <| aa ?_;show AR _ _ _ _ _ [0, 1] _;refine zS rfl (ah (av := eAny _ _) rfl) <| zS rfl (ww eN rfl rfl) <| ag <| ax rfl (fun c24 => ?_) (fun c24 => ?_)
  ·replace H := aW c24 H;refine af <| aa ?_;show AR _ _ _ _ _ [0, 1] _;refine za rfl <| za rfl <| ag <| aI ?_;obtain ⟨rfl, rfl⟩ := dx H;exact And.intro rfl (Exists.intro _ (Exists.intro _ ⟨bm rfl (.refl _) (.refl _), aB [] rfl, rfl, rfl⟩))
  ·replace H := aX c24 H;refine aA <| af ?_;obtain ⟨x25, x26, e27, H⟩ := cF H;refine aa ?_;show AR _ _ _ _ _ [0, 1, 2, 3, 4, 5] _;refine zm rfl <| am rfl rfl (aC rfl wD rfl (wg F x21 x25 x26 e27) ?_);refine zS rfl (az (av := .v _) rfl rfl) <| zS rfl (az (av := .v _) rfl rfl) <| za rfl <| za rfl <| ag <| aI ?_;obtain ⟨rfl, rfl⟩ := dx H;exact And.intro rfl (Exists.intro _ (Exists.intro _ ⟨bm rfl (.refl _) (.refl _), aB [] rfl, rfl, rfl⟩))
set_option maxRecDepth 100000 in
set_option maxHeartbeats 1000000 in
theorem wa (F : Nat) (a1 : List UInt8) (r2 : List UInt8) (r3 : Bool) (H : iq F a1 = some (r2, r3)) : ACalls Tryz.prog 93 [S a1] [] (Ret (.tup [S r2, B r3]) []) := by
 unfold iq at H
 refine ap Tryz.func93 rfl rfl ?_;show AW _ _ 39 _ _ _;refine af <| aa ?_;show AR _ _ _ _ _ [0, 1] _;refine za rfl <| za rfl <| ag <| af <| af ?_;obtain ⟨x4, e5, H⟩ := cd H;refine aa ?_;show AR _ _ _ _ _ [0, 1, 2, 3, 4, 5, 6, 7] _;refine am rfl rfl (aC rfl xT rfl (uO F x4 e5) ?_);refine zm rfl <| zS rfl (xO eA ai (fun _ => by kernel_rfl) rfl rfl) <| zS rfl (ah (av := .tup _) rfl) <| zS rfl (az (av := .v _) rfl rfl) <| zS rfl (az (av := .v _) rfl rfl) <| za rfl <| za rfl <| ag <| af <| aa ?_;show AR _ _ _ _ _ [0] _;refine zm rfl <| ag <| ax rfl (fun c6 => ?_) (fun c6 => ?_)
 ·replace H := aW c6 H;refine af ?_;obtain ⟨x7, e8, H⟩ := bR H;refine aa ?_;show AR _ _ _ _ _ [0, 1, 2, 3] _;refine zm rfl <| zS rfl (oD Tryz.underlying21 ai rfl e8) <| za rfl <| za rfl <| ag <| aI ?_;obtain ⟨rfl, rfl⟩ := dx H;exact And.intro rfl (Exists.intro _ (Exists.intro _ ⟨bm rfl (.refl _) (.refl _), aB [] rfl, rfl, rfl⟩))
 ·replace H := aX c6 H;refine aA <| af <| af ?_;obtain ⟨x9, e10, H⟩ := bR H;refine aa ?_;show AR _ _ _ _ _ [0, 1, 2, 3, 4, 5, 6] _;refine zm rfl <| am rfl rfl (aC rfl tf rfl (show ACalls _ _ _ [] (Ret (.tup [S x9.1, B x9.2]) []) from by subst e10; exact lD a1 ([35, 120] : List UInt8)) ?_);refine zS rfl (ah (av := .tup _) rfl) <| zS rfl (az (av := .v _) rfl rfl) <| zS rfl (az (av := .v _) rfl rfl) <| za rfl <| za rfl <| ag <| af <| aa ?_;show AR _ _ _ _ _ [0] _;refine zm rfl <| ag <| ax rfl (fun c11 => ?_) (fun c11 => ?_)
  ·replace H := aW c11 H;refine af ?_;obtain ⟨x12, x13, e14, H⟩ := cF H;refine aa ?_;show AR _ _ _ _ _ [0, 1, 2, 3, 4, 5] _;refine zm rfl <| am rfl rfl (aC rfl td rfl (oW F x9.1 16 x12 x13 e14) ?_);refine zS rfl (az (av := .v _) rfl rfl) <| zS rfl (az (av := .v _) rfl rfl) <| za rfl <| za rfl <| ag <| aI ?_;obtain ⟨rfl, rfl⟩ := dx H;exact And.intro rfl (Exists.intro _ (Exists.intro _ ⟨bm rfl (.refl _) (.refl _), aB [] rfl, rfl, rfl⟩))
  ·replace H := aX c11 H;refine aA <| af <| af ?_;obtain ⟨x15, e16, H⟩ := bR H;refine aa ?_;show AR _ _ _ _ _ [0, 1, 2, 3, 4, 5, 6] _;refine zm rfl <| am rfl rfl (aC rfl tf rfl (show ACalls _ _ _ [] (Ret (.tup [S x15.1, B x15.2]) []) from by subst e16; exact lD a1 ([35] : List UInt8)) ?_);refine zS rfl (ah (av := .tup _) rfl) <| zS rfl (az (av := .v _) rfl rfl) <| zS rfl (az (av := .v _) rfl rfl) <| za rfl <| za rfl <| ag <| af <| aa ?_;show AR _ _ _ _ _ [0] _;refine zm rfl <| ag <| ax rfl (fun c17 => ?_) (fun c17 => ?_)
   ·replace H := aW c17 H;refine af ?_;obtain ⟨x18, x19, e20, H⟩ := cF H;refine aa ?_;show AR _ _ _ _ _ [0, 1, 2, 3, 4, 5] _;refine zm rfl <| am rfl rfl (aC rfl td rfl (oW F x15.1 10 x18 x19 e20) ?_);refine zS rfl (az (av := .v _) rfl rfl) <| zS rfl (az (av := .v _) rfl rfl) <| za rfl <| za rfl <| ag <| aI ?_;obtain ⟨rfl, rfl⟩ := dx H;exact And.intro rfl (Exists.intro _ (Exists.intro _ ⟨bm rfl (.refl _) (.refl _), aB [] rfl, rfl, rfl⟩))
   ·replace H := aX c17 H;refine aA <| af <| aa ?_;show AR _ _ _ _ _ [0, 1] _;refine za rfl <| za rfl <| ag <| aI ?_;obtain ⟨rfl, rfl⟩ := dx H;exact And.intro rfl (Exists.intro _ (Exists.intro _ ⟨bm rfl (.refl _) (.refl _), aB [] rfl, rfl, rfl⟩))
set_option maxRecDepth 100000 in
set_option maxHeartbeats 1000000 in
theorem uP (F : Nat) (a1 : List UInt8) (r2 : List UInt8) (r3 : Int) (H : jB F a1 = some (r2, r3)) : ACalls Tryz.prog 82 [S a1] [] (Ret (.tup [S r2, i64 r3]) []) := by
 unfold jB at H
 refine ap Tryz.func82 rfl rfl ?_;show AW _ _ 33 _ _ _;refine af <| aa ?_;show AR _ _ _ _ _ [0, 1] _;refine za rfl <| za rfl <| ag <| af ?_;obtain ⟨g4, H⟩ := aN H;obtain ⟨x5, e6, H⟩ := bR H;obtain ⟨g7, H⟩ := aN H;obtain ⟨g8, H⟩ := aN H;obtain ⟨g9, H⟩ := aN H;obtain ⟨x10, e11, H⟩ := cd H;refine aa ?_;show AR _ _ _ _ _ [0, 1, 2, 3] _;refine zm rfl <| zS rfl (eD ai rfl rfl g4 e6) <| am rfl rfl (aC rfl xV rfl (pb F x5 ([38, 59] : List UInt8) x10 g7 g8 g9 e11) ?_);refine za rfl <| ag <| af <| af ?_;obtain ⟨x12, e13, H⟩ := cd H;obtain ⟨g15, H⟩ := cQ H;obtain ⟨g16, H⟩ := cQ H;obtain ⟨x17, e18, H⟩ := bR H;refine aa ?_;show AR _ _ _ _ _ [0, 1, 2, 3, 4, 5, 6, 7, 8, 9] _;refine zm rfl <| am rfl rfl (aC rfl nD rfl (pj F x10 1 10 x12 e13) ?_);refine zS rfl (bG rfl) <| zm rfl <| aY (l := []) 19 (B ((!x12) || (decide (x17 = 38)))) (fun K => ?_) ?_
 ·rcases al (!x12) with h14 | h14
  ·refine zF h14 rfl <| zF h14 rfl <| zF h14 rfl <| zF h14 rfl <| zF h14 rfl <| zS rfl (aD (av := .v _) rfl h14 rfl) ?_;exact K _ 5 _ (ay (iQ h14)) rfl rfl
  ·refine zM h14 rfl <| zM h14 rfl <| zU h14 rfl (cX rfl rfl (g15 (nf h14))) <| zU h14 rfl (bp ai rfl rfl (g16 (nf h14)) e18) <| zU h14 rfl (gK (a := x17) (b := 38) rfl rfl) <| zS rfl (aE (av := .v _) rfl h14 rfl) ?_;exact K _ 5 _ (ay (iR h14)) rfl rfl
 refine ag <| ax rfl (fun c19 => ?_) (fun c19 => ?_)
 ·replace H := aW c19 H;refine af <| aa ?_;show AR _ _ _ _ _ [0, 1] _;refine za rfl <| za rfl <| ag <| aI ?_;obtain ⟨rfl, rfl⟩ := dx H;exact And.intro rfl (Exists.intro _ (Exists.intro _ ⟨bm rfl (.refl _) (.refl _), aB [] rfl, rfl, rfl⟩))
 ·replace H := aX c19 H;refine aA <| af ?_;obtain ⟨g20, H⟩ := aN H;obtain ⟨g21, H⟩ := aN H;obtain ⟨x22, e23, H⟩ := bR H;obtain ⟨x24, x25, e26, H⟩ := cF H;refine aa ?_;show AR _ _ _ _ _ [0, 1, 2, 3, 4, 5, 6, 7, 8, 9] _;refine zm rfl <| zm rfl <| zS rfl (cX rfl rfl g20) <| zS rfl (qj ai rfl rfl rfl g21 e23) <| am rfl rfl (aC rfl xU rfl (wa F x22 x24 x25 e26) ?_);refine zS rfl (ah (av := .tup _) rfl) <| zS rfl (az (av := .v _) rfl rfl) <| zS rfl (az (av := .v _) rfl rfl) <| za rfl <| za rfl <| ag <| af <| af <| aa ?_;show AR _ _ _ _ _ [0, 1] _;refine zm rfl <| zS rfl (bG rfl) <| ag <| ax rfl (fun c27 => ?_) (fun c27 => ?_)
  ·replace H := aW c27 H;refine af <| aa ?_;show AR _ _ _ _ _ [0, 1] _;refine za rfl <| za rfl <| ag <| aI ?_;obtain ⟨rfl, rfl⟩ := dx H;exact And.intro rfl (Exists.intro _ (Exists.intro _ ⟨bm rfl (.refl _) (.refl _), aB [] rfl, rfl, rfl⟩))
  ·replace H := aX c27 H;refine aA <| af ?_;obtain ⟨g28, H⟩ := aN H;refine aa ?_;show AR _ _ _ _ _ [0, 1, 2, 3, 4] _;refine zm rfl <| zm rfl <| zS rfl (cX rfl rfl g28) <| za rfl <| za rfl <| ag <| aI ?_;obtain ⟨rfl, rfl⟩ := dx H;exact And.intro rfl (Exists.intro _ (Exists.intro _ ⟨bm rfl (.refl _) (.refl _), aB [] rfl, rfl, rfl⟩))
set_option maxRecDepth 100000 in
set_option maxHeartbeats 1000000 in
theorem we (F : Nat) (a1 : List UInt8) (r2 : List UInt8) (r3 : Bool) (H : nw F a1 = some (r2, r3)) : ACalls Tryz.prog 70 [S a1] [] (Ret (.tup [S r2, B r3]) []) := by
 unfold nw at H
 refine ap Tryz.func70 rfl rfl ?_;show AW _ _ 36 _ _ _;refine af <| aa ?_;show AR _ _ _ _ _ [0, 1] _;refine za rfl <| za rfl <| ag <| af <| aa ?_;show AR _ _ _ _ _ [0] _;refine zX rfl (oC (zs := [(.pointer none), .slice none 0 0]) (by kernel_rfl)) ?_;rintro _ _ ⟨o4, rfl, rfl⟩;refine ag ?_
 refine ji 0 1 1 5 rfl rfl fun t5 => ?_
 show AW _ _ _ _ _ ⟨_, _, [.tok t5 5, .obj o4 [.v (.pointer none), slE Enc.byte [] (some t5)], .ty o4 51]⟩;refine af <| aa ?_;show AR _ _ _ _ _ [0] _;refine za rfl <| ag <| aR <| de (X := Nat × (List UInt8) × Bool × AV × (List UInt8) × Nat) (fun (n12, y6, y7, t8, y9, t10) => ⟨[(0, S y6), (4, .pt o4 0), (5, B y7)], [], [.obj o4 [t8, slE Enc.byte y9 (some t10)], .ty o4 51, .tok t10 5]⟩) (fun (n12, y6, y7, t8, y9, t10) => eO F n12 (y6, y7, y9) = some (r2, r3) ∧ (t8 = .v (.pointer none) ∨ t8 = .pt o4 0)) (fun (n12, y6, y7, t8, y9, t10) => n12) (F, a1, true, (.v (.pointer none)), [], t5) ⟨H, .inl rfl⟩ (bb [1, 1, 0] (.cons (.refl _) (.cons (.refl _) (.cons (.refl _) (.nil _)))) rfl) ?_;rintro ⟨n12, y6, y7, t8, y9, t10⟩ ⟨H, ht8⟩;obtain ⟨n12, rfl, H⟩ := eX H;replace H : gt F (eO F n12) y6 y7 y9 = some (r2, r3) := H
 unfold gt at H
 refine aR <| af ?_;obtain ⟨x13, e14, H⟩ := bR H;refine aa ?_;show AR _ _ _ _ _ [0, 1, 2] _;refine zm rfl <| am rfl rfl (aC rfl yi rfl (show ACalls _ _ _ [] (Ret (i64 x13) []) from by subst e14; exact eS y6 38) ?_);refine za rfl <| ag <| af <| af <| aa ?_;show AR _ _ _ _ _ [0, 1] _;refine zm rfl <| zS rfl (bX rfl rfl) <| ag <| ax rfl (fun c15 => ?_) (fun c15 => ?_)
 ·replace H := aW c15 H;refine af ?_;obtain ⟨g16, H⟩ := aN H;obtain ⟨x17, e18, H⟩ := bR H;refine aa ?_;show AR _ _ _ _ _ [0, 1] _;refine zm rfl <| am rfl rfl (aQ [0, 0, 0] rfl pQ rfl (cy  o4 (t8) ht8 y9 y6 t10 (vR g16)) rfl (fun c A' h => by cases h.1) ?_)
  rintro av A' ⟨h, t19, rfl⟩; cases h
  rw [e18]
  refine ag <| af ?_;obtain ⟨g20, H⟩ := aN H;refine aa ?_;show AR _ _ _ _ _ [0, 1, 2, 3] _;refine am rfl rfl (aQ [0, 1] rfl yn rfl (kh  o4 (.pt o4 0) x17 t19 (okW0_s g20)) rfl (fun c A' h => by cases h.1) ?_)
  rintro av A' ⟨h, rfl⟩; cases h
  refine zm rfl <| za rfl <| za rfl <| ag <| aI ?_;obtain ⟨rfl, rfl⟩ := dx H;exact And.intro rfl (Exists.intro _ (Exists.intro _ ⟨bm rfl (.refl _) (.refl _), aB [] rfl, rfl, rfl⟩))
 ·replace H := aX c15 H;refine aA <| af ?_;obtain ⟨g21, H⟩ := aN H;obtain ⟨x22, e23, H⟩ := bR H;obtain ⟨g24, H⟩ := aN H;obtain ⟨x25, e26, H⟩ := bR H;refine aa ?_;show AR _ _ _ _ _ [0, 1, 2, 3] _;refine zm rfl <| zm rfl <| zS rfl (la ai rfl rfl g21 e23) <| am rfl rfl (aQ [0, 0, 0] rfl pQ rfl (cy  o4 (t8) ht8 y9 x22 t10 (vR g24)) rfl (fun c A' h => by cases h.1) ?_)
  rintro av A' ⟨h, t27, rfl⟩; cases h
  rw [e26]
  refine ag <| af ?_;obtain ⟨g28, H⟩ := aN H;obtain ⟨x29, e30, H⟩ := bR H;refine aa ?_;show AR _ _ _ _ _ [0, 1, 2, 3] _;refine zm rfl <| zm rfl <| zS rfl (eD ai rfl rfl g28 e30) <| za rfl <| ag <| af ?_;obtain ⟨x31, x32, e33, H⟩ := cF H;refine aa ?_;show AR _ _ _ _ _ [0, 1, 2, 3, 4, 5, 6] _;refine zm rfl <| am rfl rfl (aC rfl xW rfl (uP F x29 x31 x32 e33) ?_);refine zS rfl (ah (av := .tup _) rfl) <| zS rfl (az (av := .v _) rfl rfl) <| zS rfl (az (av := .v _) rfl rfl) <| za rfl <| za rfl <| ag <| bJ (X := Bool × (List UInt8) × Int) (fun (y35, y36, y37) => ⟨[(0, S x29), (4, .pt o4 0), (5, B y35), (7, S y36), (8, i64 y37)], [], [.obj o4 [.pt o4 0, slE Enc.byte x25 (some t27)], .ty o4 51, .tok t27 5]⟩) (fun (y35, y36, y37) => gr (eO F n12) x25 x29 y35 y36 y37 = some (r2, r3)) ?_ ?_
  ·refine af <| aa ?_;show AR _ _ _ _ _ [0, 1] _;refine zm rfl <| zS rfl (bK rfl rfl) <| ag <| ax rfl (fun c34 => ?_) (fun c34 => ?_)
   ·replace H := aW c34 H;refine aa ?_;show AR _ _ _ _ _ [0, 1, 2] _;refine za rfl <| za rfl <| za rfl <| ag ?_;exact Exists.intro (false, ([38] : List UInt8), 1) ⟨H, bb [0, 0, 0] (.cons (.refl _) (.cons (.refl _) (.cons (.refl _) (.cons (.refl _) (.cons (.refl _) (.nil _)))))) rfl⟩
   ·replace H := aX c34 H;refine aA ?_;exact Exists.intro (y7, x31, x32) ⟨H, bb [0, 0, 0] (.cons (.refl _) (.cons (.refl _) (.cons (.refl _) (.cons (.refl _) (.cons (.refl _) (.nil _)))))) rfl⟩
  rintro ⟨y35, y36, y37⟩ H;replace H : gr (eO F n12) x25 x29 y35 y36 y37 = some (r2, r3) := H
  unfold gr at H
  refine af ?_;obtain ⟨g39, H⟩ := aN H;obtain ⟨x40, e41, H⟩ := bR H;refine aa ?_;show AR _ _ _ _ _ [0, 1] _;refine zm rfl <| am rfl rfl (aQ [0, 0, 0] rfl pQ rfl (cy  o4 (.pt o4 0) (.inr rfl) x25 y36 t27 (vR g39)) rfl (fun c A' h => by cases h.1) ?_)
  rintro av A' ⟨h, t42, rfl⟩; cases h
  rw [e41]
  refine ag ?_;obtain ⟨g43, H⟩ := aN H;obtain ⟨x44, e45, H⟩ := bR H;refine aa ?_;show AR _ _ _ _ _ [0, 1, 2, 3] _;refine zm rfl <| zm rfl <| zS rfl (eD ai rfl rfl g43 e45) <| za rfl <| ag ?_;exact Exists.intro (n12, x44, y35, (.pt o4 0), x40, t42) ⟨⟨H, .inr rfl⟩, Nat.lt_succ_self _, bb [0, 0, 0] (.cons (.refl _) (.cons (.refl _) (.cons (.refl _) (.nil _)))) rfl⟩
set_option maxRecDepth 100000 in
set_option maxHeartbeats 1000000 in
theorem tW (F : Nat) (a1 : List UInt8) (r2 : List UInt8) (r3 : Int) (H : kX F a1 = some (r2, r3)) : ACalls Tryz.prog 60 [S a1] [] (Ret (.tup [S r2, i64 r3]) []) := by
 unfold kX at H
 refine ap Tryz.func60 rfl rfl ?_;show AW _ _ 14 _ _ _;refine af <| aa ?_;show AR _ _ _ _ _ [0, 1] _;refine za rfl <| za rfl <| ag <| af ?_;obtain ⟨x4, x5, e6, H⟩ := cF H;refine aa ?_;show AR _ _ _ _ _ [0, 1, 2, 3, 4, 5, 6] _;refine zm rfl <| am rfl rfl (aC rfl xZ rfl (we F a1 x4 x5 e6) ?_);refine zS rfl (ah (av := .tup _) rfl) <| zS rfl (az (av := .v _) rfl rfl) <| zS rfl (az (av := .v _) rfl rfl) <| za rfl <| za rfl <| ag <| af <| af <| aa ?_;show AR _ _ _ _ _ [0, 1] _;refine zm rfl <| zS rfl (bG rfl) <| ag <| ax rfl (fun c7 => ?_) (fun c7 => ?_)
 ·replace H := aW c7 H;refine af <| aa ?_;show AR _ _ _ _ _ [0, 1] _;refine za rfl <| za rfl <| ag <| aI ?_;obtain ⟨rfl, rfl⟩ := dx H;exact And.intro rfl (Exists.intro _ (Exists.intro _ ⟨bm rfl (.refl _) (.refl _), aB [] rfl, rfl, rfl⟩))
 ·replace H := aX c7 H;refine aA <| af <| aa ?_;show AR _ _ _ _ _ [0, 1, 2] _;refine zm rfl <| za rfl <| za rfl <| ag <| aI ?_;obtain ⟨rfl, rfl⟩ := dx H;exact And.intro rfl (Exists.intro _ (Exists.intro _ ⟨bm rfl (.refl _) (.refl _), aB [] rfl, rfl, rfl⟩))
end Go.Proofs.YtkbfjepffpddfaaGreatDoor
namespace Go.Pv
def xmla_k1 : List UInt8 := [65, 66, 67, 68, 69, 70, 71, 72, 73, 74, 75, 76, 77, 78, 79, 80, 81, 82, 83, 84, 85, 86, 87, 88, 89, 90, 97, 98, 99, 100, 101, 102, 103, 104, 105, 106, 107, 108, 109, 110, 111, 112, 113, 114, 115, 116, 117, 118, 119, 120, 121, 122, 95, 48, 49, 50, 51, 52, 53, 54, 55, 56, 57, 45, 46, 58]
def xmla_k2 : List UInt8 := [65, 66, 67, 68, 69, 70, 71, 72, 73, 74, 75, 76, 77, 78, 79, 80, 81, 82, 83, 84, 85, 86, 87, 88, 89, 90, 97, 98, 99, 100, 101, 102, 103, 104, 105, 106, 107, 108, 109, 110, 111, 112, 113, 114, 115, 116, 117, 118, 119, 120, 121, 122, 95]
def li : Option Bool :=
some true
def jN (a1 : List UInt8) (rec4 : Int → Option Bool) (y3 : Int) : Option Bool :=
bif decide (y3 < (a1.length : Int)) then
  grd (dr y3 a1.length) <|
  lt (at_ a1 y3) fun x8 =>
  lt (Go.Lib.indexByte xmla_k1 x8) fun x10 =>
  bif decide (x10 < 0) then
    some false
  else
    grd (okI (y3 + 1)) <|
    rec4 (y3 + 1)
else
  li
def jM (a1 : List UInt8) (n : Nat) : Int → Option Bool :=
  loop (fun rec x => jN a1 rec x) n
def ph (F : Nat) (a1 : List UInt8) : Option Bool :=
jM a1 F 0
def pu (F : Nat) (a1 : List UInt8) : Option Bool :=
fq ((!decide (a1 = ([] : List UInt8))) && (decide ((a1.length : Int) ≤ 60))) (kj 1 a1.length) <|
lt (to_ a1 1) fun x6 =>
fq ((!decide (a1 = ([] : List UInt8))) && (decide ((a1.length : Int) ≤ 60))) (okS xmla_k2.length) <|
lt (Go.Lib.contains xmla_k2 x6) fun x9 =>
fq (((!decide (a1 = ([] : List UInt8))) && (decide ((a1.length : Int) ≤ 60))) && x9) (okS a1.length) <|
fq (((!decide (a1 = ([] : List UInt8))) && (decide ((a1.length : Int) ≤ 60))) && x9) (okS xmla_k1.length) <|
fq (((!decide (a1 = ([] : List UInt8))) && (decide ((a1.length : Int) ≤ 60))) && x9) (iV xmla_k1) <|
lt (Go.Lib.trimS a1 xmla_k1) fun x15 =>
kz ((((!decide (a1 = ([] : List UInt8))) && (decide ((a1.length : Int) ≤ 60))) && x9) && (decide (x15 = ([] : List UInt8)))) (ph F a1) fun x18 =>
some (((((!decide (a1 = ([] : List UInt8))) && (decide ((a1.length : Int) ≤ 60))) && x9) && (decide (x15 = ([] : List UInt8)))) && x18)
def cI (F : Nat) (a1 : Bool) : Option (Res Unit) :=
bif !a1 then
  some (Res.pan 2)
else
  some (Res.ok ())
def ff (F : Nat) (a2 : List UInt8) (a3 : List (List UInt8)) (a5 : Int) (a6 : List (Int × (List UInt8) × (List UInt8) × List ((List UInt8) × List UInt8))) (a8 : List UInt8) : Option (Bool × (List UInt8)) :=
lt (Go.Lib.trimPrefix a2 a8, Go.Lib.hasPrefix a2 a8) fun x11 =>
some (x11.2, x11.1)
def iC (F : Nat) (a2 : List UInt8) (a3 : List (List UInt8)) (a5 : Int) (a6 : List (Int × (List UInt8) × (List UInt8) × List ((List UInt8) × List UInt8))) (a8 : List UInt8) : Option (Res ((List UInt8) × (List UInt8))) :=
grd (okS a2.length) <|
lt (Go.Lib.cut a2 a8) fun x12 =>
eF (cI F x12.2.2) fun x14 =>
some (Res.ok (x12.1, x12.2.1))
def kE (F : Nat) (a2 : List UInt8) (a3 : List (List UInt8)) (a5 : Int) (a6 : List (Int × (List UInt8) × (List UInt8) × List ((List UInt8) × List UInt8))) : Option (Bool × (List UInt8)) :=
grd (okS ([9, 10, 13, 32] : List UInt8).length) <|
grd (iV ([9, 10, 13, 32] : List UInt8)) <|
lt (Go.Lib.trimLeftS a2 ([9, 10, 13, 32] : List UInt8)) fun x12 =>
some (decide ((x12.length : Int) < (a2.length : Int)), x12)
def jr (F : Nat) (a2 : List UInt8) (y21 : Int) : Option (Res ((List UInt8) × (List UInt8))) :=
grd (kj y21 a2.length) <|
lt (to_ a2 y21) fun x24 =>
bnd (pu F x24) fun x26 =>
eF (cI F x26) fun x28 =>
grd (kj y21 a2.length) <|
lt (cY a2 y21) fun x32 =>
some (Res.ok (x24, x32))
def kQ (F : Nat) (a2 : List UInt8) (rec11 : Int → Option (Res ((List UInt8) × (List UInt8)))) (y10 : Int) : Option (Res ((List UInt8) × (List UInt8))) :=
fq (decide (y10 < (a2.length : Int))) (dr y10 a2.length) <|
lt (at_ a2 y10) fun x15 =>
lt (Go.Lib.indexByte xmla_k1 x15) fun x17 =>
bif (decide (y10 < (a2.length : Int))) && (decide (0 ≤ x17)) then
  grd (okI (y10 + 1)) <|
  rec11 (y10 + 1)
else
  jr F a2 y10
def kP (F : Nat) (a2 : List UInt8) (n : Nat) : Int → Option (Res ((List UInt8) × (List UInt8))) :=
  loop (fun rec x => kQ F a2 rec x) n
def lH (F : Nat) (a2 : List UInt8) (a3 : List (List UInt8)) (a5 : Int) (a6 : List (Int × (List UInt8) × (List UInt8) × List ((List UInt8) × List UInt8))) : Option (Res ((List UInt8) × (List UInt8))) :=
kP F a2 F 0
def iM (F : Nat) (a1 : List UInt8) : Option (Res ((List UInt8))) :=
ft (kX F a1) fun x3 x4 =>
eF (cI F (decide (x4 = 0))) fun x6 =>
some (Res.ok x3)
def nN (F : Nat) (a2 : List UInt8) (a3 : List (List UInt8)) (a5 : Int) (a6 : List (Int × (List UInt8) × (List UInt8) × List ((List UInt8) × List UInt8))) (a8 : List UInt8) : Option ((List (Int × (List UInt8) × (List UInt8) × List ((List UInt8) × List UInt8)))) :=
bif !decide (a8 = ([] : List UInt8)) then
  grd (gJ (a6.length + ([(2, ([] : List UInt8), a8, ([] : List ((List UInt8) × List UInt8)))] : List (Int × (List UInt8) × (List UInt8) × List ((List UInt8) × List UInt8))).length)) <|
  lt (a6 ++ ([(2, ([] : List UInt8), a8, ([] : List ((List UInt8) × List UInt8)))] : List (Int × (List UInt8) × (List UInt8) × List ((List UInt8) × List UInt8)))) fun x14 =>
  some x14
else
  some a6
def lG (F : Nat) (a2 : List UInt8) (a3 : List (List UInt8)) (a5 : Int) (a6 : List (Int × (List UInt8) × (List UInt8) × List ((List UInt8) × List UInt8))) (a8 : List UInt8) : Option (Res ((List (Int × (List UInt8) × (List UInt8) × List ((List UInt8) × List UInt8))) × (List (List UInt8)))) :=
grd (okI ((a3.length : Int) - 1)) <|
fq (decide (0 ≤ (a3.length : Int) - 1)) (dr ((a3.length : Int) - 1) a3.length) <|
fq (decide (0 ≤ (a3.length : Int) - 1)) (dr ((a3.length : Int) - 1) a3.length) <|
lt (at_ a3 ((a3.length : Int) - 1)) fun x17 =>
eF (cI F ((decide (0 ≤ (a3.length : Int) - 1)) && (decide (x17 = a8)))) fun x19 =>
grd (kj ((a3.length : Int) - 1) a3.length) <|
lt (to_ a3 ((a3.length : Int) - 1)) fun x23 =>
grd (gJ (a6.length + ([(1, a8, ([] : List UInt8), ([] : List ((List UInt8) × List UInt8)))] : List (Int × (List UInt8) × (List UInt8) × List ((List UInt8) × List UInt8))).length)) <|
lt (a6 ++ ([(1, a8, ([] : List UInt8), ([] : List ((List UInt8) × List UInt8)))] : List (Int × (List UInt8) × (List UInt8) × List ((List UInt8) × List UInt8)))) fun x27 =>
some (Res.ok (x27, x23))
def fF (F : Nat) (a2 : List UInt8) (a3 : List (List UInt8)) (a5 : Int) (a6 : List (Int × (List UInt8) × (List UInt8) × List ((List UInt8) × List UInt8))) (y15 : Int) : Option (Res (Bool × (List UInt8) × (List (Int × (List UInt8) × (List UInt8) × List ((List UInt8) × List UInt8))))) :=
bif decide (y15 = 0) then
  some (Res.ok (false, a2, a6))
else
  grd (kj y15 a2.length) <|
  lt (to_ a2 y15) fun x19 =>
  grd (kj y15 a2.length) <|
  lt (cY a2 y15) fun x22 =>
  eF (iM F x19) fun x24 =>
  bif decide ((a3.length : Int) = 0) then
    bnd (mi F x19) fun x28 =>
    eF (cI F (decide (x28 = ([] : List UInt8)))) fun x30 =>
    some (Res.ok (true, x22, a6))
  else
    bnd (nN F x22 a3 a5 a6 x24) fun x33 =>
    some (Res.ok (true, x22, x33))
def jj (F : Nat) (a2 : List UInt8) (a3 : List (List UInt8)) (a5 : Int) (a6 : List (Int × (List UInt8) × (List UInt8) × List ((List UInt8) × List UInt8))) : Option (Res (Bool × (List UInt8) × (List (Int × (List UInt8) × (List UInt8) × List ((List UInt8) × List UInt8))))) :=
lt (Go.Lib.indexByte a2 60) fun x12 =>
bif decide (x12 < 0) then
  fF F a2 a3 a5 a6 (a2.length : Int)
else
  fF F a2 a3 a5 a6 x12
def js (F : Nat) (a2 : List UInt8) (a3 : List (List UInt8)) (a5 : Int) (a6 : List (Int × (List UInt8) × (List UInt8) × List ((List UInt8) × List UInt8))) : Option (Res (Bool × (List UInt8))) :=
ft (ff F a2 a3 a5 a6 ([60, 33, 45, 45] : List UInt8)) fun x10 x11 =>
bif !x10 then
  some (Res.ok (false, x11))
else
  eF (iC F x11 a3 a5 a6 ([45, 45, 62] : List UInt8)) fun x14 =>
  some (Res.ok (true, x14.2))
def qs (F : Nat) (a2 : List UInt8) (a3 : List (List UInt8)) (a5 : Int) (a6 : List (Int × (List UInt8) × (List UInt8) × List ((List UInt8) × List UInt8))) : Option (Res (Bool × (List UInt8))) :=
ft (ff F a2 a3 a5 a6 ([60, 63] : List UInt8)) fun x10 x11 =>
bif !x10 then
  some (Res.ok (false, x11))
else
  eF (iC F x11 a3 a5 a6 ([63, 62] : List UInt8)) fun x14 =>
  some (Res.ok (true, x14.2))
def lI (F : Nat) (a2 : List UInt8) (a3 : List (List UInt8)) (a5 : Int) (a6 : List (Int × (List UInt8) × (List UInt8) × List ((List UInt8) × List UInt8))) : Option (Res (Bool × (List UInt8) × (List (Int × (List UInt8) × (List UInt8) × List ((List UInt8) × List UInt8))))) :=
ft (ff F a2 a3 a5 a6 ([60, 33, 91, 67, 68, 65, 84, 65, 91] : List UInt8)) fun x12 x13 =>
bif !x12 then
  some (Res.ok (false, x13, a6))
else
  eF (iC F x13 a3 a5 a6 ([93, 93, 62] : List UInt8)) fun x16 =>
  eF (cI F (decide (0 < (a3.length : Int)))) fun x19 =>
  bnd (nN F x16.2 a3 a5 a6 x16.1) fun x22 =>
  some (Res.ok (true, x16.2, x22))
def qr (F : Nat) (a2 : List UInt8) (a3 : List (List UInt8)) (a5 : Int) (a6 : List (Int × (List UInt8) × (List UInt8) × List ((List UInt8) × List UInt8))) : Option (Res (Bool × (List UInt8))) :=
ft (ff F a2 a3 a5 a6 ([60, 33] : List UInt8)) fun x10 x11 =>
bif !x10 then
  some (Res.ok (false, x11))
else
  eF (iC F x11 a3 a5 a6 ([62] : List UInt8)) fun x14 =>
  some (Res.ok (true, x14.2))
def iL (F : Nat) (a2 : List UInt8) (a3 : List (List UInt8)) (a5 : Int) (a6 : List (Int × (List UInt8) × (List UInt8) × List ((List UInt8) × List UInt8))) : Option (Res (Bool × (List UInt8) × (List (Int × (List UInt8) × (List UInt8) × List ((List UInt8) × List UInt8))) × (List (List UInt8)))) :=
ft (ff F a2 a3 a5 a6 ([60, 47] : List UInt8)) fun x14 x15 =>
bif !x14 then
  some (Res.ok (false, x15, a6, a3))
else
  eF (lH F x15 a3 a5 a6) fun x18 =>
  ft (kE F x18.2 a3 a5 a6) fun x21 x22 =>
  ft (ff F x22 a3 a5 a6 ([62] : List UInt8)) fun x24 x25 =>
  eF (cI F x24) fun x27 =>
  eF (lG F x25 a3 a5 a6 x18.1) fun x30 =>
  some (Res.ok (true, x25, x30.1, x30.2))
def iu (F : Nat) (a3 : List (List UInt8)) (a5 : Int) (a6 : List (Int × (List UInt8) × (List UInt8) × List ((List UInt8) × List UInt8))) (x12 : (List UInt8) × (List UInt8)) (y26 : List UInt8) (y27 : List UInt8) : Option (Res ((List UInt8) × (List UInt8) × (List UInt8))) :=
eF (iC F y27 a3 a5 a6 y26) fun x29 =>
grd (okS x29.1.length) <|
lt (Go.Lib.contains x29.1 ([60] : List UInt8)) fun x33 =>
eF (cI F (!x33)) fun x35 =>
eF (iM F x29.1) fun x38 =>
some (Res.ok (x12.1, x38, x29.2))
def mK (F : Nat) (a2 : List UInt8) (a3 : List (List UInt8)) (a5 : Int) (a6 : List (Int × (List UInt8) × (List UInt8) × List ((List UInt8) × List UInt8))) : Option (Res ((List UInt8) × (List UInt8) × (List UInt8))) :=
eF (lH F a2 a3 a5 a6) fun x12 =>
ft (ff F x12.2 a3 a5 a6 ([61, 34] : List UInt8)) fun x16 x17 =>
bif !x16 then
  ft (ff F x17 a3 a5 a6 ([61, 39] : List UInt8)) fun x20 x21 =>
  eF (cI F x20) fun x23 =>
  iu F a3 a5 a6 x12 ([39] : List UInt8) x21
else
  iu F a3 a5 a6 x12 ([34] : List UInt8) x17
def pi (F : Nat) (a1 : List UInt8) (a2 : List UInt8) (a4 : List UInt8) (a5 : List UInt8) : Option Bool :=
some (decide (a4 = a1))
def hP : Option Int :=
some (-1)
def fN (F : Nat) (a1 : List ((List UInt8) × List UInt8)) (a4 : List UInt8) (a5 : List UInt8) (rec8 : Int → Option Int) (y7 : Int) : Option Int :=
bif decide (y7 < (a1.length : Int)) then
  grd (dr y7 a1.length) <|
  lt (at_ a1 y7) fun x12 =>
  bnd (pi F x12.1 x12.2 a4 a5) fun x14 =>
  bif x14 then
    some y7
  else
    grd (okI (y7 + 1)) <|
    rec8 (y7 + 1)
else
  hP
def eG (F : Nat) (a1 : List ((List UInt8) × List UInt8)) (a4 : List UInt8) (a5 : List UInt8) (n : Nat) : Int → Option Int :=
  loop (fun rec x => fN F a1 a4 a5 rec x) n
def ko (F : Nat) (a1 : List ((List UInt8) × List UInt8)) (a4 : List UInt8) (a5 : List UInt8) : Option Int :=
eG F a1 a4 a5 F 0
def fO (F : Nat) (a1 : List ((List UInt8) × List UInt8)) (a4 : List UInt8) (a5 : List UInt8) : Option Bool :=
bnd (ko F a1 a4 a5) fun x7 =>
some (decide (0 ≤ x7))
def fW (y57 : List UInt8) (y66 : Int) (y97 : List (List UInt8)) (y98 : List (Int × (List UInt8) × (List UInt8) × List ((List UInt8) × List UInt8))) : Option (Res (Bool × (List UInt8) × Int × (List (Int × (List UInt8) × (List UInt8) × List ((List UInt8) × List UInt8))) × (List (List UInt8)))) :=
some (Res.ok (true, y57, y66, y98, y97))
def gN (F : Nat) (x19 : (List UInt8) × (List UInt8)) (y56 : Bool) (y57 : List UInt8) (y66 : Int) (y79 : List (List UInt8)) (y87 : List (Int × (List UInt8) × (List UInt8) × List ((List UInt8) × List UInt8))) : Option (Res (Bool × (List UInt8) × Int × (List (Int × (List UInt8) × (List UInt8) × List ((List UInt8) × List UInt8))) × (List (List UInt8)))) :=
bif y56 then
  eF (lG F y57 y79 y66 y87 x19.1) fun x91 =>
  fW y57 y66 x91.2 x91.1
else
  fW y57 y66 y79 y87
def gM (F : Nat) (a6 : List (Int × (List UInt8) × (List UInt8) × List ((List UInt8) × List UInt8))) (x19 : (List UInt8) × (List UInt8)) (y56 : Bool) (y57 : List UInt8) (y58 : List ((List UInt8) × List UInt8)) (y66 : Int) (y79 : List (List UInt8)) : Option (Res (Bool × (List UInt8) × Int × (List (Int × (List UInt8) × (List UInt8) × List ((List UInt8) × List UInt8))) × (List (List UInt8)))) :=
grd (gJ (a6.length + ([(0, x19.1, ([] : List UInt8), y58)] : List (Int × (List UInt8) × (List UInt8) × List ((List UInt8) × List UInt8))).length)) <|
lt (a6 ++ ([(0, x19.1, ([] : List UInt8), y58)] : List (Int × (List UInt8) × (List UInt8) × List ((List UInt8) × List UInt8)))) fun x83 =>
gN F x19 y56 y57 y66 y79 x83
def gL (F : Nat) (a6 : List (Int × (List UInt8) × (List UInt8) × List ((List UInt8) × List UInt8))) (x19 : (List UInt8) × (List UInt8)) (y56 : Bool) (y57 : List UInt8) (y58 : List ((List UInt8) × List UInt8)) (y66 : Int) (y75 : List (List UInt8)) : Option (Res (Bool × (List UInt8) × Int × (List (Int × (List UInt8) × (List UInt8) × List ((List UInt8) × List UInt8))) × (List (List UInt8)))) :=
bif decide (20 < (y75.length : Int)) then
  some (Res.pan 5)
else
  gM F a6 x19 y56 y57 y58 y66 y75
def eR (F : Nat) (a3 : List (List UInt8)) (a6 : List (Int × (List UInt8) × (List UInt8) × List ((List UInt8) × List UInt8))) (x19 : (List UInt8) × (List UInt8)) (y56 : Bool) (y57 : List UInt8) (y58 : List ((List UInt8) × List UInt8)) (y66 : Int) : Option (Res (Bool × (List UInt8) × Int × (List (Int × (List UInt8) × (List UInt8) × List ((List UInt8) × List UInt8))) × (List (List UInt8)))) :=
grd (gJ (a3.length + ([x19.1] : List (List UInt8)).length)) <|
lt (a3 ++ ([x19.1] : List (List UInt8))) fun x69 =>
gL F a6 x19 y56 y57 y58 y66 x69
def eQ (F : Nat) (a3 : List (List UInt8)) (a5 : Int) (a6 : List (Int × (List UInt8) × (List UInt8) × List ((List UInt8) × List UInt8))) (x19 : (List UInt8) × (List UInt8)) (y56 : Bool) (y57 : List UInt8) (y58 : List ((List UInt8) × List UInt8)) : Option (Res (Bool × (List UInt8) × Int × (List (Int × (List UInt8) × (List UInt8) × List ((List UInt8) × List UInt8))) × (List (List UInt8)))) :=
bif decide ((a3.length : Int) = 0) then
  grd (okI (a5 + 1)) <|
  eF (cI F (decide (a5 + 1 = 1))) fun x63 =>
  eR F a3 a6 x19 y56 y57 y58 (a5 + 1)
else
  eR F a3 a6 x19 y56 y57 y58 a5
def gP (F : Nat) (a3 : List (List UInt8)) (a5 : Int) (a6 : List (Int × (List UInt8) × (List UInt8) × List ((List UInt8) × List UInt8))) (x19 : (List UInt8) × (List UInt8)) (rec27 : ((List ((List UInt8) × List UInt8)) × (List UInt8)) → Option (Res (Bool × (List UInt8) × Int × (List (Int × (List UInt8) × (List UInt8) × List ((List UInt8) × List UInt8))) × (List (List UInt8))))) (y24 : List ((List UInt8) × List UInt8)) (y26 : List UInt8) : Option (Res (Bool × (List UInt8) × Int × (List (Int × (List UInt8) × (List UInt8) × List ((List UInt8) × List UInt8))) × (List (List UInt8)))) :=
ft (kE F y26 a3 a5 a6) fun x29 x30 =>
ft (ff F x30 a3 a5 a6 ([62] : List UInt8)) fun x32 x33 =>
bif x32 then
  eQ F a3 a5 a6 x19 false x33 y24
else
  ft (ff F x33 a3 a5 a6 ([47, 62] : List UInt8)) fun x36 x37 =>
  bif x36 then
    eQ F a3 a5 a6 x19 true x37 y24
  else
    eF (cI F x29) fun x40 =>
    eF (mK F x37 a3 a5 a6) fun x43 =>
    bnd (fO F y24 x43.1 x43.2.1) fun x47 =>
    eF (cI F (!x47)) fun x49 =>
    grd (gJ (y24.length + ([(x43.1, x43.2.1)] : List ((List UInt8) × List UInt8)).length)) <|
    lt (y24 ++ ([(x43.1, x43.2.1)] : List ((List UInt8) × List UInt8))) fun x54 =>
    rec27 (x54, x43.2.2)
def gO (F : Nat) (a3 : List (List UInt8)) (a5 : Int) (a6 : List (Int × (List UInt8) × (List UInt8) × List ((List UInt8) × List UInt8))) (x19 : (List UInt8) × (List UInt8)) (n : Nat) : ((List ((List UInt8) × List UInt8)) × (List UInt8)) → Option (Res (Bool × (List UInt8) × Int × (List (Int × (List UInt8) × (List UInt8) × List ((List UInt8) × List UInt8))) × (List (List UInt8)))) :=
  loop (fun rec x => gP F a3 a5 a6 x19 rec x.1 x.2) n
def ir (F : Nat) (a2 : List UInt8) (a3 : List (List UInt8)) (a5 : Int) (a6 : List (Int × (List UInt8) × (List UInt8) × List ((List UInt8) × List UInt8))) : Option (Res (Bool × (List UInt8) × Int × (List (Int × (List UInt8) × (List UInt8) × List ((List UInt8) × List UInt8))) × (List (List UInt8)))) :=
ft (ff F a2 a3 a5 a6 ([60] : List UInt8)) fun x15 x16 =>
bif !x15 then
  some (Res.ok (false, x16, a5, a6, a3))
else
  eF (lH F x16 a3 a5 a6) fun x19 =>
  gO F a3 a5 a6 x19 F ([], x19.2)
def mJ (F : Nat) (a2 : List UInt8) (a3 : List (List UInt8)) (a5 : Int) (a6 : List (Int × (List UInt8) × (List UInt8) × List ((List UInt8) × List UInt8))) : Option (Res ((List UInt8) × Int × (List (Int × (List UInt8) × (List UInt8) × List ((List UInt8) × List UInt8))) × (List (List UInt8)))) :=
eF (jj F a2 a3 a5 a6) fun x14 =>
bif x14.1 then
  some (Res.ok (x14.2.1, a5, x14.2.2, a3))
else
  eF (js F x14.2.1 a3 a5 x14.2.2) fun x19 =>
  bif x19.1 then
    some (Res.ok (x19.2, a5, x14.2.2, a3))
  else
    eF (qs F x19.2 a3 a5 x14.2.2) fun x23 =>
    bif x23.1 then
      some (Res.ok (x23.2, a5, x14.2.2, a3))
    else
      eF (lI F x23.2 a3 a5 x14.2.2) fun x27 =>
      bif x27.1 then
        some (Res.ok (x27.2.1, a5, x27.2.2, a3))
      else
        eF (qr F x27.2.1 a3 a5 x27.2.2) fun x32 =>
        bif x32.1 then
          some (Res.ok (x32.2, a5, x27.2.2, a3))
        else
          eF (iL F x32.2 a3 a5 x27.2.2) fun x36 =>
          bif x36.1 then
            some (Res.ok (x36.2.1, a5, x36.2.2.1, x36.2.2.2))
          else
            eF (ir F x36.2.1 x36.2.2.2 a5 x36.2.2.1) fun x42 =>
            bif x42.1 then
              some (Res.ok (x42.2.1, x42.2.2.1, x42.2.2.2.1, x42.2.2.2.2))
            else
              some (Res.ok (x42.2.1, x42.2.2.1, x42.2.2.2.1, x42.2.2.2.2))
def iZ (F : Nat) (y26 : List UInt8) (y28 : List (List UInt8)) (y29 : Int) (y30 : List (Int × (List UInt8) × (List UInt8) × List ((List UInt8) × List UInt8))) : Option ((List (Int × (List UInt8) × (List UInt8) × List ((List UInt8) × List UInt8))) × Int) :=
qL (cI F ((decide ((y28.length : Int) = 0)) && (decide (0 < y29)))) (fun p36 =>
  some ([], p36)) fun x34 =>
some (y30, 0)
def jb (F : Nat) (rec17 : ((List UInt8) × (List (List UInt8)) × Int × (List (Int × (List UInt8) × (List UInt8) × List ((List UInt8) × List UInt8)))) → Option ((List (Int × (List UInt8) × (List UInt8) × List ((List UInt8) × List UInt8))) × Int)) (y11 : List UInt8) (y13 : List (List UInt8)) (y14 : Int) (y15 : List (Int × (List UInt8) × (List UInt8) × List ((List UInt8) × List UInt8))) : Option ((List (Int × (List UInt8) × (List UInt8) × List ((List UInt8) × List UInt8))) × Int) :=
bif !decide (y11 = ([] : List UInt8)) then
  qL (mJ F y11 y13 y14 y15) (fun p22 =>
    some ([], p22)) fun x20 =>
  rec17 (x20.1, x20.2.2.2, x20.2.1, x20.2.2.1)
else
  iZ F y11 y13 y14 y15
def ja (F : Nat) (n : Nat) : ((List UInt8) × (List (List UInt8)) × Int × (List (Int × (List UInt8) × (List UInt8) × List ((List UInt8) × List UInt8)))) → Option ((List (Int × (List UInt8) × (List UInt8) × List ((List UInt8) × List UInt8))) × Int) :=
  loop (fun rec x => jb F rec x.1 x.2.1 x.2.2.1 x.2.2.2) n
def mc (F : Nat) (a1 : List UInt8) : Option ((List (Int × (List UInt8) × (List UInt8) × List ((List UInt8) × List UInt8))) × Int) :=
bif decide (100000 < (a1.length : Int)) then
  some ([], 4)
else
  ja F F (a1, ([] : List (List UInt8)), 0, [])
end Go.Pv
namespace Go.Proofs.YtkbfjepffpddfaaGreatDoor
open Go.RowKit Go.Av Go.Pv
theorem tv : ∀ (args : Array Value) (w : World), (callFunc 18 args).run Tryz.prog w = .ok (.enter 18 args) w := fun _ _ => by kernel_rfl
theorem pP : ∀ (args : Array Value) (w : World), (callFunc 20 args).run Tryz.prog w = .ok (.enter 20 args) w := fun _ _ => by kernel_rfl
theorem tu : ∀ (args : Array Value) (w : World), (callFunc 21 args).run Tryz.prog w = .ok (.enter 21 args) w := fun _ _ => by kernel_rfl
theorem bU : ∀ (args : Array Value) (w : World), (callFunc 22 args).run Tryz.prog w = .ok (.enter 22 args) w := fun _ _ => by kernel_rfl
theorem tt : ∀ (args : Array Value) (w : World), (callFunc 31 args).run Tryz.prog w = .ok (.enter 31 args) w := fun _ _ => by kernel_rfl
theorem tr : ∀ (args : Array Value) (w : World), (callFunc 32 args).run Tryz.prog w = .ok (.enter 32 args) w := fun _ _ => by kernel_rfl
theorem tq : ∀ (args : Array Value) (w : World), (callFunc 33 args).run Tryz.prog w = .ok (.enter 33 args) w := fun _ _ => by kernel_rfl
theorem tp : ∀ (args : Array Value) (w : World), (callFunc 34 args).run Tryz.prog w = .ok (.enter 34 args) w := fun _ _ => by kernel_rfl
theorem tn : ∀ (args : Array Value) (w : World), (callFunc 35 args).run Tryz.prog w = .ok (.enter 35 args) w := fun _ _ => by kernel_rfl
theorem tm : ∀ (args : Array Value) (w : World), (callFunc 36 args).run Tryz.prog w = .ok (.enter 36 args) w := fun _ _ => by kernel_rfl
theorem tk : ∀ (args : Array Value) (w : World), (callFunc 37 args).run Tryz.prog w = .ok (.enter 37 args) w := fun _ _ => by kernel_rfl
theorem pO : ∀ (args : Array Value) (w : World), (callFunc 40 args).run Tryz.prog w = .ok (.enter 40 args) w := fun _ _ => by kernel_rfl
theorem pN : ∀ (args : Array Value) (w : World), (callFunc 44 args).run Tryz.prog w = .ok (.enter 44 args) w := fun _ _ => by kernel_rfl
theorem nF : ∀ (args : Array Value) (w : World), (callFunc 46 args).run Tryz.prog w = .ok (.enter 46 args) w := fun _ _ => by kernel_rfl
theorem tj : ∀ (args : Array Value) (w : World), (callFunc 47 args).run Tryz.prog w = .ok (.enter 47 args) w := fun _ _ => by kernel_rfl
theorem er : ∀ (args : Array Value) (w : World), (callFunc 48 args).run Tryz.prog w = .ok (.enter 48 args) w := fun _ _ => by kernel_rfl
theorem gj : ∀ (args : Array Value) (w : World), (callFunc 49 args).run Tryz.prog w = .ok (.enter 49 args) w := fun _ _ => by kernel_rfl
theorem kK : ∀ (args : Array Value) (w : World), (callFunc 50 args).run Tryz.prog w = .ok (.enter 50 args) w := fun _ _ => by kernel_rfl
theorem ti : ∀ (args : Array Value) (w : World), (callFunc 51 args).run Tryz.prog w = .ok (.enter 51 args) w := fun _ _ => by kernel_rfl
theorem nE : ∀ (args : Array Value) (w : World), (callFunc 52 args).run Tryz.prog w = .ok (.enter 52 args) w := fun _ _ => by kernel_rfl
theorem th : ∀ (args : Array Value) (w : World), (callFunc 53 args).run Tryz.prog w = .ok (.enter 53 args) w := fun _ _ => by kernel_rfl
theorem tg : ∀ (args : Array Value) (w : World), (callFunc 54 args).run Tryz.prog w = .ok (.enter 54 args) w := fun _ _ => by kernel_rfl
theorem yh : ∀ (args : Array Value) (w : World), (callFunc 55 args).run Tryz.prog w = .ok (.enter 55 args) w := fun _ _ => by kernel_rfl
theorem yf : ∀ (args : Array Value) (w : World), (callFunc 60 args).run Tryz.prog w = .ok (.enter 60 args) w := fun _ _ => by kernel_rfl
theorem ye : ∀ (args : Array Value) (w : World), (callFunc 61 args).run Tryz.prog w = .ok (.enter 61 args) w := fun _ _ => by kernel_rfl
theorem yd : ∀ (args : Array Value) (w : World), (callFunc 62 args).run Tryz.prog w = .ok (.enter 62 args) w := fun _ _ => by kernel_rfl
theorem te : ∀ (args : Array Value) (w : World), (callFunc 63 args).run Tryz.prog w = .ok (.enter 63 args) w := fun _ _ => by kernel_rfl
theorem yc : ∀ (args : Array Value) (w : World), (callFunc 64 args).run Tryz.prog w = .ok (.enter 64 args) w := fun _ _ => by kernel_rfl
theorem yb : ∀ (args : Array Value) (w : World), (callFunc 65 args).run Tryz.prog w = .ok (.enter 65 args) w := fun _ _ => by kernel_rfl
theorem xY : ∀ (args : Array Value) (w : World), (callFunc 73 args).run Tryz.prog w = .ok (.enter 73 args) w := fun _ _ => by kernel_rfl
theorem xX : ∀ (args : Array Value) (w : World), (callFunc 74 args).run Tryz.prog w = .ok (.enter 74 args) w := fun _ _ => by kernel_rfl
set_option maxRecDepth 100000 in
set_option maxHeartbeats 1000000 in
theorem vV (F : Nat) (a1 : List UInt8) (r2 : Bool) (H : ph F a1 = some r2) : ACalls Tryz.prog 74 [S a1] [] (Ret (B r2) []) := by
 unfold ph at H
 refine ap Tryz.func74 rfl rfl ?_;show AW _ _ 15 _ _ _;refine af <| aa ?_;show AR _ _ _ _ _ [0] _;refine za rfl <| ag <| bJ (X := Unit) (fun _ => ⟨[], [], []⟩) (fun _ => li = some r2) ?_ ?_
 ·refine af <| aa ?_;show AR _ _ _ _ _ [0, 1, 2] _;refine zm rfl <| zS rfl (bw ai rfl) <| zm rfl <| ag <| aR <| de (X := Nat × Int) (fun (n5, y3) => ⟨[(0, S a1), (5, i64 (a1.length : Int)), (6, i64 y3)], [], []⟩) (fun (n5, y3) => jM a1 n5 y3 = some r2) (fun (n5, y3) => n5) (F, 0) H (bb [] (.cons (.refl _) (.cons (.refl _) (.cons (.refl _) (.nil _)))) rfl) ?_;rintro ⟨n5, y3⟩ H;obtain ⟨n5, rfl, H⟩ := eX H;replace H : jN a1 (jM a1 n5) y3 = some r2 := H
  unfold jN at H
  refine af <| aa ?_;show AR _ _ _ _ _ [0] _;refine zS rfl (bX rfl rfl) <| ag <| af <| ax rfl (fun c6 => ?_) (fun c6 => ?_)
  ·replace H := aW c6 H;refine aA <| af <| aR <| af <| aa ?_;show AR _ _ _ _ _ [0, 1] _;refine zm rfl <| za rfl <| ag <| af ?_;obtain ⟨g7, H⟩ := aN H;obtain ⟨x8, e9, H⟩ := bR H;obtain ⟨x10, e11, H⟩ := bR H;refine aa ?_;show AR _ _ _ _ _ [0, 1, 2, 3, 4] _;refine zm rfl <| zm rfl <| zS rfl (bp ai rfl rfl g7 e9) <| am rfl rfl (aC rfl pN rfl (show ACalls _ _ _ [] (Ret (i64 x10) []) from by subst e11; exact eS xmla_k1 x8) ?_);refine zS rfl (bX rfl rfl) <| ag <| ax rfl (fun c12 => ?_) (fun c12 => ?_)
   ·replace H := aW c12 H;refine af <| aa ?_;show AR _ _ _ _ _ [0] _;refine za rfl <| ag <| aI ?_;obtain rfl := ak H;exact And.intro rfl (Exists.intro _ (Exists.intro _ ⟨aG rfl (.refl _), aB [] rfl, rfl, rfl⟩))
   ·replace H := aX c12 H;refine aA ?_;obtain ⟨g13, H⟩ := aN H;refine aa ?_;show AR _ _ _ _ _ [0, 1] _;refine zS rfl (cX rfl rfl g13) <| zm rfl <| ag ?_;exact Exists.intro (n5, y3 + 1) ⟨H, Nat.lt_succ_self _, bb [] (.cons (.refl _) (.cons (.refl _) (.cons (.refl _) (.nil _)))) rfl⟩
  ·replace H := aX c6 H;refine cw ?_;exact Exists.intro () ⟨H, bb [] (.nil _) rfl⟩
 rintro _ H;replace H : li = some r2 := H
 unfold li at H
 refine af <| aa ?_;show AR _ _ _ _ _ [0] _;refine za rfl <| ag <| aI ?_;obtain rfl := ak H;exact And.intro rfl (Exists.intro _ (Exists.intro _ ⟨aG rfl (.refl _), aB [] rfl, rfl, rfl⟩))
set_option maxRecDepth 100000 in
set_option maxHeartbeats 1000000 in
theorem sF (F : Nat) (a1 : List UInt8) (r2 : Bool) (H : pu F a1 = some r2) : ACalls Tryz.prog 63 [S a1] [] (Ret (B r2) []) := by
 unfold pu at H
 refine ap Tryz.func63 rfl rfl ?_;show AW _ _ 24 _ _ _;refine af <| aa ?_;show AR _ _ _ _ _ [0] _;refine za rfl <| ag <| af ?_;obtain ⟨g5, H⟩ := cQ H;obtain ⟨x6, e7, H⟩ := bR H;obtain ⟨g8, H⟩ := cQ H;obtain ⟨x9, e10, H⟩ := bR H;obtain ⟨g12, H⟩ := cQ H;obtain ⟨g13, H⟩ := cQ H;obtain ⟨g14, H⟩ := cQ H;obtain ⟨x15, e16, H⟩ := bR H;obtain ⟨x18, e19, H⟩ := eY H;refine aa ?_;show AR _ _ _ _ _ [0, 1, 2, 3, 4, 5, 6, 7, 8, 9, 10, 11, 12, 13, 14, 15, 16, 17, 18, 19, 20, 21] _;refine zm rfl <| zS rfl (jp rfl rfl) <| zm rfl <| aY (l := [7, 8, 9, 10, 11, 12, 13, 14, 15, 16, 17, 18, 19, 20, 21]) 9 (B ((!decide (a1 = ([] : List UInt8))) && (decide ((a1.length : Int) ≤ 60)))) (fun K => ?_) ?_
 ·rcases al (!decide (a1 = ([] : List UInt8))) with h3 | h3
  ·refine zM h3 rfl <| zU h3 rfl (bw ai rfl) <| zU h3 rfl (gh rfl rfl) <| zS rfl (aD (av := .v _) rfl h3 rfl) ?_;exact K _ 3 _ (ay (cz h3)) rfl rfl
  ·refine zF h3 rfl <| zF h3 rfl <| zF h3 rfl <| zS rfl (aE (av := .v _) rfl h3 rfl) ?_;exact K _ 3 _ (ay (cA h3)) rfl rfl
 refine zm rfl <| aY (l := [12, 13, 14, 15, 16, 17, 18, 19, 20, 21]) 14 (B (((!decide (a1 = ([] : List UInt8))) && (decide ((a1.length : Int) ≤ 60))) && x9)) (fun K => ?_) ?_
 ·rcases al ((!decide (a1 = ([] : List UInt8))) && (decide ((a1.length : Int) ≤ 60))) with h4 | h4
  ·refine zM h4 rfl <| zU h4 rfl (la ai rfl rfl (g5 h4) e7) <| zT h4 rfl (aC rfl pO rfl (show ACalls _ _ _ [] (Ret (B x9) []) from by subst e10; exact gG xmla_k2 x6 (mH (g8 h4))) ?_);refine zS rfl (aD (av := .v _) rfl h4 rfl) ?_;exact K _ 3 _ (ay (cz h4)) rfl rfl
  ·refine zF h4 rfl <| zF h4 rfl <| zF h4 rfl <| zS rfl (aE (av := .v _) rfl h4 rfl) ?_;exact K _ 3 _ (ay (cA h4)) rfl rfl
 refine zm rfl <| aY (l := [17, 18, 19, 20, 21]) 19 (B ((((!decide (a1 = ([] : List UInt8))) && (decide ((a1.length : Int) ≤ 60))) && x9) && (decide (x15 = ([] : List UInt8))))) (fun K => ?_) ?_
 ·rcases al (((!decide (a1 = ([] : List UInt8))) && (decide ((a1.length : Int) ≤ 60))) && x9) with h11 | h11
  ·refine zM h11 rfl <| zT h11 rfl (aC rfl xY rfl (show ACalls _ _ _ [] (Ret (S x15) []) from by subst e16; exact lib_Trim a1 xmla_k1 (mH (g12 h11)) (mH (g13 h11)) (g14 h11)) ?_);refine zU h11 rfl (dR rfl rfl) <| zS rfl (aD (av := .v _) rfl h11 rfl) ?_;exact K _ 3 _ (ay (cz h11)) rfl rfl
  ·refine zF h11 rfl <| zF h11 rfl <| zF h11 rfl <| zS rfl (aE (av := .v _) rfl h11 rfl) ?_;exact K _ 3 _ (ay (cA h11)) rfl rfl
 refine zm rfl <| aY (l := [21]) 23 (B (((((!decide (a1 = ([] : List UInt8))) && (decide ((a1.length : Int) ≤ 60))) && x9) && (decide (x15 = ([] : List UInt8)))) && x18)) (fun K => ?_) ?_
 ·rcases al ((((!decide (a1 = ([] : List UInt8))) && (decide ((a1.length : Int) ≤ 60))) && x9) && (decide (x15 = ([] : List UInt8)))) with h17 | h17
  ·refine zM h17 rfl <| zT h17 rfl (aC rfl xX rfl (vV F a1 x18 (e19 h17)) ?_);refine zS rfl (aD (av := .v _) rfl h17 rfl) ?_;exact K _ 2 _ (ay (cz h17)) rfl rfl
  ·refine zF h17 rfl <| zF h17 rfl <| zS rfl (aE (av := .v _) rfl h17 rfl) ?_;exact K _ 2 _ (ay (cA h17)) rfl rfl
 refine za rfl <| ag <| aI ?_;obtain rfl := ak H;exact And.intro rfl (Exists.intro _ (Exists.intro _ ⟨aG rfl (.refl _), aB [] rfl, rfl, rfl⟩))
set_option maxRecDepth 100000 in
set_option maxHeartbeats 1000000 in
theorem pT (F : Nat) (a1 : Bool) (rv : Res Unit) (H : cI F a1 = some rv) : ACalls Tryz.prog 22 [B a1] [] (jo (fun (r : Unit) => (Ret (.tup []) [])) (fun e => cg (.iface 58 (.agg #[.int .i64 e]))) rv) := by
 unfold cI at H
 refine ap Tryz.func22 rfl rfl ?_;show AW _ _ 6 _ _ _;refine af <| aa ?_;show AR _ _ _ _ _ [0, 1] _;refine zm rfl <| zS rfl (bG rfl) <| ag <| ax rfl (fun c2 => ?_) (fun c2 => ?_)
 ·replace H := aW c2 H;obtain rfl := ak H;refine aa ?_;show AR _ _ _ _ _ [0, 1, 2] _;refine zS rfl (cP (zs := [.int .i64 0]) (ps := [(0, 1)]) (cs := [i64 2]) (by kernel_rfl) rfl rfl) <| zS rfl (bf (a := .agg _) Tryz.underlying58 rfl rfl) <| am rfl rfl (AO.panicT (c := cg (.iface 58 (.agg #[.int .i64 2]))) rfl rfl ?_);exact And.intro rfl (Exists.intro [] ⟨ba _, rfl, rfl⟩)
 ·replace H := aX c2 H;refine aA ?_;obtain rfl := ak H;exact And.intro rfl (Exists.intro _ (Exists.intro _ ⟨bj rfl, aB [] rfl, rfl, rfl⟩))
theorem cn (F : Nat) (a1 : Bool) (H : cI F a1 = some (Res.ok ())) : ACalls Tryz.prog 22 [B a1] [] (Ret (.tup []) []) := pT F a1 _ H
theorem bV (F : Nat) (a1 : Bool) (e : Int) (H : cI F a1 = some (Res.pan e)) : ACalls Tryz.prog 22 [B a1] [] (fun ae A' => ae = .pan ((fun e => cg (.iface 58 (.agg #[.int .i64 e]))) e) ∧ A' = []) := pT F a1 _ H
set_option maxRecDepth 100000 in
set_option maxHeartbeats 1000000 in
theorem eo (F : Nat) (o1 : Nat) (a2 : List UInt8) (a3 : List (List UInt8)) (t4 : Nat) (a5 : Int) (a6 : List (Int × (List UInt8) × (List UInt8) × List ((List UInt8) × List UInt8))) (t7 : Nat) (a8 : List UInt8) (r9 : Bool) (r10 : List UInt8) (H : ff F a2 a3 a5 a6 a8 = some (r9, r10)) : ACalls Tryz.prog 48 [.pt o1 0, S a8] [.obj o1 [S a2, .sk t4 a3.length, i64 a5, slE (ab Enc.int (ab Enc.str (ab Enc.str (Enc.sl (ab Enc.str Enc.str))))) a6 (some t7)], .stk t4 (Enc.str.fl a3), .tok t7 43] (fun e A' => e = .ret (B r9) ∧ A' = [.obj o1 [S r10, .sk t4 a3.length, i64 a5, slE (ab Enc.int (ab Enc.str (ab Enc.str (Enc.sl (ab Enc.str Enc.str))))) a6 (some t7)], .stk t4 (Enc.str.fl a3), .tok t7 43]) := by
 unfold ff at H
 refine ap Tryz.func48 rfl rfl ?_;show AW _ _ 21 _ _ _;refine af <| aa ?_;show AR _ _ _ _ _ [0] _;refine za rfl <| ag <| af ?_;obtain ⟨x11, e12, H⟩ := bR H;refine aa ?_;show AR _ _ _ _ _ [0, 1, 2, 3, 4, 5, 6, 7, 8, 9, 10] _;refine zS rfl (ah (av := .pt _ _) rfl) <| zS rfl (ar rfl) <| zS rfl (an (n := 0) (by kernel_rfl) rfl) <| zR rfl (ao (i := 0) ai rfl rfl rfl rfl) <| zm rfl <| am rfl rfl (aC rfl ye rfl (show ACalls _ _ _ [] (Ret (.tup [S x11.1, B x11.2]) []) from by subst e12; exact lD a2 a8) ?_);refine zS rfl (ah (av := .tup _) rfl) <| zS rfl (az (av := .v _) rfl rfl) <| zS rfl (az (av := .v _) rfl rfl) <| za rfl <| za rfl <| ag <| af <| aa ?_;show AR _ _ _ _ _ [0, 1, 2, 3, 4] _;refine zS rfl (ah (av := .pt _ _) rfl) <| zm rfl <| zS rfl (ar rfl) <| zS rfl (an (n := 0) (by kernel_rfl) rfl) <| s0 rfl rfl (aq (i := 0) (c := .v _) (by kernel_rfl) rfl rfl rfl rfl (ac rfl)) <| ag <| af <| aa ?_;show AR _ _ _ _ _ [0, 1] _;refine zm rfl <| za rfl <| ag <| aI ?_;obtain ⟨rfl, rfl⟩ := dx H;exact And.intro rfl (Exists.intro _ (Exists.intro _ ⟨aG rfl (.refl _), aB [0, 0, 0] rfl, rfl, rfl⟩))
set_option maxRecDepth 100000 in
set_option maxHeartbeats 1000000 in
theorem sy (F : Nat) (o1 : Nat) (a2 : List UInt8) (a3 : List (List UInt8)) (t4 : Nat) (a5 : Int) (a6 : List (Int × (List UInt8) × (List UInt8) × List ((List UInt8) × List UInt8))) (t7 : Nat) (a8 : List UInt8) (rv : Res ((List UInt8) × (List UInt8))) (H : iC F a2 a3 a5 a6 a8 = some rv) : ACalls Tryz.prog 49 [.pt o1 0, S a8] [.obj o1 [S a2, .sk t4 a3.length, i64 a5, slE (ab Enc.int (ab Enc.str (ab Enc.str (Enc.sl (ab Enc.str Enc.str))))) a6 (some t7)], .stk t4 (Enc.str.fl a3), .tok t7 43] (jo (fun (r : (List UInt8) × (List UInt8)) => (fun e A' => e = .ret (S r.1) ∧ A' = [.obj o1 [S r.2, .sk t4 a3.length, i64 a5, slE (ab Enc.int (ab Enc.str (ab Enc.str (Enc.sl (ab Enc.str Enc.str))))) a6 (some t7)], .stk t4 (Enc.str.fl a3), .tok t7 43])) (fun e => cg (.iface 58 (.agg #[.int .i64 e]))) rv) := by
 unfold iC at H
 refine ap Tryz.func49 rfl rfl ?_;show AW _ _ 25 _ _ _;refine af <| aa ?_;show AR _ _ _ _ _ [0] _;refine za rfl <| ag <| af ?_;obtain ⟨g11, H⟩ := aN H;obtain ⟨x12, e13, H⟩ := bR H;refine aa ?_;show AR _ _ _ _ _ [0, 1, 2, 3, 4, 5, 6, 7, 8, 9, 10, 11, 12] _;refine zS rfl (ah (av := .pt _ _) rfl) <| zS rfl (ar rfl) <| zS rfl (an (n := 0) (by kernel_rfl) rfl) <| zR rfl (ao (i := 0) ai rfl rfl rfl rfl) <| zm rfl <| am rfl rfl (aC rfl yd rfl (show ACalls _ _ _ [] (Ret (.tup [S x12.1, S x12.2.1, B x12.2.2]) []) from by subst e13; exact lib_Cut a2 a8 (mH g11)) ?_);refine zS rfl (ah (av := .tup _) rfl) <| zS rfl (az (av := .v _) rfl rfl) <| zS rfl (az (av := .v _) rfl rfl) <| zS rfl (az (av := .v _) rfl rfl) <| za rfl <| za rfl <| za rfl <| ag <| af ?_
 rcases Or.symm (cq H) with ⟨p16, e15, H⟩ | ⟨x14, e15, H⟩
 ·subst H;refine aa ?_;show AR _ _ _ _ _ [0, 1] _;refine zm rfl <| am rfl rfl (bc (c := cg (.iface 58 (.agg #[.int .i64 p16]))) [] rfl bU rfl (bV F x12.2.2 p16 e15) rfl ?_);exact And.intro rfl (Exists.intro [] ⟨ba _, rfl, rfl⟩)
 refine aa ?_;show AR _ _ _ _ _ [0, 1] _;refine zm rfl <| am rfl rfl (aC rfl bU rfl (cn F x12.2.2 e15) ?_);refine ag <| af <| aa ?_;show AR _ _ _ _ _ [0, 1, 2, 3, 4] _;refine zS rfl (ah (av := .pt _ _) rfl) <| zm rfl <| zS rfl (ar rfl) <| zS rfl (an (n := 0) (by kernel_rfl) rfl) <| s0 rfl rfl (aq (i := 0) (c := .v _) (by kernel_rfl) rfl rfl rfl rfl (ac rfl)) <| ag <| af <| aa ?_;show AR _ _ _ _ _ [0, 1] _;refine zm rfl <| za rfl <| ag <| aI ?_;obtain rfl := ak H;exact And.intro rfl (Exists.intro _ (Exists.intro _ ⟨aG rfl (.refl _), aB [0, 0, 0] rfl, rfl, rfl⟩))
theorem jc (F : Nat) (o1 : Nat) (a2 : List UInt8) (a3 : List (List UInt8)) (t4 : Nat) (a5 : Int) (a6 : List (Int × (List UInt8) × (List UInt8) × List ((List UInt8) × List UInt8))) (t7 : Nat) (a8 : List UInt8) (r9 : List UInt8) (r10 : List UInt8) (H : iC F a2 a3 a5 a6 a8 = some (Res.ok (r9, r10))) : ACalls Tryz.prog 49 [.pt o1 0, S a8] [.obj o1 [S a2, .sk t4 a3.length, i64 a5, slE (ab Enc.int (ab Enc.str (ab Enc.str (Enc.sl (ab Enc.str Enc.str))))) a6 (some t7)], .stk t4 (Enc.str.fl a3), .tok t7 43] (fun e A' => e = .ret (S r9) ∧ A' = [.obj o1 [S r10, .sk t4 a3.length, i64 a5, slE (ab Enc.int (ab Enc.str (ab Enc.str (Enc.sl (ab Enc.str Enc.str))))) a6 (some t7)], .stk t4 (Enc.str.fl a3), .tok t7 43]) := sy F o1 a2 a3 t4 a5 a6 t7 a8 _ H
theorem gS (F : Nat) (o1 : Nat) (a2 : List UInt8) (a3 : List (List UInt8)) (t4 : Nat) (a5 : Int) (a6 : List (Int × (List UInt8) × (List UInt8) × List ((List UInt8) × List UInt8))) (t7 : Nat) (a8 : List UInt8) (e : Int) (H : iC F a2 a3 a5 a6 a8 = some (Res.pan e)) : ACalls Tryz.prog 49 [.pt o1 0, S a8] [.obj o1 [S a2, .sk t4 a3.length, i64 a5, slE (ab Enc.int (ab Enc.str (ab Enc.str (Enc.sl (ab Enc.str Enc.str))))) a6 (some t7)], .stk t4 (Enc.str.fl a3), .tok t7 43] (fun ae A' => ae = .pan ((fun e => cg (.iface 58 (.agg #[.int .i64 e]))) e) ∧ A' = []) := sy F o1 a2 a3 t4 a5 a6 t7 a8 _ H
set_option maxRecDepth 100000 in
set_option maxHeartbeats 1000000 in
theorem pU (F : Nat) (o1 : Nat) (a2 : List UInt8) (a3 : List (List UInt8)) (t4 : Nat) (a5 : Int) (a6 : List (Int × (List UInt8) × (List UInt8) × List ((List UInt8) × List UInt8))) (t7 : Nat) (r8 : Bool) (r9 : List UInt8) (H : kE F a2 a3 a5 a6 = some (r8, r9)) : ACalls Tryz.prog 51 [.pt o1 0] [.obj o1 [S a2, .sk t4 a3.length, i64 a5, slE (ab Enc.int (ab Enc.str (ab Enc.str (Enc.sl (ab Enc.str Enc.str))))) a6 (some t7)], .stk t4 (Enc.str.fl a3), .tok t7 43] (fun e A' => e = .ret (B r8) ∧ A' = [.obj o1 [S r9, .sk t4 a3.length, i64 a5, slE (ab Enc.int (ab Enc.str (ab Enc.str (Enc.sl (ab Enc.str Enc.str))))) a6 (some t7)], .stk t4 (Enc.str.fl a3), .tok t7 43]) := by
 unfold kE at H
 refine ap Tryz.func51 rfl rfl ?_;show AW _ _ 24 _ _ _;refine af <| aa ?_;show AR _ _ _ _ _ [0] _;refine za rfl <| ag <| af <| aa ?_;show AR _ _ _ _ _ [0, 1, 2, 3, 4, 5] _;refine zS rfl (ah (av := .pt _ _) rfl) <| zS rfl (ar rfl) <| zS rfl (an (n := 0) (by kernel_rfl) rfl) <| zR rfl (ao (i := 0) ai rfl rfl rfl rfl) <| zS rfl (bw ai rfl) <| za rfl <| ag <| af ?_;obtain ⟨g10, H⟩ := aN H;obtain ⟨g11, H⟩ := aN H;obtain ⟨x12, e13, H⟩ := bR H;refine aa ?_;show AR _ _ _ _ _ [0, 1, 2, 3, 4, 5, 6, 7, 8] _;refine zS rfl (ah (av := .pt _ _) rfl) <| zS rfl (ah (av := .pt _ _) rfl) <| zS rfl (ar rfl) <| zS rfl (an (n := 0) (by kernel_rfl) rfl) <| zR rfl (ao (i := 0) ai rfl rfl rfl rfl) <| am rfl rfl (aC rfl yc rfl (show ACalls _ _ _ [] (Ret (S x12) []) from by subst e13; exact uf a2 ([9, 10, 13, 32] : List UInt8) (mH g10) g11) ?_);refine zS rfl (ar rfl) <| zS rfl (an (n := 0) (by kernel_rfl) rfl) <| s0 rfl rfl (aq (i := 0) (c := .v _) (by kernel_rfl) rfl rfl rfl rfl (ac rfl)) <| ag <| af <| aa ?_;show AR _ _ _ _ _ [0, 1, 2, 3, 4, 5, 6, 7] _
 refine zS rfl (ah (av := .pt _ _) rfl) <| zS rfl (ar rfl) <| zS rfl (an (n := 0) (by kernel_rfl) rfl) <| zR rfl (ao (i := 0) ai rfl rfl rfl rfl) <| zS rfl (bw ai rfl) <| zm rfl <| zS rfl (bX rfl rfl) <| za rfl <| ag <| aI ?_;obtain ⟨rfl, rfl⟩ := dx H;exact And.intro rfl (Exists.intro _ (Exists.intro _ ⟨aG rfl (.refl _), aB [0, 0, 0] rfl, rfl, rfl⟩))
set_option maxRecDepth 100000 in
set_option maxHeartbeats 1000000 in
theorem sC (F : Nat) (o1 : Nat) (a2 : List UInt8) (a3 : List (List UInt8)) (t4 : Nat) (a5 : Int) (a6 : List (Int × (List UInt8) × (List UInt8) × List ((List UInt8) × List UInt8))) (t7 : Nat) (rv : Res ((List UInt8) × (List UInt8))) (H : lH F a2 a3 a5 a6 = some rv) : ACalls Tryz.prog 50 [.pt o1 0] [.obj o1 [S a2, .sk t4 a3.length, i64 a5, slE (ab Enc.int (ab Enc.str (ab Enc.str (Enc.sl (ab Enc.str Enc.str))))) a6 (some t7)], .stk t4 (Enc.str.fl a3), .tok t7 43] (jo (fun (r : (List UInt8) × (List UInt8)) => (fun e A' => e = .ret (S r.1) ∧ A' = [.obj o1 [S r.2, .sk t4 a3.length, i64 a5, slE (ab Enc.int (ab Enc.str (ab Enc.str (Enc.sl (ab Enc.str Enc.str))))) a6 (some t7)], .stk t4 (Enc.str.fl a3), .tok t7 43])) (fun e => cg (.iface 58 (.agg #[.int .i64 e]))) rv) := by
 unfold lH at H
 refine ap Tryz.func50 rfl rfl ?_;show AW _ _ 43 _ _ _;refine af <| aa ?_;show AR _ _ _ _ _ [0] _;refine za rfl <| ag <| af <| aa ?_;show AR _ _ _ _ _ [0] _;refine za rfl <| ag <| bJ (X := Int) (fun y21 => ⟨[(0, .pt o1 0), (3, i64 y21)], [], [.obj o1 [S a2, .sk t4 a3.length, i64 a5, slE (ab Enc.int (ab Enc.str (ab Enc.str (Enc.sl (ab Enc.str Enc.str))))) a6 (some t7)], .stk t4 (Enc.str.fl a3), .tok t7 43]⟩) (fun y21 => jr F a2 y21 = some rv) ?_ ?_
 ·refine aR <| de (X := Nat × Int) (fun (n12, y10) => ⟨[(0, .pt o1 0), (3, i64 y10)], [], [.obj o1 [S a2, .sk t4 a3.length, i64 a5, slE (ab Enc.int (ab Enc.str (ab Enc.str (Enc.sl (ab Enc.str Enc.str))))) a6 (some t7)], .stk t4 (Enc.str.fl a3), .tok t7 43]⟩) (fun (n12, y10) => kP F a2 n12 y10 = some rv) (fun (n12, y10) => n12) (F, 0) H (bb [0, 0, 0] (.cons (.refl _) (.cons (.refl _) (.nil _))) rfl) ?_;rintro ⟨n12, y10⟩ H;obtain ⟨n12, rfl, H⟩ := eX H;replace H : kQ F a2 (kP F a2 n12) y10 = some rv := H
  unfold kQ at H
  refine af <| af ?_;obtain ⟨g14, H⟩ := cQ H;obtain ⟨x15, e16, H⟩ := bR H;obtain ⟨x17, e18, H⟩ := bR H;refine aa ?_;show AR _ _ _ _ _ [0, 1, 2, 3, 4, 5, 6, 7, 8, 9, 10, 11, 12, 13, 14, 15, 16] _;refine zm rfl <| zS rfl (ah (av := .pt _ _) rfl) <| zS rfl (ar rfl) <| zS rfl (an (n := 0) (by kernel_rfl) rfl) <| zR rfl (ao (i := 0) ai rfl rfl rfl rfl) <| zS rfl (bw ai rfl) <| zS rfl (bX rfl rfl) <| zm rfl <| aY (l := []) 21 (B ((decide (y10 < (a2.length : Int))) && (decide (0 ≤ x17)))) (fun K => ?_) ?_
  ·rcases al (decide (y10 < (a2.length : Int))) with h13 | h13
   ·refine zU h13 rfl (ah (av := .pt _ _) rfl) <| zU h13 rfl (ar rfl) <| zU h13 rfl (an (n := 0) (by kernel_rfl) rfl) <| zT h13 rfl (cm rfl rfl (ao (i := 0) ai rfl rfl rfl rfl) ?_);refine zM h13 rfl <| zU h13 rfl (bp ai rfl rfl (g14 h13) e16) <| zT h13 rfl (aC rfl pN rfl (show ACalls _ _ _ [] (Ret (i64 x17) []) from by subst e18; exact eS xmla_k1 x15) ?_);refine zU h13 rfl (fv rfl rfl) <| zS rfl (aD (av := .v _) rfl h13 rfl) ?_;exact K _ 8 _ (ay (cz h13)) rfl rfl
   ·refine zF h13 rfl <| zF h13 rfl <| zF h13 rfl <| zF h13 rfl <| zF h13 rfl <| zF h13 rfl <| zF h13 rfl <| zF h13 rfl <| zS rfl (aE (av := .v _) rfl h13 rfl) ?_;exact K _ 8 _ (ay (cA h13)) rfl rfl
  refine ag <| ax rfl (fun c19 => ?_) (fun c19 => ?_)
  ·replace H := aW c19 H;refine aA <| aR ?_;obtain ⟨g20, H⟩ := aN H;refine aa ?_;show AR _ _ _ _ _ [0, 1, 2] _;refine zm rfl <| zS rfl (cX rfl rfl g20) <| za rfl <| ag ?_;exact Exists.intro (n12, y10 + 1) ⟨H, Nat.lt_succ_self _, bb [0, 0, 0] (.cons (.refl _) (.cons (.refl _) (.nil _))) rfl⟩
  ·replace H := aX c19 H;refine cw ?_;exact Exists.intro y10 ⟨H, bb [0, 0, 0] (.cons (.refl _) (.cons (.refl _) (.nil _))) rfl⟩
 rintro y21 H;replace H : jr F a2 y21 = some rv := H
 unfold jr at H
 refine af ?_;obtain ⟨g23, H⟩ := aN H;obtain ⟨x24, e25, H⟩ := bR H;refine aa ?_;show AR _ _ _ _ _ [0, 1, 2, 3, 4, 5, 6] _;refine zS rfl (ah (av := .pt _ _) rfl) <| zS rfl (ar rfl) <| zS rfl (an (n := 0) (by kernel_rfl) rfl) <| zR rfl (ao (i := 0) ai rfl rfl rfl rfl) <| zm rfl <| zS rfl (la ai rfl rfl g23 e25) <| za rfl <| ag <| af ?_;obtain ⟨x26, e27, H⟩ := cd H
 rcases Or.symm (cq H) with ⟨p30, e29, H⟩ | ⟨x28, e29, H⟩
 ·subst H;refine aa ?_;show AR _ _ _ _ _ [0, 1, 2] _;refine zm rfl <| am rfl rfl (aC rfl te rfl (sF F x24 x26 e27) ?_);refine am rfl rfl (bc (c := cg (.iface 58 (.agg #[.int .i64 p30]))) [] rfl bU rfl (bV F x26 p30 e29) rfl ?_);exact And.intro rfl (Exists.intro [] ⟨ba _, rfl, rfl⟩)
 refine aa ?_;show AR _ _ _ _ _ [0, 1, 2] _;refine zm rfl <| am rfl rfl (aC rfl te rfl (sF F x24 x26 e27) ?_);refine am rfl rfl (aC rfl bU rfl (cn F x26 e29) ?_);refine ag <| af ?_;obtain ⟨g31, H⟩ := aN H;obtain ⟨x32, e33, H⟩ := bR H;refine aa ?_;show AR _ _ _ _ _ [0, 1, 2, 3, 4, 5, 6, 7, 8, 9] _;refine zS rfl (ah (av := .pt _ _) rfl) <| zS rfl (ah (av := .pt _ _) rfl) <| zS rfl (ar rfl) <| zS rfl (an (n := 0) (by kernel_rfl) rfl) <| zR rfl (ao (i := 0) ai rfl rfl rfl rfl) <| zm rfl <| zS rfl (eD ai rfl rfl g31 e33) <| zS rfl (ar rfl) <| zS rfl (an (n := 0) (by kernel_rfl) rfl) <| s0 rfl rfl (aq (i := 0) (c := .v _) (by kernel_rfl) rfl rfl rfl rfl (ac rfl)) <| ag <| af <| aa ?_;show AR _ _ _ _ _ [0, 1] _;refine zm rfl <| za rfl <| ag <| aI ?_;obtain rfl := ak H;exact And.intro rfl (Exists.intro _ (Exists.intro _ ⟨aG rfl (.refl _), aB [0, 0, 0] rfl, rfl, rfl⟩))
theorem mm (F : Nat) (o1 : Nat) (a2 : List UInt8) (a3 : List (List UInt8)) (t4 : Nat) (a5 : Int) (a6 : List (Int × (List UInt8) × (List UInt8) × List ((List UInt8) × List UInt8))) (t7 : Nat) (r8 : List UInt8) (r9 : List UInt8) (H : lH F a2 a3 a5 a6 = some (Res.ok (r8, r9))) : ACalls Tryz.prog 50 [.pt o1 0] [.obj o1 [S a2, .sk t4 a3.length, i64 a5, slE (ab Enc.int (ab Enc.str (ab Enc.str (Enc.sl (ab Enc.str Enc.str))))) a6 (some t7)], .stk t4 (Enc.str.fl a3), .tok t7 43] (fun e A' => e = .ret (S r8) ∧ A' = [.obj o1 [S r9, .sk t4 a3.length, i64 a5, slE (ab Enc.int (ab Enc.str (ab Enc.str (Enc.sl (ab Enc.str Enc.str))))) a6 (some t7)], .stk t4 (Enc.str.fl a3), .tok t7 43]) := sC F o1 a2 a3 t4 a5 a6 t7 _ H
theorem lx (F : Nat) (o1 : Nat) (a2 : List UInt8) (a3 : List (List UInt8)) (t4 : Nat) (a5 : Int) (a6 : List (Int × (List UInt8) × (List UInt8) × List ((List UInt8) × List UInt8))) (t7 : Nat) (e : Int) (H : lH F a2 a3 a5 a6 = some (Res.pan e)) : ACalls Tryz.prog 50 [.pt o1 0] [.obj o1 [S a2, .sk t4 a3.length, i64 a5, slE (ab Enc.int (ab Enc.str (ab Enc.str (Enc.sl (ab Enc.str Enc.str))))) a6 (some t7)], .stk t4 (Enc.str.fl a3), .tok t7 43] (fun ae A' => ae = .pan ((fun e => cg (.iface 58 (.agg #[.int .i64 e]))) e) ∧ A' = []) := sC F o1 a2 a3 t4 a5 a6 t7 _ H
set_option maxRecDepth 100000 in
set_option maxHeartbeats 1000000 in
theorem pW (F : Nat) (a1 : List UInt8) (rv : Res ((List UInt8))) (H : iM F a1 = some rv) : ACalls Tryz.prog 46 [S a1] [] (jo (fun (r : (List UInt8)) => (Ret (S r) [])) (fun e => cg (.iface 58 (.agg #[.int .i64 e]))) rv) := by
 unfold iM at H
 refine ap Tryz.func46 rfl rfl ?_;show AW _ _ 14 _ _ _;refine af <| aa ?_;show AR _ _ _ _ _ [0] _;refine za rfl <| ag <| af ?_;obtain ⟨x3, x4, e5, H⟩ := cF H;refine aa ?_;show AR _ _ _ _ _ [0, 1, 2, 3, 4, 5, 6] _;refine zm rfl <| am rfl rfl (aC rfl yf rfl (tW F a1 x3 x4 e5) ?_);refine zS rfl (ah (av := .tup _) rfl) <| zS rfl (az (av := .v _) rfl rfl) <| zS rfl (az (av := .v _) rfl rfl) <| za rfl <| za rfl <| ag <| af ?_
 rcases Or.symm (cq H) with ⟨p8, e7, H⟩ | ⟨x6, e7, H⟩
 ·subst H;refine aa ?_;show AR _ _ _ _ _ [0, 1, 2] _;refine zm rfl <| zS rfl (bK rfl rfl) <| am rfl rfl (bc (c := cg (.iface 58 (.agg #[.int .i64 p8]))) [] rfl bU rfl (bV F (decide (x4 = 0)) p8 e7) rfl ?_);exact And.intro rfl (Exists.intro [] ⟨ba _, rfl, rfl⟩)
 refine aa ?_;show AR _ _ _ _ _ [0, 1, 2] _;refine zm rfl <| zS rfl (bK rfl rfl) <| am rfl rfl (aC rfl bU rfl (cn F (decide (x4 = 0)) e7) ?_);refine ag <| af <| aa ?_;show AR _ _ _ _ _ [0, 1] _;refine zm rfl <| za rfl <| ag <| aI ?_;obtain rfl := ak H;exact And.intro rfl (Exists.intro _ (Exists.intro _ ⟨aG rfl (.refl _), aB [] rfl, rfl, rfl⟩))
theorem mX (F : Nat) (a1 : List UInt8) (r2 : List UInt8) (H : iM F a1 = some (Res.ok r2)) : ACalls Tryz.prog 46 [S a1] [] (Ret (S r2) []) := pW F a1 _ H
theorem mB (F : Nat) (a1 : List UInt8) (e : Int) (H : iM F a1 = some (Res.pan e)) : ACalls Tryz.prog 46 [S a1] [] (fun ae A' => ae = .pan ((fun e => cg (.iface 58 (.agg #[.int .i64 e]))) e) ∧ A' = []) := pW F a1 _ H
set_option maxRecDepth 100000 in
set_option maxHeartbeats 1000000 in
theorem sz (F : Nat) (o1 : Nat) (a2 : List UInt8) (a3 : List (List UInt8)) (t4 : Nat) (a5 : Int) (a6 : List (Int × (List UInt8) × (List UInt8) × List ((List UInt8) × List UInt8))) (t7 : Nat) (a8 : List UInt8) (r9 : List (Int × (List UInt8) × (List UInt8) × List ((List UInt8) × List UInt8))) (H : nN F a2 a3 a5 a6 a8 = some r9) : ACalls Tryz.prog 47 [.pt o1 0, S a8] [.obj o1 [S a2, .sk t4 a3.length, i64 a5, slE (ab Enc.int (ab Enc.str (ab Enc.str (Enc.sl (ab Enc.str Enc.str))))) a6 (some t7)], .stk t4 (Enc.str.fl a3), .tok t7 43] (fun e A' => e = .ret (.tup []) ∧ ∃ t10, A' = [.obj o1 [S a2, .sk t4 a3.length, i64 a5, slE (ab Enc.int (ab Enc.str (ab Enc.str (Enc.sl (ab Enc.str Enc.str))))) r9 (some t10)], .stk t4 (Enc.str.fl a3), .tok t10 43]) := by
 unfold nN at H
 refine ap Tryz.func47 rfl rfl ?_;show AW _ _ 17 _ _ _;refine af <| aa ?_;show AR _ _ _ _ _ [0, 1] _;refine zm rfl <| zS rfl (jp rfl rfl) <| ag <| ax rfl (fun c11 => ?_) (fun c11 => ?_)
 ·replace H := aW c11 H;obtain ⟨g13, H⟩ := aN H;obtain ⟨x14, e15, H⟩ := bR H;refine aa ?_;show AR _ _ _ _ _ [0, 1, 2, 3, 4, 5, 6, 7, 8, 9, 10, 11] _;refine zS rfl (ah (av := .pt _ _) rfl) <| zS rfl (ah (av := .pt _ _) rfl) <| zS rfl (ar rfl) <| zS rfl (an (n := 3) (by kernel_rfl) rfl) <| zR rfl (ao (i := 0) aP rfl rfl rfl rfl) <| zm rfl <| zS rfl (cP (zs := [.int .i64 0, .string ⟨#[]⟩, .string ⟨#[]⟩, .slice none 0 0]) (ps := [(0, 1), (1, 1), (2, 1), (3, 1)]) (cs := [i64 2, S ([] : List UInt8), S a8, eE]) (by kernel_rfl) rfl rfl) <| zR rfl (jx (ds := [i64 2, S ([] : List UInt8), S a8, slE (ab Enc.str Enc.str) ([] : List ((List UInt8) × List UInt8)) none]) 12 (.cons (.refl _) (.cons (.refl _) (.cons (.refl _) (.cons (.nil _) (.nil))))) (hc := rfl) <| dX (E := (ab Enc.int (ab Enc.str (ab Enc.str (Enc.sl (ab Enc.str Enc.str)))))) (bytes := 64) (zs := [.int .i64 0, .string ⟨#[]⟩, .string ⟨#[]⟩, .slice none 0 0]) (l := ([(2, ([] : List UInt8), a8, ([] : List ((List UInt8) × List UInt8)))] : List (Int × (List UInt8) × (List UInt8) × List ((List UInt8) × List UInt8)))) aP (by kernel_rfl) (by kernel_rfl) rfl rfl rfl rfl rfl) <| zX rfl (ip (E := (ab Enc.int (ab Enc.str (ab Enc.str (Enc.sl (ab Enc.str Enc.str)))))) (bytes := 64) 2 aP aP rfl (by kernel_rfl) rfl rfl rfl rfl g13 e15) ?_;rintro _ _ ⟨t12, rfl, rfl⟩
  refine zS rfl (ar rfl) <| zS rfl (an (n := 3) (by kernel_rfl) rfl) <| s0 rfl rfl (aq (i := 0) (c := slE _ _ _) (by kernel_rfl) rfl rfl rfl rfl (ac rfl)) <| ag ?_;obtain rfl := ak H;exact And.intro rfl (Exists.intro _ (Exists.intro _ ⟨bj rfl, aB [0, 0, 0] rfl, rfl, t12, rfl⟩))
 ·replace H := aX c11 H;refine aA ?_;obtain rfl := ak H;exact And.intro rfl (Exists.intro _ (Exists.intro _ ⟨bj rfl, aB [0, 0, 0] rfl, rfl, t7, rfl⟩))
set_option maxRecDepth 100000 in
set_option maxHeartbeats 1000000 in
theorem sB (F : Nat) (o1 : Nat) (a2 : List UInt8) (a3 : List (List UInt8)) (t4 : Nat) (a5 : Int) (a6 : List (Int × (List UInt8) × (List UInt8) × List ((List UInt8) × List UInt8))) (t7 : Nat) (a8 : List UInt8) (rv : Res ((List (Int × (List UInt8) × (List UInt8) × List ((List UInt8) × List UInt8))) × (List (List UInt8)))) (H : lG F a2 a3 a5 a6 a8 = some rv) : ACalls Tryz.prog 52 [.pt o1 0, S a8] [.obj o1 [S a2, .sk t4 a3.length, i64 a5, slE (ab Enc.int (ab Enc.str (ab Enc.str (Enc.sl (ab Enc.str Enc.str))))) a6 (some t7)], .stk t4 (Enc.str.fl a3), .tok t7 43] (jo (fun (r : (List (Int × (List UInt8) × (List UInt8) × List ((List UInt8) × List UInt8))) × (List (List UInt8))) => (fun e A' => e = .ret (.tup []) ∧ ∃ t10 t12, A' = [.obj o1 [S a2, .sk t10 r.2.length, i64 a5, slE (ab Enc.int (ab Enc.str (ab Enc.str (Enc.sl (ab Enc.str Enc.str))))) r.1 (some t12)], .stk t10 (Enc.str.fl r.2), .tok t12 43])) (fun e => cg (.iface 58 (.agg #[.int .i64 e]))) rv) := by
 unfold lG at H
 refine ap Tryz.func52 rfl rfl ?_;show AW _ _ 45 _ _ _;refine af ?_;obtain ⟨g13, H⟩ := aN H;refine aa ?_;show AR _ _ _ _ _ [0, 1, 2, 3, 4, 5, 6] _;refine zS rfl (ah (av := .pt _ _) rfl) <| zS rfl (ar rfl) <| zS rfl (an (n := 1) (by kernel_rfl) rfl) <| zR rfl (ao (i := 0) au rfl rfl rfl rfl) <| zS rfl (fb au rfl) <| zS rfl (lw rfl rfl g13) <| za rfl <| ag <| af ?_;obtain ⟨g15, H⟩ := cQ H;obtain ⟨g16, H⟩ := cQ H;obtain ⟨x17, e18, H⟩ := bR H
 rcases Or.symm (cq H) with ⟨p21, e20, H⟩ | ⟨x19, e20, H⟩
 ·subst H;refine aa ?_;show AR _ _ _ _ _ [0, 1, 2, 3, 4, 5, 6, 7, 8, 9, 10, 11, 12, 13] _;refine zm rfl <| zS rfl (fv rfl rfl) <| zm rfl <| aY (l := [13]) 23 (B ((decide (0 ≤ (a3.length : Int) - 1)) && (decide (x17 = a8)))) (fun K => ?_) ?_
  ·rcases al (decide (0 ≤ (a3.length : Int) - 1)) with h14 | h14
   ·refine zU h14 rfl (ah (av := .pt _ _) rfl) <| zU h14 rfl (ar rfl) <| zU h14 rfl (an (n := 1) (by kernel_rfl) rfl) <| zT h14 rfl (cm rfl rfl (ao (i := 0) au rfl rfl rfl rfl) ?_);refine zM h14 rfl <| zU h14 rfl (kO au (by kernel_rfl) rfl rfl (g15 h14)) <| zT h14 rfl (cm rfl rfl (oE (E := Enc.str) 1 ai rfl rfl rfl rfl (g16 h14) e18 rfl) ?_);refine zM h14 rfl <| zU h14 rfl (dR rfl rfl) <| zS rfl (aD (av := .v _) rfl h14 rfl) ?_;exact K _ 9 _ (ay (cz h14)) rfl rfl
   ·refine zF h14 rfl <| zF h14 rfl <| zF h14 rfl <| zF h14 rfl <| zF h14 rfl <| zF h14 rfl <| zF h14 rfl <| zF h14 rfl <| zF h14 rfl <| zS rfl (aE (av := .v _) rfl h14 rfl) ?_;exact K _ 9 _ (ay (cA h14)) rfl rfl
  refine am rfl rfl (bc (c := cg (.iface 58 (.agg #[.int .i64 p21]))) [] rfl bU rfl (bV F ((decide (0 ≤ (a3.length : Int) - 1)) && (decide (x17 = a8))) p21 e20) rfl ?_);exact And.intro rfl (Exists.intro [] ⟨ba _, rfl, rfl⟩)
 refine aa ?_;show AR _ _ _ _ _ [0, 1, 2, 3, 4, 5, 6, 7, 8, 9, 10, 11, 12, 13] _;refine zm rfl <| zS rfl (fv rfl rfl) <| zm rfl <| aY (l := [13]) 23 (B ((decide (0 ≤ (a3.length : Int) - 1)) && (decide (x17 = a8)))) (fun K => ?_) ?_
 ·rcases al (decide (0 ≤ (a3.length : Int) - 1)) with h14 | h14
  ·refine zU h14 rfl (ah (av := .pt _ _) rfl) <| zU h14 rfl (ar rfl) <| zU h14 rfl (an (n := 1) (by kernel_rfl) rfl) <| zT h14 rfl (cm rfl rfl (ao (i := 0) au rfl rfl rfl rfl) ?_);refine zM h14 rfl <| zU h14 rfl (kO au (by kernel_rfl) rfl rfl (g15 h14)) <| zT h14 rfl (cm rfl rfl (oE (E := Enc.str) 1 ai rfl rfl rfl rfl (g16 h14) e18 rfl) ?_);refine zM h14 rfl <| zU h14 rfl (dR rfl rfl) <| zS rfl (aD (av := .v _) rfl h14 rfl) ?_;exact K _ 9 _ (ay (cz h14)) rfl rfl
  ·refine zF h14 rfl <| zF h14 rfl <| zF h14 rfl <| zF h14 rfl <| zF h14 rfl <| zF h14 rfl <| zF h14 rfl <| zF h14 rfl <| zF h14 rfl <| zS rfl (aE (av := .v _) rfl h14 rfl) ?_;exact K _ 9 _ (ay (cA h14)) rfl rfl
 refine am rfl rfl (aC rfl bU rfl (cn F ((decide (0 ≤ (a3.length : Int) - 1)) && (decide (x17 = a8))) e20) ?_);refine ag <| af ?_;obtain ⟨g22, H⟩ := aN H;obtain ⟨x23, e24, H⟩ := bR H;refine aa ?_;show AR _ _ _ _ _ [0, 1, 2, 3, 4, 5, 6, 7, 8, 9] _;refine zS rfl (ah (av := .pt _ _) rfl) <| zS rfl (ah (av := .pt _ _) rfl) <| zS rfl (ar rfl) <| zS rfl (an (n := 1) (by kernel_rfl) rfl) <| zR rfl (ao (i := 0) au rfl rfl rfl rfl) <| zm rfl <| zR rfl (rx (E := Enc.str) 1 au (by kernel_rfl) rfl rfl rfl rfl g22 e24) <| zS rfl (ar rfl) <| zS rfl (an (n := 1) (by kernel_rfl) rfl) <| s0 rfl rfl (aq (i := 0) (c := .sk _ _) (by kernel_rfl) rfl rfl rfl rfl (ac rfl)) <| ag ?_;obtain ⟨g26, H⟩ := aN H;obtain ⟨x27, e28, H⟩ := bR H;refine aa ?_;show AR _ _ _ _ _ [0, 1, 2, 3, 4, 5, 6, 7, 8, 9, 10, 11] _
 refine zS rfl (ah (av := .pt _ _) rfl) <| zS rfl (ah (av := .pt _ _) rfl) <| zS rfl (ar rfl) <| zS rfl (an (n := 3) (by kernel_rfl) rfl) <| zR rfl (ao (i := 0) aP rfl rfl rfl rfl) <| zm rfl <| zS rfl (cP (zs := [.int .i64 0, .string ⟨#[]⟩, .string ⟨#[]⟩, .slice none 0 0]) (ps := [(0, 1), (1, 1), (2, 1), (3, 1)]) (cs := [i64 1, S a8, S ([] : List UInt8), eE]) (by kernel_rfl) rfl rfl) <| zR rfl (jx (ds := [i64 1, S a8, S ([] : List UInt8), slE (ab Enc.str Enc.str) ([] : List ((List UInt8) × List UInt8)) none]) 40 (.cons (.refl _) (.cons (.refl _) (.cons (.refl _) (.cons (.nil _) (.nil))))) (hc := rfl) <| dX (E := (ab Enc.int (ab Enc.str (ab Enc.str (Enc.sl (ab Enc.str Enc.str)))))) (bytes := 64) (zs := [.int .i64 0, .string ⟨#[]⟩, .string ⟨#[]⟩, .slice none 0 0]) (l := ([(1, a8, ([] : List UInt8), ([] : List ((List UInt8) × List UInt8)))] : List (Int × (List UInt8) × (List UInt8) × List ((List UInt8) × List UInt8)))) aP (by kernel_rfl) (by kernel_rfl) rfl rfl rfl rfl rfl) <| zX rfl (ip (E := (ab Enc.int (ab Enc.str (ab Enc.str (Enc.sl (ab Enc.str Enc.str)))))) (bytes := 64) 2 aP aP rfl (by kernel_rfl) rfl rfl rfl rfl g26 e28) ?_;rintro _ _ ⟨t25, rfl, rfl⟩;refine zS rfl (ar rfl) <| zS rfl (an (n := 3) (by kernel_rfl) rfl) <| s0 rfl rfl (aq (i := 0) (c := slE _ _ _) (by kernel_rfl) rfl rfl rfl rfl (ac rfl)) <| ag ?_
 obtain rfl := ak H;exact And.intro rfl (Exists.intro _ (Exists.intro _ ⟨bj rfl, aB [0, 0, 0] rfl, rfl, t4, t25, rfl⟩))
theorem oO (F : Nat) (o1 : Nat) (a2 : List UInt8) (a3 : List (List UInt8)) (t4 : Nat) (a5 : Int) (a6 : List (Int × (List UInt8) × (List UInt8) × List ((List UInt8) × List UInt8))) (t7 : Nat) (a8 : List UInt8) (r11 : List (Int × (List UInt8) × (List UInt8) × List ((List UInt8) × List UInt8))) (r9 : List (List UInt8)) (H : lG F a2 a3 a5 a6 a8 = some (Res.ok (r11, r9))) : ACalls Tryz.prog 52 [.pt o1 0, S a8] [.obj o1 [S a2, .sk t4 a3.length, i64 a5, slE (ab Enc.int (ab Enc.str (ab Enc.str (Enc.sl (ab Enc.str Enc.str))))) a6 (some t7)], .stk t4 (Enc.str.fl a3), .tok t7 43] (fun e A' => e = .ret (.tup []) ∧ ∃ t10 t12, A' = [.obj o1 [S a2, .sk t10 r9.length, i64 a5, slE (ab Enc.int (ab Enc.str (ab Enc.str (Enc.sl (ab Enc.str Enc.str))))) r11 (some t12)], .stk t10 (Enc.str.fl r9), .tok t12 43]) := sB F o1 a2 a3 t4 a5 a6 t7 a8 _ H
theorem oc (F : Nat) (o1 : Nat) (a2 : List UInt8) (a3 : List (List UInt8)) (t4 : Nat) (a5 : Int) (a6 : List (Int × (List UInt8) × (List UInt8) × List ((List UInt8) × List UInt8))) (t7 : Nat) (a8 : List UInt8) (e : Int) (H : lG F a2 a3 a5 a6 a8 = some (Res.pan e)) : ACalls Tryz.prog 52 [.pt o1 0, S a8] [.obj o1 [S a2, .sk t4 a3.length, i64 a5, slE (ab Enc.int (ab Enc.str (ab Enc.str (Enc.sl (ab Enc.str Enc.str))))) a6 (some t7)], .stk t4 (Enc.str.fl a3), .tok t7 43] (fun ae A' => ae = .pan ((fun e => cg (.iface 58 (.agg #[.int .i64 e]))) e) ∧ A' = []) := sB F o1 a2 a3 t4 a5 a6 t7 a8 _ H
set_option maxRecDepth 100000 in
set_option maxHeartbeats 1000000 in
theorem rk (F : Nat) (o1 : Nat) (a2 : List UInt8) (a3 : List (List UInt8)) (t4 : Nat) (a5 : Int) (a6 : List (Int × (List UInt8) × (List UInt8) × List ((List UInt8) × List UInt8))) (t7 : Nat) (rv : Res (Bool × (List UInt8) × (List (Int × (List UInt8) × (List UInt8) × List ((List UInt8) × List UInt8))))) (H : jj F a2 a3 a5 a6 = some rv) : ACalls Tryz.prog 31 [.pt o1 0] [.obj o1 [S a2, .sk t4 a3.length, i64 a5, slE (ab Enc.int (ab Enc.str (ab Enc.str (Enc.sl (ab Enc.str Enc.str))))) a6 (some t7)], .stk t4 (Enc.str.fl a3), .tok t7 43] (jo (fun (r : Bool × (List UInt8) × (List (Int × (List UInt8) × (List UInt8) × List ((List UInt8) × List UInt8)))) => (fun e A' => e = .ret (B r.1) ∧ ∃ t11, A' = [.obj o1 [S r.2.1, .sk t4 a3.length, i64 a5, slE (ab Enc.int (ab Enc.str (ab Enc.str (Enc.sl (ab Enc.str Enc.str))))) r.2.2 (some t11)], .stk t4 (Enc.str.fl a3), .tok t11 43])) (fun e => cg (.iface 58 (.agg #[.int .i64 e]))) rv) := by
 unfold jj at H
 refine ap Tryz.func31 rfl rfl ?_;show AW _ _ 50 _ _ _;refine af <| aa ?_;show AR _ _ _ _ _ [0] _;refine za rfl <| ag <| af ?_;obtain ⟨x12, e13, H⟩ := bR H;refine aa ?_;show AR _ _ _ _ _ [0, 1, 2, 3, 4, 5] _;refine zS rfl (ah (av := .pt _ _) rfl) <| zS rfl (ar rfl) <| zS rfl (an (n := 0) (by kernel_rfl) rfl) <| zR rfl (ao (i := 0) ai rfl rfl rfl rfl) <| am rfl rfl (aC rfl pN rfl (show ACalls _ _ _ [] (Ret (i64 x12) []) from by subst e13; exact eS a2 60) ?_);refine za rfl <| ag <| bJ (X := Int) (fun y15 => ⟨[(0, .pt o1 0), (3, i64 y15)], [], [.obj o1 [S a2, .sk t4 a3.length, i64 a5, slE (ab Enc.int (ab Enc.str (ab Enc.str (Enc.sl (ab Enc.str Enc.str))))) a6 (some t7)], .stk t4 (Enc.str.fl a3), .tok t7 43]⟩) (fun y15 => fF F a2 a3 a5 a6 y15 = some rv) ?_ ?_
 ·refine af <| aa ?_;show AR _ _ _ _ _ [0, 1] _;refine zm rfl <| zS rfl (bX rfl rfl) <| ag <| ax rfl (fun c14 => ?_) (fun c14 => ?_)
  ·replace H := aW c14 H;refine aa ?_;show AR _ _ _ _ _ [0, 1, 2, 3, 4, 5] _;refine zS rfl (ah (av := .pt _ _) rfl) <| zS rfl (ar rfl) <| zS rfl (an (n := 0) (by kernel_rfl) rfl) <| zR rfl (ao (i := 0) ai rfl rfl rfl rfl) <| zS rfl (bw ai rfl) <| za rfl <| ag ?_;exact Exists.intro (a2.length : Int) ⟨H, bb [0, 0, 0] (.cons (.refl _) (.cons (.refl _) (.nil _))) rfl⟩
  ·replace H := aX c14 H;refine aA ?_;exact Exists.intro x12 ⟨H, bb [0, 0, 0] (.cons (.refl _) (.cons (.refl _) (.nil _))) rfl⟩
 rintro y15 H;replace H : fF F a2 a3 a5 a6 y15 = some rv := H
 unfold fF at H
 refine af <| af <| aa ?_;show AR _ _ _ _ _ [0, 1] _;refine zm rfl <| zS rfl (bK rfl rfl) <| ag <| ax rfl (fun c17 => ?_) (fun c17 => ?_)
 ·replace H := aW c17 H;refine af <| aa ?_;show AR _ _ _ _ _ [0] _;refine za rfl <| ag <| aI ?_;obtain rfl := ak H;exact And.intro rfl (Exists.intro _ (Exists.intro _ ⟨aG rfl (.refl _), aB [0, 0, 0] rfl, rfl, t7, rfl⟩))
 ·replace H := aX c17 H;refine aA <| af ?_;obtain ⟨g18, H⟩ := aN H;obtain ⟨x19, e20, H⟩ := bR H;refine aa ?_;show AR _ _ _ _ _ [0, 1, 2, 3, 4, 5, 6] _;refine zS rfl (ah (av := .pt _ _) rfl) <| zS rfl (ar rfl) <| zS rfl (an (n := 0) (by kernel_rfl) rfl) <| zR rfl (ao (i := 0) ai rfl rfl rfl rfl) <| zm rfl <| zS rfl (la ai rfl rfl g18 e20) <| za rfl <| ag <| af ?_;obtain ⟨g21, H⟩ := aN H;obtain ⟨x22, e23, H⟩ := bR H;refine aa ?_;show AR _ _ _ _ _ [0, 1, 2, 3, 4, 5, 6, 7, 8, 9] _;refine zS rfl (ah (av := .pt _ _) rfl) <| zS rfl (ah (av := .pt _ _) rfl) <| zS rfl (ar rfl) <| zS rfl (an (n := 0) (by kernel_rfl) rfl) <| zR rfl (ao (i := 0) ai rfl rfl rfl rfl) <| zm rfl <| zS rfl (eD ai rfl rfl g21 e23) <| zS rfl (ar rfl) <| zS rfl (an (n := 0) (by kernel_rfl) rfl) <| s0 rfl rfl (aq (i := 0) (c := .v _) (by kernel_rfl) rfl rfl rfl rfl (ac rfl)) <| ag <| af ?_
  rcases Or.symm (cq H) with ⟨p26, e25, H⟩ | ⟨x24, e25, H⟩
  ·subst H;refine aa ?_;show AR _ _ _ _ _ [0, 1, 2] _;refine zm rfl <| am rfl rfl (bc (c := cg (.iface 58 (.agg #[.int .i64 p26]))) [] rfl nF rfl (mB F x19 p26 e25) rfl ?_);exact And.intro rfl (Exists.intro [] ⟨ba _, rfl, rfl⟩)
  refine aa ?_;show AR _ _ _ _ _ [0, 1, 2] _;refine zm rfl <| am rfl rfl (aC rfl nF rfl (mX F x19 x24 e25) ?_);refine za rfl <| ag <| af <| af <| aa ?_;show AR _ _ _ _ _ [0, 1, 2, 3, 4, 5] _;refine zS rfl (ah (av := .pt _ _) rfl) <| zS rfl (ar rfl) <| zS rfl (an (n := 1) (by kernel_rfl) rfl) <| zR rfl (ao (i := 0) au rfl rfl rfl rfl) <| zS rfl (fb au rfl) <| zS rfl (bK rfl rfl) <| ag <| ax rfl (fun c27 => ?_) (fun c27 => ?_)
  ·replace H := aW c27 H;refine af ?_;obtain ⟨x28, e29, H⟩ := cd H
   rcases Or.symm (cq H) with ⟨p32, e31, H⟩ | ⟨x30, e31, H⟩
   ·subst H;refine aa ?_;show AR _ _ _ _ _ [0, 1, 2, 3] _;refine zm rfl <| am rfl rfl (aC rfl tv rfl (oy F x19 x28 e29) ?_);refine zS rfl (dR rfl rfl) <| am rfl rfl (bc (c := cg (.iface 58 (.agg #[.int .i64 p32]))) [] rfl bU rfl (bV F (decide (x28 = ([] : List UInt8))) p32 e31) rfl ?_);exact And.intro rfl (Exists.intro [] ⟨ba _, rfl, rfl⟩)
   refine aa ?_;show AR _ _ _ _ _ [0, 1, 2, 3] _;refine zm rfl <| am rfl rfl (aC rfl tv rfl (oy F x19 x28 e29) ?_);refine zS rfl (dR rfl rfl) <| am rfl rfl (aC rfl bU rfl (cn F (decide (x28 = ([] : List UInt8))) e31) ?_);refine ag <| af <| aa ?_;show AR _ _ _ _ _ [0] _;refine za rfl <| ag <| aI ?_;obtain rfl := ak H;exact And.intro rfl (Exists.intro _ (Exists.intro _ ⟨aG rfl (.refl _), aB [0, 0, 0] rfl, rfl, t7, rfl⟩))
  ·replace H := aX c27 H;refine aA <| af ?_;obtain ⟨x33, e34, H⟩ := cd H;refine aa ?_;show AR _ _ _ _ _ [0, 1, 2] _;refine zS rfl (ah (av := .pt _ _) rfl) <| zm rfl <| am rfl rfl (aQ [0, 0, 0] rfl tj rfl (sz F o1 x22 a3 t4 a5 a6 t7 x24 x33 e34) rfl (fun c A' h => by cases h.1) ?_)
   rintro av A' ⟨h, t35, rfl⟩; cases h
   refine ag <| af <| aa ?_;show AR _ _ _ _ _ [0] _;refine za rfl <| ag <| aI ?_;obtain rfl := ak H;exact And.intro rfl (Exists.intro _ (Exists.intro _ ⟨aG rfl (.refl _), aB [0, 0, 0] rfl, rfl, t35, rfl⟩))
theorem rS (F : Nat) (o1 : Nat) (a2 : List UInt8) (a3 : List (List UInt8)) (t4 : Nat) (a5 : Int) (a6 : List (Int × (List UInt8) × (List UInt8) × List ((List UInt8) × List UInt8))) (t7 : Nat) (r8 : Bool) (r9 : List UInt8) (r10 : List (Int × (List UInt8) × (List UInt8) × List ((List UInt8) × List UInt8))) (H : jj F a2 a3 a5 a6 = some (Res.ok (r8, r9, r10))) : ACalls Tryz.prog 31 [.pt o1 0] [.obj o1 [S a2, .sk t4 a3.length, i64 a5, slE (ab Enc.int (ab Enc.str (ab Enc.str (Enc.sl (ab Enc.str Enc.str))))) a6 (some t7)], .stk t4 (Enc.str.fl a3), .tok t7 43] (fun e A' => e = .ret (B r8) ∧ ∃ t11, A' = [.obj o1 [S r9, .sk t4 a3.length, i64 a5, slE (ab Enc.int (ab Enc.str (ab Enc.str (Enc.sl (ab Enc.str Enc.str))))) r10 (some t11)], .stk t4 (Enc.str.fl a3), .tok t11 43]) := rk F o1 a2 a3 t4 a5 a6 t7 _ H
theorem qT (F : Nat) (o1 : Nat) (a2 : List UInt8) (a3 : List (List UInt8)) (t4 : Nat) (a5 : Int) (a6 : List (Int × (List UInt8) × (List UInt8) × List ((List UInt8) × List UInt8))) (t7 : Nat) (e : Int) (H : jj F a2 a3 a5 a6 = some (Res.pan e)) : ACalls Tryz.prog 31 [.pt o1 0] [.obj o1 [S a2, .sk t4 a3.length, i64 a5, slE (ab Enc.int (ab Enc.str (ab Enc.str (Enc.sl (ab Enc.str Enc.str))))) a6 (some t7)], .stk t4 (Enc.str.fl a3), .tok t7 43] (fun ae A' => ae = .pan ((fun e => cg (.iface 58 (.agg #[.int .i64 e]))) e) ∧ A' = []) := rk F o1 a2 a3 t4 a5 a6 t7 _ H
set_option maxRecDepth 100000 in
set_option maxHeartbeats 1000000 in
theorem oQ (F : Nat) (o1 : Nat) (a2 : List UInt8) (a3 : List (List UInt8)) (t4 : Nat) (a5 : Int) (a6 : List (Int × (List UInt8) × (List UInt8) × List ((List UInt8) × List UInt8))) (t7 : Nat) (rv : Res (Bool × (List UInt8))) (H : js F a2 a3 a5 a6 = some rv) : ACalls Tryz.prog 32 [.pt o1 0] [.obj o1 [S a2, .sk t4 a3.length, i64 a5, slE (ab Enc.int (ab Enc.str (ab Enc.str (Enc.sl (ab Enc.str Enc.str))))) a6 (some t7)], .stk t4 (Enc.str.fl a3), .tok t7 43] (jo (fun (r : Bool × (List UInt8)) => (fun e A' => e = .ret (B r.1) ∧ A' = [.obj o1 [S r.2, .sk t4 a3.length, i64 a5, slE (ab Enc.int (ab Enc.str (ab Enc.str (Enc.sl (ab Enc.str Enc.str))))) a6 (some t7)], .stk t4 (Enc.str.fl a3), .tok t7 43])) (fun e => cg (.iface 58 (.agg #[.int .i64 e]))) rv) := by
 unfold js at H
 refine ap Tryz.func32 rfl rfl ?_;show AW _ _ 8 _ _ _;refine af <| aa ?_;show AR _ _ _ _ _ [0] _;refine za rfl <| ag <| af <| af ?_;obtain ⟨x10, x11, e12, H⟩ := cF H;refine aa ?_;show AR _ _ _ _ _ [0, 1, 2] _;refine zS rfl (ah (av := .pt _ _) rfl) <| am rfl rfl (aQ [0, 0, 0] rfl er rfl (eo F o1 a2 a3 t4 a5 a6 t7 ([60, 33, 45, 45] : List UInt8) x10 x11 e12) rfl (fun c A' h => by cases h.1) ?_)
 rintro av A' ⟨h, rfl⟩; cases h
 refine zS rfl (bG rfl) <| ag <| ax rfl (fun c13 => ?_) (fun c13 => ?_)
 ·replace H := aW c13 H;refine af <| aa ?_;show AR _ _ _ _ _ [0] _;refine za rfl <| ag <| aI ?_;obtain rfl := ak H;exact And.intro rfl (Exists.intro _ (Exists.intro _ ⟨aG rfl (.refl _), aB [0, 0, 0] rfl, rfl, rfl⟩))
 ·replace H := aX c13 H;refine aA <| af ?_
  rcases Or.symm (cq H) with ⟨p16, e15, H⟩ | ⟨x14, e15, H⟩
  ·subst H;refine aa ?_;show AR _ _ _ _ _ [0, 1] _;refine zS rfl (ah (av := .pt _ _) rfl) <| am rfl rfl (bc (c := cg (.iface 58 (.agg #[.int .i64 p16]))) [0, 0, 0] rfl gj rfl (gS F o1 x11 a3 t4 a5 a6 t7 ([45, 45, 62] : List UInt8) p16 e15) rfl ?_);exact And.intro rfl (Exists.intro [] ⟨ba _, rfl, rfl⟩)
  refine aa ?_;show AR _ _ _ _ _ [0, 1] _;refine zS rfl (ah (av := .pt _ _) rfl) <| am rfl rfl (aQ [0, 0, 0] rfl gj rfl (jc F o1 x11 a3 t4 a5 a6 t7 ([45, 45, 62] : List UInt8) x14.1 x14.2 e15) rfl (fun c A' h => by cases h.1) ?_)
  rintro av A' ⟨h, rfl⟩; cases h
  refine ag <| af <| aa ?_;show AR _ _ _ _ _ [0] _;refine za rfl <| ag <| aI ?_;obtain rfl := ak H;exact And.intro rfl (Exists.intro _ (Exists.intro _ ⟨aG rfl (.refl _), aB [0, 0, 0] rfl, rfl, rfl⟩))
theorem qx (F : Nat) (o1 : Nat) (a2 : List UInt8) (a3 : List (List UInt8)) (t4 : Nat) (a5 : Int) (a6 : List (Int × (List UInt8) × (List UInt8) × List ((List UInt8) × List UInt8))) (t7 : Nat) (r8 : Bool) (r9 : List UInt8) (H : js F a2 a3 a5 a6 = some (Res.ok (r8, r9))) : ACalls Tryz.prog 32 [.pt o1 0] [.obj o1 [S a2, .sk t4 a3.length, i64 a5, slE (ab Enc.int (ab Enc.str (ab Enc.str (Enc.sl (ab Enc.str Enc.str))))) a6 (some t7)], .stk t4 (Enc.str.fl a3), .tok t7 43] (fun e A' => e = .ret (B r8) ∧ A' = [.obj o1 [S r9, .sk t4 a3.length, i64 a5, slE (ab Enc.int (ab Enc.str (ab Enc.str (Enc.sl (ab Enc.str Enc.str))))) a6 (some t7)], .stk t4 (Enc.str.fl a3), .tok t7 43]) := oQ F o1 a2 a3 t4 a5 a6 t7 _ H
theorem pC (F : Nat) (o1 : Nat) (a2 : List UInt8) (a3 : List (List UInt8)) (t4 : Nat) (a5 : Int) (a6 : List (Int × (List UInt8) × (List UInt8) × List ((List UInt8) × List UInt8))) (t7 : Nat) (e : Int) (H : js F a2 a3 a5 a6 = some (Res.pan e)) : ACalls Tryz.prog 32 [.pt o1 0] [.obj o1 [S a2, .sk t4 a3.length, i64 a5, slE (ab Enc.int (ab Enc.str (ab Enc.str (Enc.sl (ab Enc.str Enc.str))))) a6 (some t7)], .stk t4 (Enc.str.fl a3), .tok t7 43] (fun ae A' => ae = .pan ((fun e => cg (.iface 58 (.agg #[.int .i64 e]))) e) ∧ A' = []) := oQ F o1 a2 a3 t4 a5 a6 t7 _ H
set_option maxRecDepth 100000 in
set_option maxHeartbeats 1000000 in
theorem vm (F : Nat) (o1 : Nat) (a2 : List UInt8) (a3 : List (List UInt8)) (t4 : Nat) (a5 : Int) (a6 : List (Int × (List UInt8) × (List UInt8) × List ((List UInt8) × List UInt8))) (t7 : Nat) (rv : Res (Bool × (List UInt8))) (H : qs F a2 a3 a5 a6 = some rv) : ACalls Tryz.prog 33 [.pt o1 0] [.obj o1 [S a2, .sk t4 a3.length, i64 a5, slE (ab Enc.int (ab Enc.str (ab Enc.str (Enc.sl (ab Enc.str Enc.str))))) a6 (some t7)], .stk t4 (Enc.str.fl a3), .tok t7 43] (jo (fun (r : Bool × (List UInt8)) => (fun e A' => e = .ret (B r.1) ∧ A' = [.obj o1 [S r.2, .sk t4 a3.length, i64 a5, slE (ab Enc.int (ab Enc.str (ab Enc.str (Enc.sl (ab Enc.str Enc.str))))) a6 (some t7)], .stk t4 (Enc.str.fl a3), .tok t7 43])) (fun e => cg (.iface 58 (.agg #[.int .i64 e]))) rv) := by
 unfold qs at H
 refine ap Tryz.func33 rfl rfl ?_;show AW _ _ 8 _ _ _;refine af <| aa ?_;show AR _ _ _ _ _ [0] _;refine za rfl <| ag <| af <| af ?_;obtain ⟨x10, x11, e12, H⟩ := cF H;refine aa ?_;show AR _ _ _ _ _ [0, 1, 2] _;refine zS rfl (ah (av := .pt _ _) rfl) <| am rfl rfl (aQ [0, 0, 0] rfl er rfl (eo F o1 a2 a3 t4 a5 a6 t7 ([60, 63] : List UInt8) x10 x11 e12) rfl (fun c A' h => by cases h.1) ?_)
 rintro av A' ⟨h, rfl⟩; cases h
 refine zS rfl (bG rfl) <| ag <| ax rfl (fun c13 => ?_) (fun c13 => ?_)
 ·replace H := aW c13 H;refine af <| aa ?_;show AR _ _ _ _ _ [0] _;refine za rfl <| ag <| aI ?_;obtain rfl := ak H;exact And.intro rfl (Exists.intro _ (Exists.intro _ ⟨aG rfl (.refl _), aB [0, 0, 0] rfl, rfl, rfl⟩))
 ·replace H := aX c13 H;refine aA <| af ?_
  rcases Or.symm (cq H) with ⟨p16, e15, H⟩ | ⟨x14, e15, H⟩
  ·subst H;refine aa ?_;show AR _ _ _ _ _ [0, 1] _;refine zS rfl (ah (av := .pt _ _) rfl) <| am rfl rfl (bc (c := cg (.iface 58 (.agg #[.int .i64 p16]))) [0, 0, 0] rfl gj rfl (gS F o1 x11 a3 t4 a5 a6 t7 ([63, 62] : List UInt8) p16 e15) rfl ?_);exact And.intro rfl (Exists.intro [] ⟨ba _, rfl, rfl⟩)
  refine aa ?_;show AR _ _ _ _ _ [0, 1] _;refine zS rfl (ah (av := .pt _ _) rfl) <| am rfl rfl (aQ [0, 0, 0] rfl gj rfl (jc F o1 x11 a3 t4 a5 a6 t7 ([63, 62] : List UInt8) x14.1 x14.2 e15) rfl (fun c A' h => by cases h.1) ?_)
  rintro av A' ⟨h, rfl⟩; cases h
  refine ag <| af <| aa ?_;show AR _ _ _ _ _ [0] _;refine za rfl <| ag <| aI ?_;obtain rfl := ak H;exact And.intro rfl (Exists.intro _ (Exists.intro _ ⟨aG rfl (.refl _), aB [0, 0, 0] rfl, rfl, rfl⟩))
theorem uJ (F : Nat) (o1 : Nat) (a2 : List UInt8) (a3 : List (List UInt8)) (t4 : Nat) (a5 : Int) (a6 : List (Int × (List UInt8) × (List UInt8) × List ((List UInt8) × List UInt8))) (t7 : Nat) (r8 : Bool) (r9 : List UInt8) (H : qs F a2 a3 a5 a6 = some (Res.ok (r8, r9))) : ACalls Tryz.prog 33 [.pt o1 0] [.obj o1 [S a2, .sk t4 a3.length, i64 a5, slE (ab Enc.int (ab Enc.str (ab Enc.str (Enc.sl (ab Enc.str Enc.str))))) a6 (some t7)], .stk t4 (Enc.str.fl a3), .tok t7 43] (fun e A' => e = .ret (B r8) ∧ A' = [.obj o1 [S r9, .sk t4 a3.length, i64 a5, slE (ab Enc.int (ab Enc.str (ab Enc.str (Enc.sl (ab Enc.str Enc.str))))) a6 (some t7)], .stk t4 (Enc.str.fl a3), .tok t7 43]) := vm F o1 a2 a3 t4 a5 a6 t7 _ H
theorem tQ (F : Nat) (o1 : Nat) (a2 : List UInt8) (a3 : List (List UInt8)) (t4 : Nat) (a5 : Int) (a6 : List (Int × (List UInt8) × (List UInt8) × List ((List UInt8) × List UInt8))) (t7 : Nat) (e : Int) (H : qs F a2 a3 a5 a6 = some (Res.pan e)) : ACalls Tryz.prog 33 [.pt o1 0] [.obj o1 [S a2, .sk t4 a3.length, i64 a5, slE (ab Enc.int (ab Enc.str (ab Enc.str (Enc.sl (ab Enc.str Enc.str))))) a6 (some t7)], .stk t4 (Enc.str.fl a3), .tok t7 43] (fun ae A' => ae = .pan ((fun e => cg (.iface 58 (.agg #[.int .i64 e]))) e) ∧ A' = []) := vm F o1 a2 a3 t4 a5 a6 t7 _ H
set_option maxRecDepth 100000 in
set_option maxHeartbeats 1000000 in
theorem sD (F : Nat) (o1 : Nat) (a2 : List UInt8) (a3 : List (List UInt8)) (t4 : Nat) (a5 : Int) (a6 : List (Int × (List UInt8) × (List UInt8) × List ((List UInt8) × List UInt8))) (t7 : Nat) (rv : Res (Bool × (List UInt8) × (List (Int × (List UInt8) × (List UInt8) × List ((List UInt8) × List UInt8))))) (H : lI F a2 a3 a5 a6 = some rv) : ACalls Tryz.prog 34 [.pt o1 0] [.obj o1 [S a2, .sk t4 a3.length, i64 a5, slE (ab Enc.int (ab Enc.str (ab Enc.str (Enc.sl (ab Enc.str Enc.str))))) a6 (some t7)], .stk t4 (Enc.str.fl a3), .tok t7 43] (jo (fun (r : Bool × (List UInt8) × (List (Int × (List UInt8) × (List UInt8) × List ((List UInt8) × List UInt8)))) => (fun e A' => e = .ret (B r.1) ∧ ∃ t11, A' = [.obj o1 [S r.2.1, .sk t4 a3.length, i64 a5, slE (ab Enc.int (ab Enc.str (ab Enc.str (Enc.sl (ab Enc.str Enc.str))))) r.2.2 (some t11)], .stk t4 (Enc.str.fl a3), .tok t11 43])) (fun e => cg (.iface 58 (.agg #[.int .i64 e]))) rv) := by
 unfold lI at H
 refine ap Tryz.func34 rfl rfl ?_;show AW _ _ 19 _ _ _;refine af <| aa ?_;show AR _ _ _ _ _ [0] _;refine za rfl <| ag <| af <| af ?_;obtain ⟨x12, x13, e14, H⟩ := cF H;refine aa ?_;show AR _ _ _ _ _ [0, 1, 2] _;refine zS rfl (ah (av := .pt _ _) rfl) <| am rfl rfl (aQ [0, 0, 0] rfl er rfl (eo F o1 a2 a3 t4 a5 a6 t7 ([60, 33, 91, 67, 68, 65, 84, 65, 91] : List UInt8) x12 x13 e14) rfl (fun c A' h => by cases h.1) ?_)
 rintro av A' ⟨h, rfl⟩; cases h
 refine zS rfl (bG rfl) <| ag <| ax rfl (fun c15 => ?_) (fun c15 => ?_)
 ·replace H := aW c15 H;refine af <| aa ?_;show AR _ _ _ _ _ [0] _;refine za rfl <| ag <| aI ?_;obtain rfl := ak H;exact And.intro rfl (Exists.intro _ (Exists.intro _ ⟨aG rfl (.refl _), aB [0, 0, 0] rfl, rfl, t7, rfl⟩))
 ·replace H := aX c15 H;refine aA <| af ?_
  rcases Or.symm (cq H) with ⟨p18, e17, H⟩ | ⟨x16, e17, H⟩
  ·subst H;refine aa ?_;show AR _ _ _ _ _ [0, 1, 2] _;refine zS rfl (ah (av := .pt _ _) rfl) <| am rfl rfl (bc (c := cg (.iface 58 (.agg #[.int .i64 p18]))) [0, 0, 0] rfl gj rfl (gS F o1 x13 a3 t4 a5 a6 t7 ([93, 93, 62] : List UInt8) p18 e17) rfl ?_);exact And.intro rfl (Exists.intro [] ⟨ba _, rfl, rfl⟩)
  refine aa ?_;show AR _ _ _ _ _ [0, 1, 2] _;refine zS rfl (ah (av := .pt _ _) rfl) <| am rfl rfl (aQ [0, 0, 0] rfl gj rfl (jc F o1 x13 a3 t4 a5 a6 t7 ([93, 93, 62] : List UInt8) x16.1 x16.2 e17) rfl (fun c A' h => by cases h.1) ?_)
  rintro av A' ⟨h, rfl⟩; cases h
  refine za rfl <| ag <| af ?_
  rcases Or.symm (cq H) with ⟨p21, e20, H⟩ | ⟨x19, e20, H⟩
  ·subst H;refine aa ?_;show AR _ _ _ _ _ [0, 1, 2, 3, 4, 5, 6] _;refine zS rfl (ah (av := .pt _ _) rfl) <| zS rfl (ar rfl) <| zS rfl (an (n := 1) (by kernel_rfl) rfl) <| zR rfl (ao (i := 0) au rfl rfl rfl rfl) <| zS rfl (fb au rfl) <| zS rfl (eW rfl rfl) <| am rfl rfl (bc (c := cg (.iface 58 (.agg #[.int .i64 p21]))) [] rfl bU rfl (bV F (decide (0 < (a3.length : Int))) p21 e20) rfl ?_);exact And.intro rfl (Exists.intro [] ⟨ba _, rfl, rfl⟩)
  refine aa ?_;show AR _ _ _ _ _ [0, 1, 2, 3, 4, 5, 6] _;refine zS rfl (ah (av := .pt _ _) rfl) <| zS rfl (ar rfl) <| zS rfl (an (n := 1) (by kernel_rfl) rfl) <| zR rfl (ao (i := 0) au rfl rfl rfl rfl) <| zS rfl (fb au rfl) <| zS rfl (eW rfl rfl) <| am rfl rfl (aC rfl bU rfl (cn F (decide (0 < (a3.length : Int))) e20) ?_);refine ag <| af ?_;obtain ⟨x22, e23, H⟩ := cd H;refine aa ?_;show AR _ _ _ _ _ [0, 1, 2] _;refine zS rfl (ah (av := .pt _ _) rfl) <| zm rfl <| am rfl rfl (aQ [0, 0, 0] rfl tj rfl (sz F o1 x16.2 a3 t4 a5 a6 t7 x16.1 x22 e23) rfl (fun c A' h => by cases h.1) ?_)
  rintro av A' ⟨h, t24, rfl⟩; cases h
  refine ag <| af <| aa ?_;show AR _ _ _ _ _ [0] _;refine za rfl <| ag <| aI ?_;obtain rfl := ak H;exact And.intro rfl (Exists.intro _ (Exists.intro _ ⟨aG rfl (.refl _), aB [0, 0, 0] rfl, rfl, t24, rfl⟩))
theorem tN (F : Nat) (o1 : Nat) (a2 : List UInt8) (a3 : List (List UInt8)) (t4 : Nat) (a5 : Int) (a6 : List (Int × (List UInt8) × (List UInt8) × List ((List UInt8) × List UInt8))) (t7 : Nat) (r8 : Bool) (r9 : List UInt8) (r10 : List (Int × (List UInt8) × (List UInt8) × List ((List UInt8) × List UInt8))) (H : lI F a2 a3 a5 a6 = some (Res.ok (r8, r9, r10))) : ACalls Tryz.prog 34 [.pt o1 0] [.obj o1 [S a2, .sk t4 a3.length, i64 a5, slE (ab Enc.int (ab Enc.str (ab Enc.str (Enc.sl (ab Enc.str Enc.str))))) a6 (some t7)], .stk t4 (Enc.str.fl a3), .tok t7 43] (fun e A' => e = .ret (B r8) ∧ ∃ t11, A' = [.obj o1 [S r9, .sk t4 a3.length, i64 a5, slE (ab Enc.int (ab Enc.str (ab Enc.str (Enc.sl (ab Enc.str Enc.str))))) r10 (some t11)], .stk t4 (Enc.str.fl a3), .tok t11 43]) := sD F o1 a2 a3 t4 a5 a6 t7 _ H
theorem rT (F : Nat) (o1 : Nat) (a2 : List UInt8) (a3 : List (List UInt8)) (t4 : Nat) (a5 : Int) (a6 : List (Int × (List UInt8) × (List UInt8) × List ((List UInt8) × List UInt8))) (t7 : Nat) (e : Int) (H : lI F a2 a3 a5 a6 = some (Res.pan e)) : ACalls Tryz.prog 34 [.pt o1 0] [.obj o1 [S a2, .sk t4 a3.length, i64 a5, slE (ab Enc.int (ab Enc.str (ab Enc.str (Enc.sl (ab Enc.str Enc.str))))) a6 (some t7)], .stk t4 (Enc.str.fl a3), .tok t7 43] (fun ae A' => ae = .pan ((fun e => cg (.iface 58 (.agg #[.int .i64 e]))) e) ∧ A' = []) := sD F o1 a2 a3 t4 a5 a6 t7 _ H
set_option maxRecDepth 100000 in
set_option maxHeartbeats 1000000 in
theorem vl (F : Nat) (o1 : Nat) (a2 : List UInt8) (a3 : List (List UInt8)) (t4 : Nat) (a5 : Int) (a6 : List (Int × (List UInt8) × (List UInt8) × List ((List UInt8) × List UInt8))) (t7 : Nat) (rv : Res (Bool × (List UInt8))) (H : qr F a2 a3 a5 a6 = some rv) : ACalls Tryz.prog 35 [.pt o1 0] [.obj o1 [S a2, .sk t4 a3.length, i64 a5, slE (ab Enc.int (ab Enc.str (ab Enc.str (Enc.sl (ab Enc.str Enc.str))))) a6 (some t7)], .stk t4 (Enc.str.fl a3), .tok t7 43] (jo (fun (r : Bool × (List UInt8)) => (fun e A' => e = .ret (B r.1) ∧ A' = [.obj o1 [S r.2, .sk t4 a3.length, i64 a5, slE (ab Enc.int (ab Enc.str (ab Enc.str (Enc.sl (ab Enc.str Enc.str))))) a6 (some t7)], .stk t4 (Enc.str.fl a3), .tok t7 43])) (fun e => cg (.iface 58 (.agg #[.int .i64 e]))) rv) := by
 unfold qr at H
 refine ap Tryz.func35 rfl rfl ?_;show AW _ _ 8 _ _ _;refine af <| aa ?_;show AR _ _ _ _ _ [0] _;refine za rfl <| ag <| af <| af ?_;obtain ⟨x10, x11, e12, H⟩ := cF H;refine aa ?_;show AR _ _ _ _ _ [0, 1, 2] _;refine zS rfl (ah (av := .pt _ _) rfl) <| am rfl rfl (aQ [0, 0, 0] rfl er rfl (eo F o1 a2 a3 t4 a5 a6 t7 ([60, 33] : List UInt8) x10 x11 e12) rfl (fun c A' h => by cases h.1) ?_)
 rintro av A' ⟨h, rfl⟩; cases h
 refine zS rfl (bG rfl) <| ag <| ax rfl (fun c13 => ?_) (fun c13 => ?_)
 ·replace H := aW c13 H;refine af <| aa ?_;show AR _ _ _ _ _ [0] _;refine za rfl <| ag <| aI ?_;obtain rfl := ak H;exact And.intro rfl (Exists.intro _ (Exists.intro _ ⟨aG rfl (.refl _), aB [0, 0, 0] rfl, rfl, rfl⟩))
 ·replace H := aX c13 H;refine aA <| af ?_
  rcases Or.symm (cq H) with ⟨p16, e15, H⟩ | ⟨x14, e15, H⟩
  ·subst H;refine aa ?_;show AR _ _ _ _ _ [0, 1] _;refine zS rfl (ah (av := .pt _ _) rfl) <| am rfl rfl (bc (c := cg (.iface 58 (.agg #[.int .i64 p16]))) [0, 0, 0] rfl gj rfl (gS F o1 x11 a3 t4 a5 a6 t7 ([62] : List UInt8) p16 e15) rfl ?_);exact And.intro rfl (Exists.intro [] ⟨ba _, rfl, rfl⟩)
  refine aa ?_;show AR _ _ _ _ _ [0, 1] _;refine zS rfl (ah (av := .pt _ _) rfl) <| am rfl rfl (aQ [0, 0, 0] rfl gj rfl (jc F o1 x11 a3 t4 a5 a6 t7 ([62] : List UInt8) x14.1 x14.2 e15) rfl (fun c A' h => by cases h.1) ?_)
  rintro av A' ⟨h, rfl⟩; cases h
  refine ag <| af <| aa ?_;show AR _ _ _ _ _ [0] _;refine za rfl <| ag <| aI ?_;obtain rfl := ak H;exact And.intro rfl (Exists.intro _ (Exists.intro _ ⟨aG rfl (.refl _), aB [0, 0, 0] rfl, rfl, rfl⟩))
theorem uI (F : Nat) (o1 : Nat) (a2 : List UInt8) (a3 : List (List UInt8)) (t4 : Nat) (a5 : Int) (a6 : List (Int × (List UInt8) × (List UInt8) × List ((List UInt8) × List UInt8))) (t7 : Nat) (r8 : Bool) (r9 : List UInt8) (H : qr F a2 a3 a5 a6 = some (Res.ok (r8, r9))) : ACalls Tryz.prog 35 [.pt o1 0] [.obj o1 [S a2, .sk t4 a3.length, i64 a5, slE (ab Enc.int (ab Enc.str (ab Enc.str (Enc.sl (ab Enc.str Enc.str))))) a6 (some t7)], .stk t4 (Enc.str.fl a3), .tok t7 43] (fun e A' => e = .ret (B r8) ∧ A' = [.obj o1 [S r9, .sk t4 a3.length, i64 a5, slE (ab Enc.int (ab Enc.str (ab Enc.str (Enc.sl (ab Enc.str Enc.str))))) a6 (some t7)], .stk t4 (Enc.str.fl a3), .tok t7 43]) := vl F o1 a2 a3 t4 a5 a6 t7 _ H
theorem tM (F : Nat) (o1 : Nat) (a2 : List UInt8) (a3 : List (List UInt8)) (t4 : Nat) (a5 : Int) (a6 : List (Int × (List UInt8) × (List UInt8) × List ((List UInt8) × List UInt8))) (t7 : Nat) (e : Int) (H : qr F a2 a3 a5 a6 = some (Res.pan e)) : ACalls Tryz.prog 35 [.pt o1 0] [.obj o1 [S a2, .sk t4 a3.length, i64 a5, slE (ab Enc.int (ab Enc.str (ab Enc.str (Enc.sl (ab Enc.str Enc.str))))) a6 (some t7)], .stk t4 (Enc.str.fl a3), .tok t7 43] (fun ae A' => ae = .pan ((fun e => cg (.iface 58 (.agg #[.int .i64 e]))) e) ∧ A' = []) := vl F o1 a2 a3 t4 a5 a6 t7 _ H
set_option maxRecDepth 100000 in
set_option maxHeartbeats 1000000 in
theorem pV (F : Nat) (o1 : Nat) (a2 : List UInt8) (a3 : List (List UInt8)) (t4 : Nat) (a5 : Int) (a6 : List (Int × (List UInt8) × (List UInt8) × List ((List UInt8) × List UInt8))) (t7 : Nat) (rv : Res (Bool × (List UInt8) × (List (Int × (List UInt8) × (List UInt8) × List ((List UInt8) × List UInt8))) × (List (List UInt8)))) (H : iL F a2 a3 a5 a6 = some rv) : ACalls Tryz.prog 36 [.pt o1 0] [.obj o1 [S a2, .sk t4 a3.length, i64 a5, slE (ab Enc.int (ab Enc.str (ab Enc.str (Enc.sl (ab Enc.str Enc.str))))) a6 (some t7)], .stk t4 (Enc.str.fl a3), .tok t7 43] (jo (fun (r : Bool × (List UInt8) × (List (Int × (List UInt8) × (List UInt8) × List ((List UInt8) × List UInt8))) × (List (List UInt8))) => (fun e A' => e = .ret (B r.1) ∧ ∃ t11 t13, A' = [.obj o1 [S r.2.1, .sk t11 r.2.2.2.length, i64 a5, slE (ab Enc.int (ab Enc.str (ab Enc.str (Enc.sl (ab Enc.str Enc.str))))) r.2.2.1 (some t13)], .stk t11 (Enc.str.fl r.2.2.2), .tok t13 43])) (fun e => cg (.iface 58 (.agg #[.int .i64 e]))) rv) := by
 unfold iL at H
 refine ap Tryz.func36 rfl rfl ?_;show AW _ _ 17 _ _ _;refine af <| aa ?_;show AR _ _ _ _ _ [0] _;refine za rfl <| ag <| af <| af ?_;obtain ⟨x14, x15, e16, H⟩ := cF H;refine aa ?_;show AR _ _ _ _ _ [0, 1, 2] _;refine zS rfl (ah (av := .pt _ _) rfl) <| am rfl rfl (aQ [0, 0, 0] rfl er rfl (eo F o1 a2 a3 t4 a5 a6 t7 ([60, 47] : List UInt8) x14 x15 e16) rfl (fun c A' h => by cases h.1) ?_)
 rintro av A' ⟨h, rfl⟩; cases h
 refine zS rfl (bG rfl) <| ag <| ax rfl (fun c17 => ?_) (fun c17 => ?_)
 ·replace H := aW c17 H;refine af <| aa ?_;show AR _ _ _ _ _ [0] _;refine za rfl <| ag <| aI ?_;obtain rfl := ak H;exact And.intro rfl (Exists.intro _ (Exists.intro _ ⟨aG rfl (.refl _), aB [0, 0, 0] rfl, rfl, t4, t7, rfl⟩))
 ·replace H := aX c17 H;refine aA <| af ?_
  rcases Or.symm (cq H) with ⟨p20, e19, H⟩ | ⟨x18, e19, H⟩
  ·subst H;refine aa ?_;show AR _ _ _ _ _ [0, 1, 2] _;refine zS rfl (ah (av := .pt _ _) rfl) <| am rfl rfl (bc (c := cg (.iface 58 (.agg #[.int .i64 p20]))) [0, 0, 0] rfl kK rfl (lx F o1 x15 a3 t4 a5 a6 t7 p20 e19) rfl ?_);exact And.intro rfl (Exists.intro [] ⟨ba _, rfl, rfl⟩)
  refine aa ?_;show AR _ _ _ _ _ [0, 1, 2] _;refine zS rfl (ah (av := .pt _ _) rfl) <| am rfl rfl (aQ [0, 0, 0] rfl kK rfl (mm F o1 x15 a3 t4 a5 a6 t7 x18.1 x18.2 e19) rfl (fun c A' h => by cases h.1) ?_)
  rintro av A' ⟨h, rfl⟩; cases h
  refine za rfl <| ag <| af ?_;obtain ⟨x21, x22, e23, H⟩ := cF H;refine aa ?_;show AR _ _ _ _ _ [0, 1] _;refine zS rfl (ah (av := .pt _ _) rfl) <| am rfl rfl (aQ [0, 0, 0] rfl ti rfl (pU F o1 x18.2 a3 t4 a5 a6 t7 x21 x22 e23) rfl (fun c A' h => by cases h.1) ?_)
  rintro av A' ⟨h, rfl⟩; cases h
  refine ag <| af ?_;obtain ⟨x24, x25, e26, H⟩ := cF H
  rcases Or.symm (cq H) with ⟨p29, e28, H⟩ | ⟨x27, e28, H⟩
  ·subst H;refine aa ?_;show AR _ _ _ _ _ [0, 1, 2] _;refine zS rfl (ah (av := .pt _ _) rfl) <| am rfl rfl (aQ [0, 0, 0] rfl er rfl (eo F o1 x22 a3 t4 a5 a6 t7 ([62] : List UInt8) x24 x25 e26) rfl (fun c A' h => by cases h.1) ?_)
   rintro av A' ⟨h, rfl⟩; cases h
   refine am rfl rfl (bc (c := cg (.iface 58 (.agg #[.int .i64 p29]))) [] rfl bU rfl (bV F x24 p29 e28) rfl ?_);exact And.intro rfl (Exists.intro [] ⟨ba _, rfl, rfl⟩)
  refine aa ?_;show AR _ _ _ _ _ [0, 1, 2] _;refine zS rfl (ah (av := .pt _ _) rfl) <| am rfl rfl (aQ [0, 0, 0] rfl er rfl (eo F o1 x22 a3 t4 a5 a6 t7 ([62] : List UInt8) x24 x25 e26) rfl (fun c A' h => by cases h.1) ?_)
  rintro av A' ⟨h, rfl⟩; cases h
  refine am rfl rfl (aC rfl bU rfl (cn F x24 e28) ?_);refine ag <| af ?_
  rcases Or.symm (cq H) with ⟨p32, e31, H⟩ | ⟨x30, e31, H⟩
  ·subst H;refine aa ?_;show AR _ _ _ _ _ [0, 1, 2] _;refine zS rfl (ah (av := .pt _ _) rfl) <| zm rfl <| am rfl rfl (bc (c := cg (.iface 58 (.agg #[.int .i64 p32]))) [0, 0, 0] rfl nE rfl (oc F o1 x25 a3 t4 a5 a6 t7 x18.1 p32 e31) rfl ?_);exact And.intro rfl (Exists.intro [] ⟨ba _, rfl, rfl⟩)
  refine aa ?_;show AR _ _ _ _ _ [0, 1, 2] _;refine zS rfl (ah (av := .pt _ _) rfl) <| zm rfl <| am rfl rfl (aQ [0, 0, 0] rfl nE rfl (oO F o1 x25 a3 t4 a5 a6 t7 x18.1 x30.1 x30.2 e31) rfl (fun c A' h => by cases h.1) ?_)
  rintro av A' ⟨h, t33, t34, rfl⟩; cases h
  refine ag <| af <| aa ?_;show AR _ _ _ _ _ [0] _;refine za rfl <| ag <| aI ?_;obtain rfl := ak H;exact And.intro rfl (Exists.intro _ (Exists.intro _ ⟨aG rfl (.refl _), aB [0, 0, 0] rfl, rfl, t33, t34, rfl⟩))
theorem qU (F : Nat) (o1 : Nat) (a2 : List UInt8) (a3 : List (List UInt8)) (t4 : Nat) (a5 : Int) (a6 : List (Int × (List UInt8) × (List UInt8) × List ((List UInt8) × List UInt8))) (t7 : Nat) (r8 : Bool) (r9 : List UInt8) (r12 : List (Int × (List UInt8) × (List UInt8) × List ((List UInt8) × List UInt8))) (r10 : List (List UInt8)) (H : iL F a2 a3 a5 a6 = some (Res.ok (r8, r9, r12, r10))) : ACalls Tryz.prog 36 [.pt o1 0] [.obj o1 [S a2, .sk t4 a3.length, i64 a5, slE (ab Enc.int (ab Enc.str (ab Enc.str (Enc.sl (ab Enc.str Enc.str))))) a6 (some t7)], .stk t4 (Enc.str.fl a3), .tok t7 43] (fun e A' => e = .ret (B r8) ∧ ∃ t11 t13, A' = [.obj o1 [S r9, .sk t11 r10.length, i64 a5, slE (ab Enc.int (ab Enc.str (ab Enc.str (Enc.sl (ab Enc.str Enc.str))))) r12 (some t13)], .stk t11 (Enc.str.fl r10), .tok t13 43]) := pV F o1 a2 a3 t4 a5 a6 t7 _ H
theorem qv (F : Nat) (o1 : Nat) (a2 : List UInt8) (a3 : List (List UInt8)) (t4 : Nat) (a5 : Int) (a6 : List (Int × (List UInt8) × (List UInt8) × List ((List UInt8) × List UInt8))) (t7 : Nat) (e : Int) (H : iL F a2 a3 a5 a6 = some (Res.pan e)) : ACalls Tryz.prog 36 [.pt o1 0] [.obj o1 [S a2, .sk t4 a3.length, i64 a5, slE (ab Enc.int (ab Enc.str (ab Enc.str (Enc.sl (ab Enc.str Enc.str))))) a6 (some t7)], .stk t4 (Enc.str.fl a3), .tok t7 43] (fun ae A' => ae = .pan ((fun e => cg (.iface 58 (.agg #[.int .i64 e]))) e) ∧ A' = []) := pV F o1 a2 a3 t4 a5 a6 t7 _ H
set_option maxRecDepth 100000 in
set_option maxHeartbeats 1000000 in
theorem sE (F : Nat) (o1 : Nat) (a2 : List UInt8) (a3 : List (List UInt8)) (t4 : Nat) (a5 : Int) (a6 : List (Int × (List UInt8) × (List UInt8) × List ((List UInt8) × List UInt8))) (t7 : Nat) (rv : Res ((List UInt8) × (List UInt8) × (List UInt8))) (H : mK F a2 a3 a5 a6 = some rv) : ACalls Tryz.prog 53 [.pt o1 0] [.obj o1 [S a2, .sk t4 a3.length, i64 a5, slE (ab Enc.int (ab Enc.str (ab Enc.str (Enc.sl (ab Enc.str Enc.str))))) a6 (some t7)], .stk t4 (Enc.str.fl a3), .tok t7 43] (jo (fun (r : (List UInt8) × (List UInt8) × (List UInt8)) => (fun e A' => e = .ret (.agg [S r.1, S r.2.1]) ∧ A' = [.obj o1 [S r.2.2, .sk t4 a3.length, i64 a5, slE (ab Enc.int (ab Enc.str (ab Enc.str (Enc.sl (ab Enc.str Enc.str))))) a6 (some t7)], .stk t4 (Enc.str.fl a3), .tok t7 43])) (fun e => cg (.iface 58 (.agg #[.int .i64 e]))) rv) := by
 unfold mK at H
 refine ap Tryz.func53 rfl rfl ?_;show AW _ _ 26 _ _ _;refine af <| aa ?_;show AR _ _ _ _ _ [0] _;refine zX rfl (bh (zs := [.string ⟨#[]⟩, .string ⟨#[]⟩]) (by kernel_rfl)) ?_;rintro _ _ ⟨o11, rfl, rfl⟩;refine ag <| af ?_
 rcases Or.symm (cq H) with ⟨p14, e13, H⟩ | ⟨x12, e13, H⟩
 ·subst H;refine aa ?_;show AR _ _ _ _ _ [0, 1, 2, 3, 4] _;refine zS rfl (ah (av := .pt _ _) rfl) <| am rfl rfl (bc (c := cg (.iface 58 (.agg #[.int .i64 p14]))) [1, 1, 1] rfl kK rfl (lx F o1 a2 a3 t4 a5 a6 t7 p14 e13) rfl ?_);exact And.intro rfl (Exists.intro [] ⟨ba _, rfl, rfl⟩)
 refine aa ?_;show AR _ _ _ _ _ [0, 1, 2, 3, 4] _;refine zS rfl (ah (av := .pt _ _) rfl) <| am rfl rfl (aQ [1, 1, 1] rfl kK rfl (mm F o1 a2 a3 t4 a5 a6 t7 x12.1 x12.2 e13) rfl (fun c A' h => by cases h.1) ?_)
 rintro av A' ⟨h, rfl⟩; cases h
 refine zS rfl (cP (zs := [.string ⟨#[]⟩, .string ⟨#[]⟩]) (ps := [(0, 1), (1, 1)]) (cs := [S x12.1, S ([] : List UInt8)]) (by kernel_rfl) rfl rfl) <| zX rfl (bh (zs := [.string ⟨#[]⟩, .string ⟨#[]⟩]) (by kernel_rfl)) ?_;rintro _ _ ⟨o15, rfl, rfl⟩;refine s0 rfl rfl (aV (i := 0) (vs := [S x12.1, S ([] : List UInt8)]) (by kernel_rfl) rfl rfl (by simp [bB, slE]) rfl (ac rfl)) <| ag <| af <| aa ?_;show AR _ _ _ _ _ [0] _;refine za rfl <| ag <| bJ (X := (List UInt8) × (List UInt8)) (fun (y26, y27) => ⟨[(0, .pt o1 0), (2, .pt o11 0), (3, .pt o15 0), (4, S y26)], [], [.obj o1 [S y27, .sk t4 a3.length, i64 a5, slE (ab Enc.int (ab Enc.str (ab Enc.str (Enc.sl (ab Enc.str Enc.str))))) a6 (some t7)], .obj o15 [S x12.1, S ([] : List UInt8)], .obj o11 [S ([] : List UInt8), S ([] : List UInt8)], .stk t4 (Enc.str.fl a3), .tok t7 43]⟩) (fun (y26, y27) => iu F a3 a5 a6 x12 y26 y27 = some rv) ?_ ?_
 ·refine af ?_;obtain ⟨x16, x17, e18, H⟩ := cF H;refine aa ?_;show AR _ _ _ _ _ [0, 1, 2] _;refine zS rfl (ah (av := .pt _ _) rfl) <| am rfl rfl (aQ [1, 1, 1] rfl er rfl (eo F o1 x12.2 a3 t4 a5 a6 t7 ([61, 34] : List UInt8) x16 x17 e18) rfl (fun c A' h => by cases h.1) ?_)
  rintro av A' ⟨h, rfl⟩; cases h
  refine zS rfl (bG rfl) <| ag <| ax rfl (fun c19 => ?_) (fun c19 => ?_)
  ·replace H := aW c19 H;refine af ?_;obtain ⟨x20, x21, e22, H⟩ := cF H
   rcases Or.symm (cq H) with ⟨p25, e24, H⟩ | ⟨x23, e24, H⟩
   ·subst H;refine aa ?_;show AR _ _ _ _ _ [0, 1, 2] _;refine zS rfl (ah (av := .pt _ _) rfl) <| am rfl rfl (aQ [0, 0, 0] rfl er rfl (eo F o1 x17 a3 t4 a5 a6 t7 ([61, 39] : List UInt8) x20 x21 e22) rfl (fun c A' h => by cases h.1) ?_)
    rintro av A' ⟨h, rfl⟩; cases h
    refine am rfl rfl (bc (c := cg (.iface 58 (.agg #[.int .i64 p25]))) [] rfl bU rfl (bV F x20 p25 e24) rfl ?_);exact And.intro rfl (Exists.intro [] ⟨ba _, rfl, rfl⟩)
   refine aa ?_;show AR _ _ _ _ _ [0, 1, 2] _;refine zS rfl (ah (av := .pt _ _) rfl) <| am rfl rfl (aQ [0, 0, 0] rfl er rfl (eo F o1 x17 a3 t4 a5 a6 t7 ([61, 39] : List UInt8) x20 x21 e22) rfl (fun c A' h => by cases h.1) ?_)
   rintro av A' ⟨h, rfl⟩; cases h
   refine am rfl rfl (aC rfl bU rfl (cn F x20 e24) ?_);refine ag <| aa ?_;show AR _ _ _ _ _ [0] _;refine za rfl <| ag ?_;exact Exists.intro (([39] : List UInt8), x21) ⟨H, bb [0, 2, 2, 0, 0] (.cons (.refl _) (.cons (.refl _) (.cons (.refl _) (.cons (.refl _) (.nil _))))) rfl⟩
  ·replace H := aX c19 H;refine aA ?_;exact Exists.intro (([34] : List UInt8), x17) ⟨H, bb [0, 2, 2, 0, 0] (.cons (.refl _) (.cons (.refl _) (.cons (.refl _) (.cons (.refl _) (.nil _))))) rfl⟩
 rintro ⟨y26, y27⟩ H;replace H : iu F a3 a5 a6 x12 y26 y27 = some rv := H
 unfold iu at H
 refine af ?_
 rcases Or.symm (cq H) with ⟨p31, e30, H⟩ | ⟨x29, e30, H⟩
 ·subst H;refine aa ?_;show AR _ _ _ _ _ [0, 1, 2, 3] _;refine zS rfl (ah (av := .pt _ _) rfl) <| zm rfl <| am rfl rfl (bc (c := cg (.iface 58 (.agg #[.int .i64 p31]))) [0, 2, 2] rfl gj rfl (gS F o1 y27 a3 t4 a5 a6 t7 y26 p31 e30) rfl ?_);exact And.intro rfl (Exists.intro [] ⟨ba _, rfl, rfl⟩)
 refine aa ?_;show AR _ _ _ _ _ [0, 1, 2, 3] _;refine zS rfl (ah (av := .pt _ _) rfl) <| zm rfl <| am rfl rfl (aQ [0, 2, 2] rfl gj rfl (jc F o1 y27 a3 t4 a5 a6 t7 y26 x29.1 x29.2 e30) rfl (fun c A' h => by cases h.1) ?_)
 rintro av A' ⟨h, rfl⟩; cases h
 refine za rfl <| ag <| af ?_;obtain ⟨g32, H⟩ := aN H;obtain ⟨x33, e34, H⟩ := bR H
 rcases Or.symm (cq H) with ⟨p37, e36, H⟩ | ⟨x35, e36, H⟩
 ·subst H;refine aa ?_;show AR _ _ _ _ _ [0, 1, 2, 3] _;refine zm rfl <| am rfl rfl (aC rfl pO rfl (show ACalls _ _ _ [] (Ret (B x33) []) from by subst e34; exact gG x29.1 ([60] : List UInt8) (mH g32)) ?_);refine zS rfl (bG rfl) <| am rfl rfl (bc (c := cg (.iface 58 (.agg #[.int .i64 p37]))) [] rfl bU rfl (bV F (!x33) p37 e36) rfl ?_);exact And.intro rfl (Exists.intro [] ⟨ba _, rfl, rfl⟩)
 refine aa ?_;show AR _ _ _ _ _ [0, 1, 2, 3] _;refine zm rfl <| am rfl rfl (aC rfl pO rfl (show ACalls _ _ _ [] (Ret (B x33) []) from by subst e34; exact gG x29.1 ([60] : List UInt8) (mH g32)) ?_);refine zS rfl (bG rfl) <| am rfl rfl (aC rfl bU rfl (cn F (!x33) e36) ?_);refine ag <| af ?_
 rcases Or.symm (cq H) with ⟨p40, e39, H⟩ | ⟨x38, e39, H⟩
 ·subst H;refine aa ?_;show AR _ _ _ _ _ [0, 1, 2, 3] _;refine zm rfl <| am rfl rfl (bc (c := cg (.iface 58 (.agg #[.int .i64 p40]))) [] rfl nF rfl (mB F x29.1 p40 e39) rfl ?_);exact And.intro rfl (Exists.intro [] ⟨ba _, rfl, rfl⟩)
 refine aa ?_;show AR _ _ _ _ _ [0, 1, 2, 3] _;refine zm rfl <| am rfl rfl (aC rfl nF rfl (mX F x29.1 x38 e39) ?_);refine zS rfl (an (n := 1) (by kernel_rfl) rfl) <| s0 rfl rfl (aq (i := 3) (c := .v _) (by kernel_rfl) rfl rfl rfl rfl (ac rfl)) <| ag <| af <| aa ?_;show AR _ _ _ _ _ [0, 1] _;refine zR rfl (dW (i := 3) (n := 2) Tryz.underlying94 rfl (by kernel_rfl) rfl rfl (ac rfl)) <| s0 rfl rfl (aV (i := 4) (vs := [S x12.1, S x38]) (by kernel_rfl) rfl rfl (by simp [bB, slE]) rfl (ac rfl)) <| ag <| aI ?_;obtain rfl := ak H;exact And.intro rfl (Exists.intro _ (Exists.intro _ ⟨dl (ls rfl (CellV.agg (off := 0) (cs := [S x12.1, S x38]) (n := 2) 4 Tryz.underlying94 rfl (by kernel_rfl) rfl rfl (ac rfl))), aB [0, 0, 0] rfl, rfl, rfl⟩))
theorem tP (F : Nat) (o1 : Nat) (a2 : List UInt8) (a3 : List (List UInt8)) (t4 : Nat) (a5 : Int) (a6 : List (Int × (List UInt8) × (List UInt8) × List ((List UInt8) × List UInt8))) (t7 : Nat) (r8 : List UInt8) (r9 : List UInt8) (r10 : List UInt8) (H : mK F a2 a3 a5 a6 = some (Res.ok (r8, r9, r10))) : ACalls Tryz.prog 53 [.pt o1 0] [.obj o1 [S a2, .sk t4 a3.length, i64 a5, slE (ab Enc.int (ab Enc.str (ab Enc.str (Enc.sl (ab Enc.str Enc.str))))) a6 (some t7)], .stk t4 (Enc.str.fl a3), .tok t7 43] (fun e A' => e = .ret (.agg [S r8, S r9]) ∧ A' = [.obj o1 [S r10, .sk t4 a3.length, i64 a5, slE (ab Enc.int (ab Enc.str (ab Enc.str (Enc.sl (ab Enc.str Enc.str))))) a6 (some t7)], .stk t4 (Enc.str.fl a3), .tok t7 43]) := sE F o1 a2 a3 t4 a5 a6 t7 _ H
theorem rU (F : Nat) (o1 : Nat) (a2 : List UInt8) (a3 : List (List UInt8)) (t4 : Nat) (a5 : Int) (a6 : List (Int × (List UInt8) × (List UInt8) × List ((List UInt8) × List UInt8))) (t7 : Nat) (e : Int) (H : mK F a2 a3 a5 a6 = some (Res.pan e)) : ACalls Tryz.prog 53 [.pt o1 0] [.obj o1 [S a2, .sk t4 a3.length, i64 a5, slE (ab Enc.int (ab Enc.str (ab Enc.str (Enc.sl (ab Enc.str Enc.str))))) a6 (some t7)], .stk t4 (Enc.str.fl a3), .tok t7 43] (fun ae A' => ae = .pan ((fun e => cg (.iface 58 (.agg #[.int .i64 e]))) e) ∧ A' = []) := sE F o1 a2 a3 t4 a5 a6 t7 _ H
set_option maxRecDepth 100000 in
set_option maxHeartbeats 1000000 in
theorem vW (F : Nat) (a1 : List UInt8) (a2 : List UInt8) (o3 : Nat) (a4 : List UInt8) (a5 : List UInt8) (r6 : Bool) (H : pi F a1 a2 a4 a5 = some r6) : ACalls Tryz.prog 55 [.agg [S a1, S a2], .pt o3 0] [.obj o3 [S a4, S a5]] (fun e A' => e = .ret (B r6) ∧ A' = [.obj o3 [S a4, S a5]]) := by
 unfold pi at H
 refine ap Tryz.func55 rfl rfl ?_;show AW _ _ 9 _ _ _;refine af <| aa ?_;show AR _ _ _ _ _ [0, 1] _;refine zR rfl (dN rfl (.inr ⟨_, rfl⟩)) <| za rfl <| ag <| af <| aa ?_;show AR _ _ _ _ _ [0, 1, 2, 3, 4, 5] _;refine zS rfl (an (n := 0) (by kernel_rfl) rfl) <| zR rfl (ao (i := 0) ai rfl rfl rfl rfl) <| zS rfl (aF (n := 0) (by kernel_rfl) rfl (ac rfl)) <| zS rfl (aH ai rfl rfl) <| zS rfl (dR rfl rfl) <| za rfl <| ag <| aI ?_;obtain rfl := ak H;exact And.intro rfl (Exists.intro _ (Exists.intro _ ⟨aG rfl (.refl _), aB [0] rfl, rfl, rfl⟩))
set_option maxRecDepth 100000 in
set_option maxHeartbeats 1000000 in
theorem qV (F : Nat) (a1 : List ((List UInt8) × List UInt8)) (q2 : Option Nat) (o3 : Nat) (a4 : List UInt8) (a5 : List UInt8) (r6 : Int) (H : ko F a1 a4 a5 = some r6) : ACalls Tryz.prog 65 [slE (ab Enc.str Enc.str) a1 q2, .fn (.func 55) [] [.pt o3 0]] [.obj o3 [S a4, S a5]] (fun e A' => e = .ret (i64 r6) ∧ A' = [.obj o3 [S a4, S a5]]) := by
 unfold ko at H
 refine ap Tryz.func65 rfl rfl ?_;show AW _ _ 19 _ _ _;refine af <| aa ?_;show AR _ _ _ _ _ [0] _;refine za rfl <| ag <| bJ (X := Unit) (fun _ => ⟨[], [], [.obj o3 [S a4, S a5]]⟩) (fun _ => hP = some r6) ?_ ?_
 ·refine af <| aa ?_;show AR _ _ _ _ _ [0, 1, 2] _;refine zS rfl (ah (av := slE _ _ _) rfl) <| zS rfl (bu co rfl) <| zm rfl <| ag <| aR <| de (X := Nat × Int) (fun (n9, y7) => ⟨[(0, slE (ab Enc.str Enc.str) a1 q2), (1, .fn (.func 55) [] [.pt o3 0]), (7, i64 (a1.length : Int)), (8, i64 y7)], [], [.obj o3 [S a4, S a5]]⟩) (fun (n9, y7) => eG F a1 a4 a5 n9 y7 = some r6) (fun (n9, y7) => n9) (F, 0) H (bb [0] (.cons (.refl _) (.cons (.refl _) (.cons (.refl _) (.cons (.refl _) (.nil _))))) rfl) ?_;rintro ⟨n9, y7⟩ H;obtain ⟨n9, rfl, H⟩ := eX H;replace H : fN F a1 a4 a5 (eG F a1 a4 a5 n9) y7 = some r6 := H
  unfold fN at H
  refine af <| aa ?_;show AR _ _ _ _ _ [0] _;refine zS rfl (bX rfl rfl) <| ag <| af <| ax rfl (fun c10 => ?_) (fun c10 => ?_)
  ·replace H := aW c10 H;refine aA <| af <| aR <| af <| aa ?_;show AR _ _ _ _ _ [0, 1] _;refine zm rfl <| za rfl <| ag <| af ?_;obtain ⟨g11, H⟩ := aN H;obtain ⟨x12, e13, H⟩ := bR H;obtain ⟨x14, e15, H⟩ := cd H;refine aa ?_;show AR _ _ _ _ _ [0, 1, 2, 3, 4, 5] _;refine zS rfl (ah (av := .fn _ _ _) rfl) <| zS rfl (ah (av := slE _ _ _) rfl) <| zm rfl <| zS rfl (dn (E := (ab Enc.str Enc.str)) co (by kernel_rfl) rfl rfl g11 e13) <| zS rfl (cB Tryz.underlying94 rfl (n := 2) (by kernel_rfl) rfl (ac rfl)) <| am rfl rfl (fm [0] rfl (.inl rfl) yh rfl (vW F x12.1 x12.2 o3 a4 a5 x14 e15) rfl (fun c A' h => by cases h.1) ?_)
   rintro av A' ⟨h, rfl⟩; cases h
   refine ag <| ax rfl (fun c16 => ?_) (fun c16 => ?_)
   ·replace H := aW c16 H;refine af <| aa ?_;show AR _ _ _ _ _ [0, 1] _;refine zm rfl <| za rfl <| ag <| aI ?_;obtain rfl := ak H;exact And.intro rfl (Exists.intro _ (Exists.intro _ ⟨aG rfl (.refl _), aB [0] rfl, rfl, rfl⟩))
   ·replace H := aX c16 H;refine aA ?_;obtain ⟨g17, H⟩ := aN H;refine aa ?_;show AR _ _ _ _ _ [0, 1] _;refine zS rfl (cX rfl rfl g17) <| zm rfl <| ag ?_;exact Exists.intro (n9, y7 + 1) ⟨H, Nat.lt_succ_self _, bb [0] (.cons (.refl _) (.cons (.refl _) (.cons (.refl _) (.cons (.refl _) (.nil _))))) rfl⟩
  ·replace H := aX c10 H;refine cw ?_;exact Exists.intro () ⟨H, bb [0] (.nil _) rfl⟩
 rintro _ H;replace H : hP = some r6 := H
 unfold hP at H
 refine af <| aa ?_;show AR _ _ _ _ _ [0] _;refine za rfl <| ag <| aI ?_;obtain rfl := ak H;exact And.intro rfl (Exists.intro _ (Exists.intro _ ⟨aG rfl (.refl _), aB [0] rfl, rfl, rfl⟩))
set_option maxRecDepth 100000 in
set_option maxHeartbeats 1000000 in
theorem lg (F : Nat) (a1 : List ((List UInt8) × List UInt8)) (q2 : Option Nat) (o3 : Nat) (a4 : List UInt8) (a5 : List UInt8) (r6 : Bool) (H : fO F a1 a4 a5 = some r6) : ACalls Tryz.prog 54 [slE (ab Enc.str Enc.str) a1 q2, .fn (.func 55) [] [.pt o3 0]] [.obj o3 [S a4, S a5]] (fun e A' => e = .ret (B r6) ∧ A' = [.obj o3 [S a4, S a5]]) := by
 unfold fO at H
 refine ap Tryz.func54 rfl rfl ?_;show AW _ _ 9 _ _ _;refine af <| aa ?_;show AR _ _ _ _ _ [0] _;refine za rfl <| ag <| af ?_;obtain ⟨x7, e8, H⟩ := cd H;refine aa ?_;show AR _ _ _ _ _ [0, 1, 2, 3, 4] _;refine zS rfl (ah (av := slE _ _ _) rfl) <| zS rfl (ah (av := .fn _ _ _) rfl) <| am rfl rfl (aQ [0] rfl yb rfl (qV F a1 q2 o3 a4 a5 x7 e8) rfl (fun c A' h => by cases h.1) ?_)
 rintro av A' ⟨h, rfl⟩; cases h
 refine zS rfl (fv rfl rfl) <| za rfl <| ag <| aI ?_;obtain rfl := ak H;exact And.intro rfl (Exists.intro _ (Exists.intro _ ⟨aG rfl (.refl _), aB [0] rfl, rfl, rfl⟩))
set_option maxRecDepth 100000 in
set_option maxHeartbeats 1000000 in
theorem oP (F : Nat) (o1 : Nat) (a2 : List UInt8) (a3 : List (List UInt8)) (t4 : Nat) (a5 : Int) (a6 : List (Int × (List UInt8) × (List UInt8) × List ((List UInt8) × List UInt8))) (t7 : Nat) (rv : Res (Bool × (List UInt8) × Int × (List (Int × (List UInt8) × (List UInt8) × List ((List UInt8) × List UInt8))) × (List (List UInt8)))) (H : ir F a2 a3 a5 a6 = some rv) : ACalls Tryz.prog 37 [.pt o1 0] [.obj o1 [S a2, .sk t4 a3.length, i64 a5, slE (ab Enc.int (ab Enc.str (ab Enc.str (Enc.sl (ab Enc.str Enc.str))))) a6 (some t7)], .stk t4 (Enc.str.fl a3), .tok t7 43] (jo (fun (r : Bool × (List UInt8) × Int × (List (Int × (List UInt8) × (List UInt8) × List ((List UInt8) × List UInt8))) × (List (List UInt8))) => (fun e A' => e = .ret (B r.1) ∧ ∃ t11 t14, A' = [.obj o1 [S r.2.1, .sk t11 r.2.2.2.2.length, i64 r.2.2.1, slE (ab Enc.int (ab Enc.str (ab Enc.str (Enc.sl (ab Enc.str Enc.str))))) r.2.2.2.1 (some t14)], .stk t11 (Enc.str.fl r.2.2.2.2), .tok t14 43])) (fun e => cg (.iface 58 (.agg #[.int .i64 e]))) rv) := by
 unfold ir at H
 refine ap Tryz.func37 rfl rfl ?_;show AW _ _ 88 _ _ _;refine af <| aa ?_;show AR _ _ _ _ _ [0] _;refine za rfl <| ag <| af <| af ?_;obtain ⟨x15, x16, e17, H⟩ := cF H;refine aa ?_;show AR _ _ _ _ _ [0, 1, 2] _;refine zS rfl (ah (av := .pt _ _) rfl) <| am rfl rfl (aQ [0, 0, 0] rfl er rfl (eo F o1 a2 a3 t4 a5 a6 t7 ([60] : List UInt8) x15 x16 e17) rfl (fun c A' h => by cases h.1) ?_)
 rintro av A' ⟨h, rfl⟩; cases h
 refine zS rfl (bG rfl) <| ag <| ax rfl (fun c18 => ?_) (fun c18 => ?_)
 ·replace H := aW c18 H;refine af <| aa ?_;show AR _ _ _ _ _ [0] _;refine za rfl <| ag <| aI ?_;obtain rfl := ak H;exact And.intro rfl (Exists.intro _ (Exists.intro _ ⟨aG rfl (.refl _), aB [0, 0, 0] rfl, rfl, t4, t7, rfl⟩))
 ·replace H := aX c18 H;refine aA <| af ?_
  rcases Or.symm (cq H) with ⟨p21, e20, H⟩ | ⟨x19, e20, H⟩
  ·subst H;refine aa ?_;show AR _ _ _ _ _ [0, 1, 2, 3, 4] _;refine zS rfl (ah (av := .pt _ _) rfl) <| am rfl rfl (bc (c := cg (.iface 58 (.agg #[.int .i64 p21]))) [0, 0, 0] rfl kK rfl (lx F o1 x16 a3 t4 a5 a6 t7 p21 e20) rfl ?_);exact And.intro rfl (Exists.intro [] ⟨ba _, rfl, rfl⟩)
  refine aa ?_;show AR _ _ _ _ _ [0, 1, 2, 3, 4] _;refine zS rfl (ah (av := .pt _ _) rfl) <| am rfl rfl (aQ [0, 0, 0] rfl kK rfl (mm F o1 x16 a3 t4 a5 a6 t7 x19.1 x19.2 e20) rfl (fun c A' h => by cases h.1) ?_)
  rintro av A' ⟨h, rfl⟩; cases h
  refine zS rfl (cP (zs := [.int .i64 0, .string ⟨#[]⟩, .string ⟨#[]⟩, .slice none 0 0]) (ps := [(0, 1), (1, 1), (2, 1), (3, 1)]) (cs := [i64 0, S x19.1, S ([] : List UInt8), eE]) (by kernel_rfl) rfl rfl) <| zX rfl (bh (zs := [.int .i64 0, .string ⟨#[]⟩, .string ⟨#[]⟩, .slice none 0 0]) (by kernel_rfl)) ?_;rintro _ _ ⟨o22, rfl, rfl⟩;refine s0 rfl rfl (aV (i := 0) (vs := [i64 0, S x19.1, S ([] : List UInt8), eE]) (by kernel_rfl) rfl rfl (by simp [bB, slE]) rfl (ac rfl)) <| ag ?_
  refine ji 0 3 2 94 rfl rfl fun t23 => ?_
  show AW _ _ _ _ _ ⟨_, _, [.tok t23 94, .obj o22 [i64 0, S x19.1, S ([] : List UInt8), slE (ab Enc.str Enc.str) [] (some t23)], .obj o1 [S x19.2, .sk t4 a3.length, i64 a5, slE (ab Enc.int (ab Enc.str (ab Enc.str (Enc.sl (ab Enc.str Enc.str))))) a6 (some t7)], .stk t4 (Enc.str.fl a3), .tok t7 43]⟩;refine af <| aa ?_;show AR _ _ _ _ _ [0] _;refine za rfl <| ag <| bJ (X := Bool × (List UInt8) × (List ((List UInt8) × List UInt8)) × Nat) (fun (y56, y57, y58, t59) => ⟨[(0, .pt o1 0), (3, .pt o22 0), (4, B y56)], [], [.obj o1 [S y57, .sk t4 a3.length, i64 a5, slE (ab Enc.int (ab Enc.str (ab Enc.str (Enc.sl (ab Enc.str Enc.str))))) a6 (some t7)], .obj o22 [i64 0, S x19.1, S ([] : List UInt8), slE (ab Enc.str Enc.str) y58 (some t59)], .stk t4 (Enc.str.fl a3), .tok t7 43, .tok t59 94]⟩) (fun (y56, y57, y58, t59) => eQ F a3 a5 a6 x19 y56 y57 y58 = some rv) ?_ ?_
  ·refine aR <| de (X := Nat × (List ((List UInt8) × List UInt8)) × Nat × (List UInt8)) (fun (n28, y24, t25, y26) => ⟨[(0, .pt o1 0), (3, .pt o22 0), (4, B false)], [], [.obj o22 [i64 0, S x19.1, S ([] : List UInt8), slE (ab Enc.str Enc.str) y24 (some t25)], .obj o1 [S y26, .sk t4 a3.length, i64 a5, slE (ab Enc.int (ab Enc.str (ab Enc.str (Enc.sl (ab Enc.str Enc.str))))) a6 (some t7)], .stk t4 (Enc.str.fl a3), .tok t25 94, .tok t7 43]⟩) (fun (n28, y24, t25, y26) => gO F a3 a5 a6 x19 n28 (y24, y26) = some rv) (fun (n28, y24, t25, y26) => n28) (F, [], t23, x19.2) H (bb [1, 1, 1, 0, 0] (.cons (.refl _) (.cons (.refl _) (.cons (.refl _) (.nil _)))) rfl) ?_;rintro ⟨n28, y24, t25, y26⟩ H;obtain ⟨n28, rfl, H⟩ := eX H;replace H : gP F a3 a5 a6 x19 (gO F a3 a5 a6 x19 n28) y24 y26 = some rv := H
   unfold gP at H
   refine aR <| af ?_;obtain ⟨x29, x30, e31, H⟩ := cF H;refine aa ?_;show AR _ _ _ _ _ [0, 1, 2] _;refine zS rfl (ah (av := .pt _ _) rfl) <| am rfl rfl (aQ [1, 1, 2] rfl ti rfl (pU F o1 y26 a3 t4 a5 a6 t7 x29 x30 e31) rfl (fun c A' h => by cases h.1) ?_)
   rintro av A' ⟨h, rfl⟩; cases h
   refine za rfl <| ag <| af <| af ?_;obtain ⟨x32, x33, e34, H⟩ := cF H;refine aa ?_;show AR _ _ _ _ _ [0, 1] _;refine zS rfl (ah (av := .pt _ _) rfl) <| am rfl rfl (aQ [0, 0, 0] rfl er rfl (eo F o1 x30 a3 t4 a5 a6 t7 ([62] : List UInt8) x32 x33 e34) rfl (fun c A' h => by cases h.1) ?_)
   rintro av A' ⟨h, rfl⟩; cases h
   refine ag <| ax rfl (fun c35 => ?_) (fun c35 => ?_)
   ·replace H := aW c35 H;refine cw ?_;exact Exists.intro (false, x33, y24, t25) ⟨H, bb [0, 2, 0, 0, 0] (.cons (.refl _) (.cons (.refl _) (.cons (.refl _) (.nil _)))) rfl⟩
   ·replace H := aX c35 H;refine aA <| af <| af ?_;obtain ⟨x36, x37, e38, H⟩ := cF H;refine aa ?_;show AR _ _ _ _ _ [0, 1] _;refine zS rfl (ah (av := .pt _ _) rfl) <| am rfl rfl (aQ [0, 0, 0] rfl er rfl (eo F o1 x33 a3 t4 a5 a6 t7 ([47, 62] : List UInt8) x36 x37 e38) rfl (fun c A' h => by cases h.1) ?_)
    rintro av A' ⟨h, rfl⟩; cases h
    refine ag <| ax rfl (fun c39 => ?_) (fun c39 => ?_)
    ·replace H := aW c39 H;refine af <| aa ?_;show AR _ _ _ _ _ [0] _;refine za rfl <| ag <| cw ?_;exact Exists.intro (true, x37, y24, t25) ⟨H, bb [0, 2, 0, 0, 0] (.cons (.refl _) (.cons (.refl _) (.cons (.refl _) (.nil _)))) rfl⟩
    ·replace H := aX c39 H;refine aA <| af ?_
     rcases Or.symm (cq H) with ⟨p42, e41, H⟩ | ⟨x40, e41, H⟩
     ·subst H;refine aa ?_;show AR _ _ _ _ _ [0, 1] _;refine zm rfl <| am rfl rfl (bc (c := cg (.iface 58 (.agg #[.int .i64 p42]))) [] rfl bU rfl (bV F x29 p42 e41) rfl ?_);exact And.intro rfl (Exists.intro [] ⟨ba _, rfl, rfl⟩)
     refine aa ?_;show AR _ _ _ _ _ [0, 1] _;refine zm rfl <| am rfl rfl (aC rfl bU rfl (cn F x29 e41) ?_);refine ag <| af ?_
     rcases Or.symm (cq H) with ⟨p45, e44, H⟩ | ⟨x43, e44, H⟩
     ·subst H;refine aa ?_;show AR _ _ _ _ _ [0, 1, 2, 3] _;refine zS rfl (ah (av := .pt _ _) rfl) <| am rfl rfl (bc (c := cg (.iface 58 (.agg #[.int .i64 p45]))) [0, 0, 0] rfl th rfl (rU F o1 x37 a3 t4 a5 a6 t7 p45 e44) rfl ?_);exact And.intro rfl (Exists.intro [] ⟨ba _, rfl, rfl⟩)
     refine aa ?_;show AR _ _ _ _ _ [0, 1, 2, 3] _;refine zS rfl (ah (av := .pt _ _) rfl) <| am rfl rfl (aQ [0, 0, 0] rfl th rfl (tP F o1 x37 a3 t4 a5 a6 t7 x43.1 x43.2.1 x43.2.2 e44) rfl (fun c A' h => by cases h.1) ?_)
     rintro av A' ⟨h, rfl⟩; cases h
     refine zX rfl (bh (zs := [.string ⟨#[]⟩, .string ⟨#[]⟩]) (by kernel_rfl)) ?_;rintro _ _ ⟨o46, rfl, rfl⟩;refine s0 rfl rfl (aV (i := 0) (vs := [S x43.1, S x43.2.1]) (by kernel_rfl) rfl rfl (by simp [bB, slE]) rfl (ac rfl)) <| ag <| af ?_;obtain ⟨x47, e48, H⟩ := cd H
     rcases Or.symm (cq H) with ⟨p51, e50, H⟩ | ⟨x49, e50, H⟩
     ·subst H;refine aa ?_;show AR _ _ _ _ _ [0, 1, 2, 3, 4, 5] _;refine zS rfl (an (n := 3) (by kernel_rfl) rfl) <| zR rfl (ao (i := 4) co rfl rfl rfl rfl) <| zS rfl (fH rfl rfl) <| am rfl rfl (aQ [0] rfl tg rfl (lg F y24 (some t25) o46 x43.1 x43.2.1 x47 e48) rfl (fun c A' h => by cases h.1) ?_)
      rintro av A' ⟨h, rfl⟩; cases h
      refine zS rfl (bG rfl) <| am rfl rfl (bc (c := cg (.iface 58 (.agg #[.int .i64 p51]))) [] rfl bU rfl (bV F (!x47) p51 e50) rfl ?_);exact And.intro rfl (Exists.intro [] ⟨ba _, rfl, rfl⟩)
     refine aa ?_;show AR _ _ _ _ _ [0, 1, 2, 3, 4, 5] _;refine zS rfl (an (n := 3) (by kernel_rfl) rfl) <| zR rfl (ao (i := 4) co rfl rfl rfl rfl) <| zS rfl (fH rfl rfl) <| am rfl rfl (aQ [0] rfl tg rfl (lg F y24 (some t25) o46 x43.1 x43.2.1 x47 e48) rfl (fun c A' h => by cases h.1) ?_)
     rintro av A' ⟨h, rfl⟩; cases h
     refine zS rfl (bG rfl) <| am rfl rfl (aC rfl bU rfl (cn F (!x47) e50) ?_);refine ag ?_;obtain ⟨g53, H⟩ := aN H;obtain ⟨x54, e55, H⟩ := bR H;refine aa ?_;show AR _ _ _ _ _ [0, 1, 2, 3, 4, 5, 6] _;refine zS rfl (an (n := 3) (by kernel_rfl) rfl) <| zR rfl (ao (i := 4) co rfl rfl rfl rfl) <| zR rfl (dW (i := 0) (n := 2) Tryz.underlying94 rfl (by kernel_rfl) rfl rfl (ac rfl)) <| zR rfl (dX (E := (ab Enc.str Enc.str)) (bytes := 32) (zs := [.string ⟨#[]⟩, .string ⟨#[]⟩]) (l := ([(x43.1, x43.2.1)] : List ((List UInt8) × List UInt8))) co (by kernel_rfl) (by kernel_rfl) rfl rfl rfl rfl rfl) <| zX rfl (ip (E := (ab Enc.str Enc.str)) (bytes := 32) 5 co co rfl (by kernel_rfl) rfl rfl rfl rfl g53 e55) ?_;rintro _ _ ⟨t52, rfl, rfl⟩;refine zS rfl (an (n := 3) (by kernel_rfl) rfl) <| s0 rfl rfl (aq (i := 4) (c := slE _ _ _) (by kernel_rfl) rfl rfl rfl rfl (ac rfl)) <| ag ?_;exact Exists.intro (n28, x54, t52, x43.2.2) ⟨H, Nat.lt_succ_self _, bb [4, 1, 1, 2, 1] (.cons (.refl _) (.cons (.refl _) (.cons (.refl _) (.nil _)))) rfl⟩
  rintro ⟨y56, y57, y58, t59⟩ H;replace H : eQ F a3 a5 a6 x19 y56 y57 y58 = some rv := H
  unfold eQ at H
  refine bJ (X := Int) (fun y66 => ⟨[(0, .pt o1 0), (3, .pt o22 0), (4, B y56)], [], [.obj o1 [S y57, .sk t4 a3.length, i64 y66, slE (ab Enc.int (ab Enc.str (ab Enc.str (Enc.sl (ab Enc.str Enc.str))))) a6 (some t7)], .obj o22 [i64 0, S x19.1, S ([] : List UInt8), slE (ab Enc.str Enc.str) y58 (some t59)], .stk t4 (Enc.str.fl a3), .tok t7 43, .tok t59 94]⟩) (fun y66 => eR F a3 a6 x19 y56 y57 y58 y66 = some rv) ?_ ?_
  ·refine af <| aa ?_;show AR _ _ _ _ _ [0, 1, 2, 3, 4, 5] _;refine zS rfl (ah (av := .pt _ _) rfl) <| zS rfl (ar rfl) <| zS rfl (an (n := 1) (by kernel_rfl) rfl) <| zR rfl (ao (i := 0) au rfl rfl rfl rfl) <| zS rfl (fb au rfl) <| zS rfl (bK rfl rfl) <| ag <| ax rfl (fun c61 => ?_) (fun c61 => ?_)
   ·replace H := aW c61 H;refine af ?_;obtain ⟨g62, H⟩ := aN H;refine aa ?_;show AR _ _ _ _ _ [0, 1, 2, 3, 4, 5, 6, 7] _;refine zS rfl (ah (av := .pt _ _) rfl) <| zS rfl (ar rfl) <| zS rfl (an (n := 2) (by kernel_rfl) rfl) <| zR rfl (ao (i := 0) aM rfl rfl rfl rfl) <| zS rfl (cX rfl rfl g62) <| zS rfl (ar rfl) <| zS rfl (an (n := 2) (by kernel_rfl) rfl) <| s0 rfl rfl (aq (i := 0) (c := .v _) (by kernel_rfl) rfl rfl rfl rfl (ac rfl)) <| ag ?_
    rcases Or.symm (cq H) with ⟨p65, e64, H⟩ | ⟨x63, e64, H⟩
    ·subst H;refine aa ?_;show AR _ _ _ _ _ [0, 1, 2, 3, 4, 5] _;refine zS rfl (ah (av := .pt _ _) rfl) <| zS rfl (ar rfl) <| zS rfl (an (n := 2) (by kernel_rfl) rfl) <| zR rfl (ao (i := 0) aM rfl rfl rfl rfl) <| zS rfl (bK rfl rfl) <| am rfl rfl (bc (c := cg (.iface 58 (.agg #[.int .i64 p65]))) [] rfl bU rfl (bV F (decide (a5 + 1 = 1)) p65 e64) rfl ?_);exact And.intro rfl (Exists.intro [] ⟨ba _, rfl, rfl⟩)
    refine aa ?_;show AR _ _ _ _ _ [0, 1, 2, 3, 4, 5] _;refine zS rfl (ah (av := .pt _ _) rfl) <| zS rfl (ar rfl) <| zS rfl (an (n := 2) (by kernel_rfl) rfl) <| zR rfl (ao (i := 0) aM rfl rfl rfl rfl) <| zS rfl (bK rfl rfl) <| am rfl rfl (aC rfl bU rfl (cn F (decide (a5 + 1 = 1)) e64) ?_);refine ag ?_;exact Exists.intro (a5 + 1) ⟨H, bb [0, 0, 0, 0, 0] (.cons (.refl _) (.cons (.refl _) (.cons (.refl _) (.nil _)))) rfl⟩
   ·replace H := aX c61 H;refine aA ?_;exact Exists.intro a5 ⟨H, bb [0, 0, 0, 0, 0] (.cons (.refl _) (.cons (.refl _) (.cons (.refl _) (.nil _)))) rfl⟩
  rintro y66 H;replace H : eR F a3 a6 x19 y56 y57 y58 y66 = some rv := H
  unfold eR at H
  refine bJ (X := Nat × (List (List UInt8))) (fun (t78, y79) => ⟨[(0, .pt o1 0), (3, .pt o22 0), (4, B y56)], [], [.obj o1 [S y57, .sk t78 y79.length, i64 y66, slE (ab Enc.int (ab Enc.str (ab Enc.str (Enc.sl (ab Enc.str Enc.str))))) a6 (some t7)], .obj o22 [i64 0, S x19.1, S ([] : List UInt8), slE (ab Enc.str Enc.str) y58 (some t59)], .stk t78 (Enc.str.fl y79), .tok t7 43, .tok t59 94]⟩) (fun (t78, y79) => gM F a6 x19 y56 y57 y58 y66 y79 = some rv) ?_ ?_
  ·refine bJ (X := Nat × (List (List UInt8))) (fun (t74, y75) => ⟨[(0, .pt o1 0), (3, .pt o22 0), (4, B y56)], [], [.obj o1 [S y57, .sk t74 y75.length, i64 y66, slE (ab Enc.int (ab Enc.str (ab Enc.str (Enc.sl (ab Enc.str Enc.str))))) a6 (some t7)], .obj o22 [i64 0, S x19.1, S ([] : List UInt8), slE (ab Enc.str Enc.str) y58 (some t59)], .stk t74 (Enc.str.fl y75), .tok t7 43, .tok t59 94]⟩) (fun (t74, y75) => gL F a6 x19 y56 y57 y58 y66 y75 = some rv) ?_ ?_
   ·obtain ⟨g68, H⟩ := aN H;obtain ⟨x69, e70, H⟩ := bR H;refine ce (by kernel_rfl) ?_;show AI _ _ _ _ _ 12 (Array.replicate 12 false) _;refine zk 0 rfl (ah (av := .pt _ _) rfl) ?_;show AI _ _ _ _ _ _ #[true, false, false, false, false, false, false, false, false, false, false, false] _;refine zk 1 rfl (ah (av := .pt _ _) rfl) ?_;show AI _ _ _ _ _ _ #[true, true, false, false, false, false, false, false, false, false, false, false] _;refine zk 2 rfl (ar rfl) ?_;show AI _ _ _ _ _ _ #[true, true, true, false, false, false, false, false, false, false, false, false] _;refine zk 3 rfl (an (n := 1) (by kernel_rfl) rfl) ?_;show AI _ _ _ _ _ _ #[true, true, true, true, false, false, false, false, false, false, false, false] _;refine zk 5 rfl (an (n := 1) (by kernel_rfl) rfl) ?_;show AI _ _ _ _ _ _ #[true, true, true, true, false, true, false, false, false, false, false, false] _;refine AI.two (i := 4) (j := 6) (by kernel_rfl) rfl rfl rfl rfl ?_ ?_
    ·refine bz rfl (ao (i := 0) au rfl rfl rfl rfl) ?_;show AI _ _ _ _ _ _ #[true, true, true, true, true, true, false, false, false, false, false, false] _;refine ca (i := 6) (by kernel_rfl) rfl rfl <| bz rfl (ao (i := 1) ai rfl rfl rfl rfl) ?_;show AI _ _ _ _ _ _ #[true, true, true, true, true, true, true, false, false, false, false, false] _;refine ca (i := 7) (by kernel_rfl) rfl rfl <| bz rfl (cE (E := Enc.str) (bytes := 16) (xs := [.tmp 60]) (l := ([x19.1] : List (List UInt8))) au (by kernel_rfl) rfl rfl (by decide) rfl rfl) ?_;show AI _ _ _ _ _ _ #[true, true, true, true, true, true, true, true, false, false, false, false] _;refine ca (i := 8) (by kernel_rfl) rfl rfl <| AIO.opx rfl (kv (E := Enc.str) (bytes := 16) 2 au au rfl (by kernel_rfl) rfl rfl rfl rfl rfl rfl rfl g68 e70) ?_;rintro _ _ ⟨t71, rfl, rfl⟩;show AI _ _ _ _ _ _ #[true, true, true, true, true, true, true, true, true, false, false, false] _;refine zk 9 rfl (ar rfl) ?_;show AI _ _ _ _ _ _ #[true, true, true, true, true, true, true, true, true, true, false, false] _;refine zk 10 rfl (an (n := 1) (by kernel_rfl) rfl) ?_;show AI _ _ _ _ _ _ #[true, true, true, true, true, true, true, true, true, true, true, false] _;refine ca (i := 11) (by kernel_rfl) rfl rfl <| AIO.op0 (aq (i := 0) (c := .sk _ _) (by kernel_rfl) rfl rfl rfl rfl (ac rfl)) ?_
     show AI _ _ _ _ _ _ #[true, true, true, true, true, true, true, true, true, true, true, true] _;refine cK rfl ?_;exact Exists.intro (t71, x69) ⟨H, bb [0, 0, 0, 0, 0] (.cons (.refl _) (.cons (.refl _) (.cons (.refl _) (.nil _)))) rfl⟩
    ·refine bz rfl (ao (i := 1) ai rfl rfl rfl rfl) ?_;show AI _ _ _ _ _ _ #[true, true, true, true, false, true, true, false, false, false, false, false] _;refine AI.two (i := 4) (j := 7) (by kernel_rfl) rfl rfl rfl rfl ?_ ?_
     ·refine bz rfl (ao (i := 0) au rfl rfl rfl rfl) ?_;show AI _ _ _ _ _ _ #[true, true, true, true, true, true, true, false, false, false, false, false] _;refine ca (i := 7) (by kernel_rfl) rfl rfl <| bz rfl (cE (E := Enc.str) (bytes := 16) (xs := [.tmp 60]) (l := ([x19.1] : List (List UInt8))) au (by kernel_rfl) rfl rfl (by decide) rfl rfl) ?_;show AI _ _ _ _ _ _ #[true, true, true, true, true, true, true, true, false, false, false, false] _;refine ca (i := 8) (by kernel_rfl) rfl rfl <| AIO.opx rfl (kv (E := Enc.str) (bytes := 16) 2 au au rfl (by kernel_rfl) rfl rfl rfl rfl rfl rfl rfl g68 e70) ?_;rintro _ _ ⟨t72, rfl, rfl⟩;show AI _ _ _ _ _ _ #[true, true, true, true, true, true, true, true, true, false, false, false] _;refine zk 9 rfl (ar rfl) ?_;show AI _ _ _ _ _ _ #[true, true, true, true, true, true, true, true, true, true, false, false] _;refine zk 10 rfl (an (n := 1) (by kernel_rfl) rfl) ?_;show AI _ _ _ _ _ _ #[true, true, true, true, true, true, true, true, true, true, true, false] _;refine ca (i := 11) (by kernel_rfl) rfl rfl <| AIO.op0 (aq (i := 0) (c := .sk _ _) (by kernel_rfl) rfl rfl rfl rfl (ac rfl)) ?_;show AI _ _ _ _ _ _ #[true, true, true, true, true, true, true, true, true, true, true, true] _;refine cK rfl ?_;exact Exists.intro (t72, x69) ⟨H, bb [0, 0, 0, 0, 0] (.cons (.refl _) (.cons (.refl _) (.cons (.refl _) (.nil _)))) rfl⟩
     ·refine bz rfl (cE (E := Enc.str) (bytes := 16) (xs := [.tmp 60]) (l := ([x19.1] : List (List UInt8))) au (by kernel_rfl) rfl rfl (by decide) rfl rfl) ?_;show AI _ _ _ _ _ _ #[true, true, true, true, false, true, true, true, false, false, false, false] _;refine ca (i := 4) (by kernel_rfl) rfl rfl <| bz rfl (ao (i := 0) au rfl rfl rfl rfl) ?_;show AI _ _ _ _ _ _ #[true, true, true, true, true, true, true, true, false, false, false, false] _;refine ca (i := 8) (by kernel_rfl) rfl rfl <| AIO.opx rfl (kv (E := Enc.str) (bytes := 16) 2 au au rfl (by kernel_rfl) rfl rfl rfl rfl rfl rfl rfl g68 e70) ?_;rintro _ _ ⟨t73, rfl, rfl⟩;show AI _ _ _ _ _ _ #[true, true, true, true, true, true, true, true, true, false, false, false] _;refine zk 9 rfl (ar rfl) ?_;show AI _ _ _ _ _ _ #[true, true, true, true, true, true, true, true, true, true, false, false] _;refine zk 10 rfl (an (n := 1) (by kernel_rfl) rfl) ?_;show AI _ _ _ _ _ _ #[true, true, true, true, true, true, true, true, true, true, true, false] _;refine ca (i := 11) (by kernel_rfl) rfl rfl <| AIO.op0 (aq (i := 0) (c := .sk _ _) (by kernel_rfl) rfl rfl rfl rfl (ac rfl)) ?_;show AI _ _ _ _ _ _ #[true, true, true, true, true, true, true, true, true, true, true, true] _;refine cK rfl ?_;exact Exists.intro (t73, x69) ⟨H, bb [0, 0, 0, 0, 0] (.cons (.refl _) (.cons (.refl _) (.cons (.refl _) (.nil _)))) rfl⟩
   rintro ⟨t74, y75⟩ H;replace H : gL F a6 x19 y56 y57 y58 y66 y75 = some rv := H
   unfold gL at H
   refine af <| aa ?_;show AR _ _ _ _ _ [0, 1, 2, 3, 4, 5] _;refine zS rfl (ah (av := .pt _ _) rfl) <| zS rfl (ar rfl) <| zS rfl (an (n := 1) (by kernel_rfl) rfl) <| zR rfl (ao (i := 0) au rfl rfl rfl rfl) <| zS rfl (fb au rfl) <| zS rfl (eW rfl rfl) <| ag <| ax rfl (fun c77 => ?_) (fun c77 => ?_)
   ·replace H := aW c77 H;obtain rfl := ak H;refine aa ?_;show AR _ _ _ _ _ [0, 1, 2] _;refine zS rfl (cP (zs := [.int .i64 0]) (ps := [(0, 1)]) (cs := [i64 5]) (by kernel_rfl) rfl rfl) <| zS rfl (bf (a := .agg _) Tryz.underlying58 rfl rfl) <| am rfl rfl (AO.panicT (c := cg (.iface 58 (.agg #[.int .i64 5]))) rfl rfl ?_);exact And.intro rfl (Exists.intro [] ⟨ba _, rfl, rfl⟩)
   ·replace H := aX c77 H;refine aA ?_;exact Exists.intro (t74, y75) ⟨H, bb [0, 0, 0, 0, 0] (.cons (.refl _) (.cons (.refl _) (.cons (.refl _) (.nil _)))) rfl⟩
  rintro ⟨t78, y79⟩ H;replace H : gM F a6 x19 y56 y57 y58 y66 y79 = some rv := H
  unfold gM at H
  refine bJ (X := (List (Int × (List UInt8) × (List UInt8) × List ((List UInt8) × List UInt8))) × Nat) (fun (y87, t88) => ⟨[(0, .pt o1 0), (3, .pt o22 0), (4, B y56)], [], [.obj o1 [S y57, .sk t78 y79.length, i64 y66, slE (ab Enc.int (ab Enc.str (ab Enc.str (Enc.sl (ab Enc.str Enc.str))))) y87 (some t88)], .obj o22 [i64 0, S x19.1, S ([] : List UInt8), slE (ab Enc.str Enc.str) y58 (some t59)], .stk t78 (Enc.str.fl y79), .tok t88 43, .tok t59 94]⟩) (fun (y87, t88) => gN F x19 y56 y57 y66 y79 y87 = some rv) ?_ ?_
  ·obtain ⟨g82, H⟩ := aN H;obtain ⟨x83, e84, H⟩ := bR H;refine ce (by kernel_rfl) ?_;show AI _ _ _ _ _ 11 (Array.replicate 11 false) _;refine zk 0 rfl (ah (av := .pt _ _) rfl) ?_;show AI _ _ _ _ _ _ #[true, false, false, false, false, false, false, false, false, false, false] _;refine zk 1 rfl (ah (av := .pt _ _) rfl) ?_;show AI _ _ _ _ _ _ #[true, true, false, false, false, false, false, false, false, false, false] _;refine zk 2 rfl (ar rfl) ?_;show AI _ _ _ _ _ _ #[true, true, true, false, false, false, false, false, false, false, false] _;refine zk 3 rfl (an (n := 3) (by kernel_rfl) rfl) ?_;show AI _ _ _ _ _ _ #[true, true, true, true, false, false, false, false, false, false, false] _;refine AI.two (i := 4) (j := 5) (by kernel_rfl) rfl rfl rfl rfl ?_ ?_
   ·refine bz rfl (ao (i := 0) aP rfl rfl rfl rfl) ?_;show AI _ _ _ _ _ _ #[true, true, true, true, true, false, false, false, false, false, false] _;refine ca (i := 5) (by kernel_rfl) rfl rfl <| bz rfl (dW (i := 1) (n := 4) Tryz.underlying43 rfl (by kernel_rfl) rfl rfl (ac rfl)) ?_;show AI _ _ _ _ _ _ #[true, true, true, true, true, true, false, false, false, false, false] _;refine ca (i := 6) (by kernel_rfl) rfl rfl <| bz rfl (jx (ds := [i64 0, S x19.1, S ([] : List UInt8), slE (ab Enc.str Enc.str) y58 none]) 78 (.cons (.refl _) (.cons (.refl _) (.cons (.refl _) (.cons (.tok _ _ _) (.nil))))) (hc := rfl) <| dX (E := (ab Enc.int (ab Enc.str (ab Enc.str (Enc.sl (ab Enc.str Enc.str)))))) (bytes := 64) (zs := [.int .i64 0, .string ⟨#[]⟩, .string ⟨#[]⟩, .slice none 0 0]) (l := ([(0, x19.1, ([] : List UInt8), y58)] : List (Int × (List UInt8) × (List UInt8) × List ((List UInt8) × List UInt8)))) aP (by kernel_rfl) (by kernel_rfl) rfl rfl rfl rfl rfl) ?_;show AI _ _ _ _ _ _ #[true, true, true, true, true, true, true, false, false, false, false] _;refine ca (i := 7) (by kernel_rfl) rfl rfl <| AIO.opx rfl (ip (E := (ab Enc.int (ab Enc.str (ab Enc.str (Enc.sl (ab Enc.str Enc.str)))))) (bytes := 64) 3 aP aP rfl (by kernel_rfl) rfl rfl rfl rfl g82 e84) ?_;rintro _ _ ⟨t81, rfl, rfl⟩;show AI _ _ _ _ _ _ #[true, true, true, true, true, true, true, true, false, false, false] _
    refine zk 8 rfl (ar rfl) ?_;show AI _ _ _ _ _ _ #[true, true, true, true, true, true, true, true, true, false, false] _;refine zk 9 rfl (an (n := 3) (by kernel_rfl) rfl) ?_;show AI _ _ _ _ _ _ #[true, true, true, true, true, true, true, true, true, true, false] _;refine ca (i := 10) (by kernel_rfl) rfl rfl <| AIO.op0 (aq (i := 0) (c := slE _ _ _) (by kernel_rfl) rfl rfl rfl rfl (ac rfl)) ?_;show AI _ _ _ _ _ _ #[true, true, true, true, true, true, true, true, true, true, true] _;refine cK rfl ?_;exact Exists.intro (x83, t81) ⟨H, bb [0, 0, 0, 0, 0] (.cons (.refl _) (.cons (.refl _) (.cons (.refl _) (.nil _)))) rfl⟩
   ·refine bz rfl (dW (i := 1) (n := 4) Tryz.underlying43 rfl (by kernel_rfl) rfl rfl (ac rfl)) ?_;show AI _ _ _ _ _ _ #[true, true, true, true, false, true, false, false, false, false, false] _;refine AI.two (i := 4) (j := 6) (by kernel_rfl) rfl rfl rfl rfl ?_ ?_
    ·refine bz rfl (ao (i := 0) aP rfl rfl rfl rfl) ?_;show AI _ _ _ _ _ _ #[true, true, true, true, true, true, false, false, false, false, false] _;refine ca (i := 6) (by kernel_rfl) rfl rfl <| bz rfl (jx (ds := [i64 0, S x19.1, S ([] : List UInt8), slE (ab Enc.str Enc.str) y58 none]) 78 (.cons (.refl _) (.cons (.refl _) (.cons (.refl _) (.cons (.tok _ _ _) (.nil))))) (hc := rfl) <| dX (E := (ab Enc.int (ab Enc.str (ab Enc.str (Enc.sl (ab Enc.str Enc.str)))))) (bytes := 64) (zs := [.int .i64 0, .string ⟨#[]⟩, .string ⟨#[]⟩, .slice none 0 0]) (l := ([(0, x19.1, ([] : List UInt8), y58)] : List (Int × (List UInt8) × (List UInt8) × List ((List UInt8) × List UInt8)))) aP (by kernel_rfl) (by kernel_rfl) rfl rfl rfl rfl rfl) ?_;show AI _ _ _ _ _ _ #[true, true, true, true, true, true, true, false, false, false, false] _;refine ca (i := 7) (by kernel_rfl) rfl rfl <| AIO.opx rfl (ip (E := (ab Enc.int (ab Enc.str (ab Enc.str (Enc.sl (ab Enc.str Enc.str)))))) (bytes := 64) 3 aP aP rfl (by kernel_rfl) rfl rfl rfl rfl g82 e84) ?_;rintro _ _ ⟨t85, rfl, rfl⟩;show AI _ _ _ _ _ _ #[true, true, true, true, true, true, true, true, false, false, false] _;refine zk 8 rfl (ar rfl) ?_;show AI _ _ _ _ _ _ #[true, true, true, true, true, true, true, true, true, false, false] _;refine zk 9 rfl (an (n := 3) (by kernel_rfl) rfl) ?_
     show AI _ _ _ _ _ _ #[true, true, true, true, true, true, true, true, true, true, false] _;refine ca (i := 10) (by kernel_rfl) rfl rfl <| AIO.op0 (aq (i := 0) (c := slE _ _ _) (by kernel_rfl) rfl rfl rfl rfl (ac rfl)) ?_;show AI _ _ _ _ _ _ #[true, true, true, true, true, true, true, true, true, true, true] _;refine cK rfl ?_;exact Exists.intro (x83, t85) ⟨H, bb [0, 0, 0, 0, 0] (.cons (.refl _) (.cons (.refl _) (.cons (.refl _) (.nil _)))) rfl⟩
    ·refine bz rfl (jx (ds := [i64 0, S x19.1, S ([] : List UInt8), slE (ab Enc.str Enc.str) y58 none]) 78 (.cons (.refl _) (.cons (.refl _) (.cons (.refl _) (.cons (.tok _ _ _) (.nil))))) (hc := rfl) <| dX (E := (ab Enc.int (ab Enc.str (ab Enc.str (Enc.sl (ab Enc.str Enc.str)))))) (bytes := 64) (zs := [.int .i64 0, .string ⟨#[]⟩, .string ⟨#[]⟩, .slice none 0 0]) (l := ([(0, x19.1, ([] : List UInt8), y58)] : List (Int × (List UInt8) × (List UInt8) × List ((List UInt8) × List UInt8)))) aP (by kernel_rfl) (by kernel_rfl) rfl rfl rfl rfl rfl) ?_;show AI _ _ _ _ _ _ #[true, true, true, true, false, true, true, false, false, false, false] _;refine ca (i := 4) (by kernel_rfl) rfl rfl <| bz rfl (ao (i := 0) aP rfl rfl rfl rfl) ?_;show AI _ _ _ _ _ _ #[true, true, true, true, true, true, true, false, false, false, false] _;refine ca (i := 7) (by kernel_rfl) rfl rfl <| AIO.opx rfl (ip (E := (ab Enc.int (ab Enc.str (ab Enc.str (Enc.sl (ab Enc.str Enc.str)))))) (bytes := 64) 3 aP aP rfl (by kernel_rfl) rfl rfl rfl rfl g82 e84) ?_;rintro _ _ ⟨t86, rfl, rfl⟩;show AI _ _ _ _ _ _ #[true, true, true, true, true, true, true, true, false, false, false] _;refine zk 8 rfl (ar rfl) ?_;show AI _ _ _ _ _ _ #[true, true, true, true, true, true, true, true, true, false, false] _;refine zk 9 rfl (an (n := 3) (by kernel_rfl) rfl) ?_
     show AI _ _ _ _ _ _ #[true, true, true, true, true, true, true, true, true, true, false] _;refine ca (i := 10) (by kernel_rfl) rfl rfl <| AIO.op0 (aq (i := 0) (c := slE _ _ _) (by kernel_rfl) rfl rfl rfl rfl (ac rfl)) ?_;show AI _ _ _ _ _ _ #[true, true, true, true, true, true, true, true, true, true, true] _;refine cK rfl ?_;exact Exists.intro (x83, t86) ⟨H, bb [0, 0, 0, 0, 0] (.cons (.refl _) (.cons (.refl _) (.cons (.refl _) (.nil _)))) rfl⟩
  rintro ⟨y87, t88⟩ H;replace H : gN F x19 y56 y57 y66 y79 y87 = some rv := H
  unfold gN at H
  refine bJ (X := Nat × (List (List UInt8)) × (List (Int × (List UInt8) × (List UInt8) × List ((List UInt8) × List UInt8))) × Nat) (fun (t96, y97, y98, t99) => ⟨[], [], [.obj o1 [S y57, .sk t96 y97.length, i64 y66, slE (ab Enc.int (ab Enc.str (ab Enc.str (Enc.sl (ab Enc.str Enc.str))))) y98 (some t99)], .stk t96 (Enc.str.fl y97), .tok t99 43]⟩) (fun (t96, y97, y98, t99) => fW y57 y66 y97 y98 = some rv) ?_ ?_
  ·refine af <| aa ?_;show AR _ _ _ _ _ [0] _;refine zm rfl <| ag <| ax rfl (fun c90 => ?_) (fun c90 => ?_)
   ·replace H := aW c90 H
    rcases Or.symm (cq H) with ⟨p93, e92, H⟩ | ⟨x91, e92, H⟩
    ·subst H;refine aa ?_;show AR _ _ _ _ _ [0, 1, 2, 3] _;refine zS rfl (ah (av := .pt _ _) rfl) <| zS rfl (an (n := 1) (by kernel_rfl) rfl) <| zR rfl (ao (i := 1) ai rfl rfl rfl rfl) <| am rfl rfl (bc (c := cg (.iface 58 (.agg #[.int .i64 p93]))) [0, 1, 1] rfl nE rfl (oc F o1 y57 y79 t78 y66 y87 t88 x19.1 p93 e92) rfl ?_);exact And.intro rfl (Exists.intro [] ⟨ba _, rfl, rfl⟩)
    refine aa ?_;show AR _ _ _ _ _ [0, 1, 2, 3] _;refine zS rfl (ah (av := .pt _ _) rfl) <| zS rfl (an (n := 1) (by kernel_rfl) rfl) <| zR rfl (ao (i := 1) ai rfl rfl rfl rfl) <| am rfl rfl (aQ [0, 1, 1] rfl nE rfl (oO F o1 y57 y79 t78 y66 y87 t88 x19.1 x91.1 x91.2 e92) rfl (fun c A' h => by cases h.1) ?_)
    rintro av A' ⟨h, t94, t95, rfl⟩; cases h
    refine ag ?_;exact Exists.intro (t94, x91.2, x91.1, t95) ⟨H, bb [0, 0, 0] (.nil _) rfl⟩
   ·replace H := aX c90 H;refine aA ?_;exact Exists.intro (t78, y79, y87, t88) ⟨H, bb [0, 1, 1] (.nil _) rfl⟩
  rintro ⟨t96, y97, y98, t99⟩ H;replace H : fW y57 y66 y97 y98 = some rv := H
  unfold fW at H
  refine af <| aa ?_;show AR _ _ _ _ _ [0] _;refine za rfl <| ag <| aI ?_;obtain rfl := ak H;exact And.intro rfl (Exists.intro _ (Exists.intro _ ⟨aG rfl (.refl _), aB [0, 0, 0] rfl, rfl, t96, t99, rfl⟩))
theorem qw (F : Nat) (o1 : Nat) (a2 : List UInt8) (a3 : List (List UInt8)) (t4 : Nat) (a5 : Int) (a6 : List (Int × (List UInt8) × (List UInt8) × List ((List UInt8) × List UInt8))) (t7 : Nat) (r8 : Bool) (r9 : List UInt8) (r12 : Int) (r13 : List (Int × (List UInt8) × (List UInt8) × List ((List UInt8) × List UInt8))) (r10 : List (List UInt8)) (H : ir F a2 a3 a5 a6 = some (Res.ok (r8, r9, r12, r13, r10))) : ACalls Tryz.prog 37 [.pt o1 0] [.obj o1 [S a2, .sk t4 a3.length, i64 a5, slE (ab Enc.int (ab Enc.str (ab Enc.str (Enc.sl (ab Enc.str Enc.str))))) a6 (some t7)], .stk t4 (Enc.str.fl a3), .tok t7 43] (fun e A' => e = .ret (B r8) ∧ ∃ t11 t14, A' = [.obj o1 [S r9, .sk t11 r10.length, i64 r12, slE (ab Enc.int (ab Enc.str (ab Enc.str (Enc.sl (ab Enc.str Enc.str))))) r13 (some t14)], .stk t11 (Enc.str.fl r10), .tok t14 43]) := oP F o1 a2 a3 t4 a5 a6 t7 _ H
theorem pB (F : Nat) (o1 : Nat) (a2 : List UInt8) (a3 : List (List UInt8)) (t4 : Nat) (a5 : Int) (a6 : List (Int × (List UInt8) × (List UInt8) × List ((List UInt8) × List UInt8))) (t7 : Nat) (e : Int) (H : ir F a2 a3 a5 a6 = some (Res.pan e)) : ACalls Tryz.prog 37 [.pt o1 0] [.obj o1 [S a2, .sk t4 a3.length, i64 a5, slE (ab Enc.int (ab Enc.str (ab Enc.str (Enc.sl (ab Enc.str Enc.str))))) a6 (some t7)], .stk t4 (Enc.str.fl a3), .tok t7 43] (fun ae A' => ae = .pan ((fun e => cg (.iface 58 (.agg #[.int .i64 e]))) e) ∧ A' = []) := oP F o1 a2 a3 t4 a5 a6 t7 _ H
abbrev _root_.Go.Av.dI := @Tryz.underlying80
abbrev _root_.Go.Av.cJ := @Tryz.underlying81
set_option maxRecDepth 100000 in
set_option maxHeartbeats 1000000 in
theorem sA (F : Nat) (o1 : Nat) (a2 : List UInt8) (a3 : List (List UInt8)) (t4 : Nat) (a5 : Int) (a6 : List (Int × (List UInt8) × (List UInt8) × List ((List UInt8) × List UInt8))) (t7 : Nat) (rv : Res ((List UInt8) × Int × (List (Int × (List UInt8) × (List UInt8) × List ((List UInt8) × List UInt8))) × (List (List UInt8)))) (H : mJ F a2 a3 a5 a6 = some rv) : ACalls Tryz.prog 21 [.pt o1 0] [.obj o1 [S a2, .sk t4 a3.length, i64 a5, slE (ab Enc.int (ab Enc.str (ab Enc.str (Enc.sl (ab Enc.str Enc.str))))) a6 (some t7)], .stk t4 (Enc.str.fl a3), .tok t7 43] (jo (fun (r : (List UInt8) × Int × (List (Int × (List UInt8) × (List UInt8) × List ((List UInt8) × List UInt8))) × (List (List UInt8))) => (fun e A' => e = .ret (.tup []) ∧ ∃ t10 t13, A' = [.obj o1 [S r.1, .sk t10 r.2.2.2.length, i64 r.2.1, slE (ab Enc.int (ab Enc.str (ab Enc.str (Enc.sl (ab Enc.str Enc.str))))) r.2.2.1 (some t13)], .stk t10 (Enc.str.fl r.2.2.2), .tok t13 43])) (fun e => cg (.iface 58 (.agg #[.int .i64 e]))) rv) := by
 unfold mJ at H
 refine ap Tryz.func21 rfl rfl ?_;show AW _ _ 14 _ _ _;refine af <| aa ?_;show AR _ _ _ _ _ [0, 1, 2] _;refine zR rfl (cE (E := lL) (bytes := 8) (xs := [.func 31, .func 32, .func 33, .func 34, .func 35, .func 36, .func 37]) (l := ([31, 32, 33, 34, 35, 36, 37] : List Nat)) cJ (by kernel_rfl) rfl rfl (by decide) rfl rfl) <| zS rfl (cR (av' := i64 7) (bu cJ rfl) rfl) <| zm rfl <| ag <| aR <| yU 9 <| af <| aa ?_;show AR _ _ _ _ _ [0] _;refine zS rfl (cR (av' := B true) (bX rfl rfl) (ay (by decide))) <| ag <| af <| ax rfl (fun _ => ?_) (fun hx => bL rfl hx);refine aA <| af <| aR <| af <| aa ?_;show AR _ _ _ _ _ [0, 1, 2] _;refine zS rfl (dz (E := lL) (m := 0) cJ (by kernel_rfl) rfl rfl rfl rfl) <| zS rfl (aH dI rfl rfl) <| za rfl <| ag <| af ?_
 rcases Or.symm (cq H) with ⟨p16, e15, H⟩ | ⟨x14, e15, H⟩
 ·subst H;refine aa ?_;show AR _ _ _ _ _ [0, 1, 2] _;refine zm rfl <| zS rfl (ah (av := .pt _ _) rfl) <| am rfl rfl (AO.callFPan (c := cg (.iface 58 (.agg #[.int .i64 p16]))) [0, 0, 0] rfl (.inr ⟨rfl, rfl, rfl⟩) tt rfl (qT F o1 a2 a3 t4 a5 a6 t7 p16 e15) rfl ?_);exact And.intro rfl (Exists.intro [] ⟨ba _, rfl, rfl⟩)
 refine aa ?_;show AR _ _ _ _ _ [0, 1, 2] _;refine zm rfl <| zS rfl (ah (av := .pt _ _) rfl) <| am rfl rfl (fm [0, 0, 0] rfl (.inr ⟨rfl, rfl, rfl⟩) tt rfl (rS F o1 a2 a3 t4 a5 a6 t7 x14.1 x14.2.1 x14.2.2 e15) rfl (fun c A' h => by cases h.1) ?_)
 rintro av A' ⟨h, t17, rfl⟩; cases h
 refine ag <| ax rfl (fun c18 => ?_) (fun c18 => ?_)
 ·replace H := aW c18 H;refine aI ?_;obtain rfl := ak H;exact And.intro rfl (Exists.intro _ (Exists.intro _ ⟨bj rfl, aB [0, 0, 0] rfl, rfl, t4, t17, rfl⟩))
 ·replace H := aX c18 H;refine aA <| aa ?_;show AR _ _ _ _ _ [0, 1] _;refine zS rfl (cR (av' := i64 1) (cX rfl rfl (by decide)) rfl) <| zm rfl <| ag <| af <| aa ?_;show AR _ _ _ _ _ [0] _;refine zS rfl (cR (av' := B true) (bX rfl rfl) (ay (by decide))) <| ag <| af <| ax rfl (fun _ => ?_) (fun hx => bL rfl hx);refine aA <| af <| aR <| af <| aa ?_;show AR _ _ _ _ _ [0, 1, 2] _;refine zS rfl (dz (E := lL) (m := 1) cJ (by kernel_rfl) rfl rfl rfl rfl) <| zS rfl (aH dI rfl rfl) <| za rfl <| ag <| af ?_
  rcases Or.symm (cq H) with ⟨p21, e20, H⟩ | ⟨x19, e20, H⟩
  ·subst H;refine aa ?_;show AR _ _ _ _ _ [0, 1, 2] _;refine zm rfl <| zS rfl (ah (av := .pt _ _) rfl) <| am rfl rfl (AO.callFPan (c := cg (.iface 58 (.agg #[.int .i64 p21]))) [0, 0, 0] rfl (.inr ⟨rfl, rfl, rfl⟩) tr rfl (pC F o1 x14.2.1 a3 t4 a5 x14.2.2 t17 p21 e20) rfl ?_);exact And.intro rfl (Exists.intro [] ⟨ba _, rfl, rfl⟩)
  refine aa ?_;show AR _ _ _ _ _ [0, 1, 2] _;refine zm rfl <| zS rfl (ah (av := .pt _ _) rfl) <| am rfl rfl (fm [0, 0, 0] rfl (.inr ⟨rfl, rfl, rfl⟩) tr rfl (qx F o1 x14.2.1 a3 t4 a5 x14.2.2 t17 x19.1 x19.2 e20) rfl (fun c A' h => by cases h.1) ?_)
  rintro av A' ⟨h, rfl⟩; cases h
  refine ag <| ax rfl (fun c22 => ?_) (fun c22 => ?_)
  ·replace H := aW c22 H;refine aI ?_;obtain rfl := ak H;exact And.intro rfl (Exists.intro _ (Exists.intro _ ⟨bj rfl, aB [0, 0, 0] rfl, rfl, t4, t17, rfl⟩))
  ·replace H := aX c22 H;refine aA <| aa ?_;show AR _ _ _ _ _ [0, 1] _;refine zS rfl (cR (av' := i64 2) (cX rfl rfl (by decide)) rfl) <| zm rfl <| ag <| af <| aa ?_;show AR _ _ _ _ _ [0] _;refine zS rfl (cR (av' := B true) (bX rfl rfl) (ay (by decide))) <| ag <| af <| ax rfl (fun _ => ?_) (fun hx => bL rfl hx);refine aA <| af <| aR <| af <| aa ?_;show AR _ _ _ _ _ [0, 1, 2] _;refine zS rfl (dz (E := lL) (m := 2) cJ (by kernel_rfl) rfl rfl rfl rfl) <| zS rfl (aH dI rfl rfl) <| za rfl <| ag <| af ?_
   rcases Or.symm (cq H) with ⟨p25, e24, H⟩ | ⟨x23, e24, H⟩
   ·subst H;refine aa ?_;show AR _ _ _ _ _ [0, 1, 2] _;refine zm rfl <| zS rfl (ah (av := .pt _ _) rfl) <| am rfl rfl (AO.callFPan (c := cg (.iface 58 (.agg #[.int .i64 p25]))) [0, 0, 0] rfl (.inr ⟨rfl, rfl, rfl⟩) tq rfl (tQ F o1 x19.2 a3 t4 a5 x14.2.2 t17 p25 e24) rfl ?_);exact And.intro rfl (Exists.intro [] ⟨ba _, rfl, rfl⟩)
   refine aa ?_;show AR _ _ _ _ _ [0, 1, 2] _;refine zm rfl <| zS rfl (ah (av := .pt _ _) rfl) <| am rfl rfl (fm [0, 0, 0] rfl (.inr ⟨rfl, rfl, rfl⟩) tq rfl (uJ F o1 x19.2 a3 t4 a5 x14.2.2 t17 x23.1 x23.2 e24) rfl (fun c A' h => by cases h.1) ?_)
   rintro av A' ⟨h, rfl⟩; cases h
   refine ag <| ax rfl (fun c26 => ?_) (fun c26 => ?_)
   ·replace H := aW c26 H;refine aI ?_;obtain rfl := ak H;exact And.intro rfl (Exists.intro _ (Exists.intro _ ⟨bj rfl, aB [0, 0, 0] rfl, rfl, t4, t17, rfl⟩))
   ·replace H := aX c26 H;refine aA <| aa ?_;show AR _ _ _ _ _ [0, 1] _;refine zS rfl (cR (av' := i64 3) (cX rfl rfl (by decide)) rfl) <| zm rfl <| ag <| af <| aa ?_;show AR _ _ _ _ _ [0] _;refine zS rfl (cR (av' := B true) (bX rfl rfl) (ay (by decide))) <| ag <| af <| ax rfl (fun _ => ?_) (fun hx => bL rfl hx);refine aA <| af <| aR <| af <| aa ?_;show AR _ _ _ _ _ [0, 1, 2] _;refine zS rfl (dz (E := lL) (m := 3) cJ (by kernel_rfl) rfl rfl rfl rfl) <| zS rfl (aH dI rfl rfl) <| za rfl <| ag <| af ?_
    rcases Or.symm (cq H) with ⟨p29, e28, H⟩ | ⟨x27, e28, H⟩
    ·subst H;refine aa ?_;show AR _ _ _ _ _ [0, 1, 2] _;refine zm rfl <| zS rfl (ah (av := .pt _ _) rfl) <| am rfl rfl (AO.callFPan (c := cg (.iface 58 (.agg #[.int .i64 p29]))) [0, 0, 0] rfl (.inr ⟨rfl, rfl, rfl⟩) tp rfl (rT F o1 x23.2 a3 t4 a5 x14.2.2 t17 p29 e28) rfl ?_);exact And.intro rfl (Exists.intro [] ⟨ba _, rfl, rfl⟩)
    refine aa ?_;show AR _ _ _ _ _ [0, 1, 2] _;refine zm rfl <| zS rfl (ah (av := .pt _ _) rfl) <| am rfl rfl (fm [0, 0, 0] rfl (.inr ⟨rfl, rfl, rfl⟩) tp rfl (tN F o1 x23.2 a3 t4 a5 x14.2.2 t17 x27.1 x27.2.1 x27.2.2 e28) rfl (fun c A' h => by cases h.1) ?_)
    rintro av A' ⟨h, t30, rfl⟩; cases h
    refine ag <| ax rfl (fun c31 => ?_) (fun c31 => ?_)
    ·replace H := aW c31 H;refine aI ?_;obtain rfl := ak H;exact And.intro rfl (Exists.intro _ (Exists.intro _ ⟨bj rfl, aB [0, 0, 0] rfl, rfl, t4, t30, rfl⟩))
    ·replace H := aX c31 H;refine aA <| aa ?_;show AR _ _ _ _ _ [0, 1] _;refine zS rfl (cR (av' := i64 4) (cX rfl rfl (by decide)) rfl) <| zm rfl <| ag <| af <| aa ?_;show AR _ _ _ _ _ [0] _;refine zS rfl (cR (av' := B true) (bX rfl rfl) (ay (by decide))) <| ag <| af <| ax rfl (fun _ => ?_) (fun hx => bL rfl hx);refine aA <| af <| aR <| af <| aa ?_;show AR _ _ _ _ _ [0, 1, 2] _;refine zS rfl (dz (E := lL) (m := 4) cJ (by kernel_rfl) rfl rfl rfl rfl) <| zS rfl (aH dI rfl rfl) <| za rfl <| ag <| af ?_
     rcases Or.symm (cq H) with ⟨p34, e33, H⟩ | ⟨x32, e33, H⟩
     ·subst H;refine aa ?_;show AR _ _ _ _ _ [0, 1, 2] _;refine zm rfl <| zS rfl (ah (av := .pt _ _) rfl) <| am rfl rfl (AO.callFPan (c := cg (.iface 58 (.agg #[.int .i64 p34]))) [0, 0, 0] rfl (.inr ⟨rfl, rfl, rfl⟩) tn rfl (tM F o1 x27.2.1 a3 t4 a5 x27.2.2 t30 p34 e33) rfl ?_);exact And.intro rfl (Exists.intro [] ⟨ba _, rfl, rfl⟩)
     refine aa ?_;show AR _ _ _ _ _ [0, 1, 2] _;refine zm rfl <| zS rfl (ah (av := .pt _ _) rfl) <| am rfl rfl (fm [0, 0, 0] rfl (.inr ⟨rfl, rfl, rfl⟩) tn rfl (uI F o1 x27.2.1 a3 t4 a5 x27.2.2 t30 x32.1 x32.2 e33) rfl (fun c A' h => by cases h.1) ?_)
     rintro av A' ⟨h, rfl⟩; cases h
     refine ag <| ax rfl (fun c35 => ?_) (fun c35 => ?_)
     ·replace H := aW c35 H;refine aI ?_;obtain rfl := ak H;exact And.intro rfl (Exists.intro _ (Exists.intro _ ⟨bj rfl, aB [0, 0, 0] rfl, rfl, t4, t30, rfl⟩))
     ·replace H := aX c35 H;refine aA <| aa ?_;show AR _ _ _ _ _ [0, 1] _;refine zS rfl (cR (av' := i64 5) (cX rfl rfl (by decide)) rfl) <| zm rfl <| ag <| af <| aa ?_;show AR _ _ _ _ _ [0] _;refine zS rfl (cR (av' := B true) (bX rfl rfl) (ay (by decide))) <| ag <| af <| ax rfl (fun _ => ?_) (fun hx => bL rfl hx);refine aA <| af <| aR <| af <| aa ?_;show AR _ _ _ _ _ [0, 1, 2] _;refine zS rfl (dz (E := lL) (m := 5) cJ (by kernel_rfl) rfl rfl rfl rfl) <| zS rfl (aH dI rfl rfl) <| za rfl <| ag <| af ?_
      rcases Or.symm (cq H) with ⟨p38, e37, H⟩ | ⟨x36, e37, H⟩
      ·subst H;refine aa ?_;show AR _ _ _ _ _ [0, 1, 2] _;refine zm rfl <| zS rfl (ah (av := .pt _ _) rfl) <| am rfl rfl (AO.callFPan (c := cg (.iface 58 (.agg #[.int .i64 p38]))) [0, 0, 0] rfl (.inr ⟨rfl, rfl, rfl⟩) tm rfl (qv F o1 x32.2 a3 t4 a5 x27.2.2 t30 p38 e37) rfl ?_);exact And.intro rfl (Exists.intro [] ⟨ba _, rfl, rfl⟩)
      refine aa ?_;show AR _ _ _ _ _ [0, 1, 2] _;refine zm rfl <| zS rfl (ah (av := .pt _ _) rfl) <| am rfl rfl (fm [0, 0, 0] rfl (.inr ⟨rfl, rfl, rfl⟩) tm rfl (qU F o1 x32.2 a3 t4 a5 x27.2.2 t30 x36.1 x36.2.1 x36.2.2.1 x36.2.2.2 e37) rfl (fun c A' h => by cases h.1) ?_)
      rintro av A' ⟨h, t39, t40, rfl⟩; cases h
      refine ag <| ax rfl (fun c41 => ?_) (fun c41 => ?_)
      ·replace H := aW c41 H;refine aI ?_;obtain rfl := ak H;exact And.intro rfl (Exists.intro _ (Exists.intro _ ⟨bj rfl, aB [0, 0, 0] rfl, rfl, t39, t40, rfl⟩))
      ·replace H := aX c41 H;refine aA <| aa ?_;show AR _ _ _ _ _ [0, 1] _;refine zS rfl (cR (av' := i64 6) (cX rfl rfl (by decide)) rfl) <| zm rfl <| ag <| af <| aa ?_;show AR _ _ _ _ _ [0] _;refine zS rfl (cR (av' := B true) (bX rfl rfl) (ay (by decide))) <| ag <| af <| ax rfl (fun _ => ?_) (fun hx => bL rfl hx);refine aA <| af <| aR <| af <| aa ?_;show AR _ _ _ _ _ [0, 1, 2] _;refine zS rfl (dz (E := lL) (m := 6) cJ (by kernel_rfl) rfl rfl rfl rfl) <| zS rfl (aH dI rfl rfl) <| za rfl <| ag <| af ?_
       rcases Or.symm (cq H) with ⟨p44, e43, H⟩ | ⟨x42, e43, H⟩
       ·subst H;refine aa ?_;show AR _ _ _ _ _ [0, 1, 2] _;refine zm rfl <| zS rfl (ah (av := .pt _ _) rfl) <| am rfl rfl (AO.callFPan (c := cg (.iface 58 (.agg #[.int .i64 p44]))) [0, 0, 0] rfl (.inr ⟨rfl, rfl, rfl⟩) tk rfl (pB F o1 x36.2.1 x36.2.2.2 t39 a5 x36.2.2.1 t40 p44 e43) rfl ?_);exact And.intro rfl (Exists.intro [] ⟨ba _, rfl, rfl⟩)
       refine aa ?_;show AR _ _ _ _ _ [0, 1, 2] _;refine zm rfl <| zS rfl (ah (av := .pt _ _) rfl) <| am rfl rfl (fm [0, 0, 0] rfl (.inr ⟨rfl, rfl, rfl⟩) tk rfl (qw F o1 x36.2.1 x36.2.2.2 t39 a5 x36.2.2.1 t40 x42.1 x42.2.1 x42.2.2.1 x42.2.2.2.1 x42.2.2.2.2 e43) rfl (fun c A' h => by cases h.1) ?_)
       rintro av A' ⟨h, t45, t46, rfl⟩; cases h
       refine ag <| ax rfl (fun c47 => ?_) (fun c47 => ?_)
       ·replace H := aW c47 H;refine aI ?_;obtain rfl := ak H;exact And.intro rfl (Exists.intro _ (Exists.intro _ ⟨bj rfl, aB [0, 0, 0] rfl, rfl, t45, t46, rfl⟩))
       ·replace H := aX c47 H;refine aA <| aa ?_;show AR _ _ _ _ _ [0, 1] _;refine zS rfl (cR (av' := i64 7) (cX rfl rfl (by decide)) rfl) <| zm rfl <| ag <| af <| aa ?_;show AR _ _ _ _ _ [0] _;refine zS rfl (cR (av' := B false) (bX rfl rfl) (ay (by decide))) <| ag <| af <| ax rfl (fun hx => bL hx rfl) (fun _ => ?_);refine cw ?_;obtain rfl := ak H;exact And.intro rfl (Exists.intro _ (Exists.intro _ ⟨bj rfl, aB [0, 0, 0] rfl, rfl, t45, t46, rfl⟩))
theorem tL (F : Nat) (o1 : Nat) (a2 : List UInt8) (a3 : List (List UInt8)) (t4 : Nat) (a5 : Int) (a6 : List (Int × (List UInt8) × (List UInt8) × List ((List UInt8) × List UInt8))) (t7 : Nat) (r8 : List UInt8) (r11 : Int) (r12 : List (Int × (List UInt8) × (List UInt8) × List ((List UInt8) × List UInt8))) (r9 : List (List UInt8)) (H : mJ F a2 a3 a5 a6 = some (Res.ok (r8, r11, r12, r9))) : ACalls Tryz.prog 21 [.pt o1 0] [.obj o1 [S a2, .sk t4 a3.length, i64 a5, slE (ab Enc.int (ab Enc.str (ab Enc.str (Enc.sl (ab Enc.str Enc.str))))) a6 (some t7)], .stk t4 (Enc.str.fl a3), .tok t7 43] (fun e A' => e = .ret (.tup []) ∧ ∃ t10 t13, A' = [.obj o1 [S r8, .sk t10 r9.length, i64 r11, slE (ab Enc.int (ab Enc.str (ab Enc.str (Enc.sl (ab Enc.str Enc.str))))) r12 (some t13)], .stk t10 (Enc.str.fl r9), .tok t13 43]) := sA F o1 a2 a3 t4 a5 a6 t7 _ H
theorem rR (F : Nat) (o1 : Nat) (a2 : List UInt8) (a3 : List (List UInt8)) (t4 : Nat) (a5 : Int) (a6 : List (Int × (List UInt8) × (List UInt8) × List ((List UInt8) × List UInt8))) (t7 : Nat) (e : Int) (H : mJ F a2 a3 a5 a6 = some (Res.pan e)) : ACalls Tryz.prog 21 [.pt o1 0] [.obj o1 [S a2, .sk t4 a3.length, i64 a5, slE (ab Enc.int (ab Enc.str (ab Enc.str (Enc.sl (ab Enc.str Enc.str))))) a6 (some t7)], .stk t4 (Enc.str.fl a3), .tok t7 43] (fun ae A' => ae = .pan ((fun e => cg (.iface 58 (.agg #[.int .i64 e]))) e) ∧ A' = []) := sA F o1 a2 a3 t4 a5 a6 t7 _ H
set_option maxRecDepth 100000 in
set_option maxHeartbeats 1000000 in
theorem uK (F : Nat) (a1 : List UInt8) (q2 : Option Nat) (r3 : List (Int × (List UInt8) × (List UInt8) × List ((List UInt8) × List UInt8))) (r4 : Int) (H : mc F a1 = some (r3, r4)) : ACalls Tryz.prog 14 [slE Enc.byte a1 q2] [] (Ret (.tup [slE (ab Enc.int (ab Enc.str (ab Enc.str (Enc.sl (ab Enc.str Enc.str))))) r3 none, i64 r4]) []) := by
 unfold mc at H
 refine mG [2, 3] Tryz.func14 rfl rfl ?_;show AW _ _ 38 _ _ _;refine af <| aa ?_;show AR _ _ _ _ _ [0, 1] _;refine zX rfl (bh (zs := [.slice none 0 0]) (by kernel_rfl)) ?_;rintro _ _ ⟨o5, rfl, rfl⟩;refine zX rfl (bh (zs := [.int .i64 0]) (by kernel_rfl)) ?_;rintro _ _ ⟨o6, rfl, rfl⟩;refine ag <| af <| af <| aa ?_;show AR _ _ _ _ _ [0, 1, 2] _;refine zS rfl (ah (av := slE _ _ _) rfl) <| zS rfl (bu aj rfl) <| zS rfl (eW rfl rfl) <| ag <| ax rfl (fun c7 => ?_) (fun c7 => ?_)
 ·replace H := aW c7 H;refine af <| aa ?_;show AR _ _ _ _ _ [0, 1] _;refine s0 rfl rfl (aq (i := 1) (c := .v _) (by kernel_rfl) rfl rfl rfl rfl (ac rfl)) <| s0 rfl rfl (aq (i := 0) (c := .v _) (by kernel_rfl) rfl rfl rfl rfl (ac rfl)) <| ag <| aI ?_;obtain ⟨rfl, rfl⟩ := dx H;exact Exists.intro _ (Exists.intro _ ⟨bD rfl ((bo (c := .v _) 1 aP rfl rfl rfl rfl).oneW (.nil _)) (bo (c := .v _) 0 bn rfl rfl rfl rfl), aB [] rfl, rfl, rfl⟩)
 ·replace H := aX c7 H;refine aA <| af <| aa ?_;show AR _ _ _ _ _ [0, 1] _;refine zS rfl (fH rfl rfl) <| am rfl rfl (AO.defer rfl ?_);show AR _ _ _ _ _ _ ⟨_, [.call (.func 20) [.pt o5 0, .pt o6 0] []], _⟩;refine ag <| af <| aa ?_;show AR _ _ _ _ _ [0, 1, 2, 3, 4] _;refine zS rfl (ah (av := slE _ _ _) rfl) <| zS rfl (kA aj cH ai rfl) <| zS rfl (cP (zs := [.string ⟨#[]⟩, .slice none 0 0, .int .i64 0, .slice none 0 0]) (ps := [(0, 1), (1, 1), (2, 1), (3, 1)]) (cs := [S a1, eE, i64 0, eE]) (by kernel_rfl) rfl rfl) <| zX rfl (py rfl (.inr ⟨_, rfl⟩)) ?_;rintro _ _ ⟨o8, rfl, rfl⟩;refine zS rfl (aJ (av := .pt _ _) rfl) <| ag ?_
  refine AW.nil_stkAt 0 1 rfl rfl fun t9 => ?_
  show AW _ _ _ _ _ ⟨_, _, [.stk t9 (Enc.str.fl ([] : List (List UInt8))), .obj o8 [S a1, .sk t9 (([] : List (List UInt8)).length), i64 0, eE], .obj o6 [i64 0], .obj o5 [eE]]⟩
  refine ji 1 3 4 43 rfl rfl fun t10 => ?_
  show AW _ _ _ _ _ ⟨_, _, [.tok t10 43, .stk t9 (Enc.str.fl ([] : List (List UInt8))), .obj o8 [S a1, .sk t9 (([] : List (List UInt8)).length), i64 0, slE (ab Enc.int (ab Enc.str (ab Enc.str (Enc.sl (ab Enc.str Enc.str))))) [] (some t10)], .obj o6 [i64 0], .obj o5 [eE]]⟩;refine bJ (X := (List UInt8) × Nat × (List (List UInt8)) × Int × (List (Int × (List UInt8) × (List UInt8) × List ((List UInt8) × List UInt8))) × Nat) (fun (y26, t27, y28, y29, y30, t31) => ⟨[(2, .pt o5 0), (3, .pt o6 0), (4, .pt o8 0)], [.call (.func 20) [.pt o5 0, .pt o6 0] []], [.obj o8 [S y26, .sk t27 y28.length, i64 y29, slE (ab Enc.int (ab Enc.str (ab Enc.str (Enc.sl (ab Enc.str Enc.str))))) y30 (some t31)], .obj o6 [i64 0], .obj o5 [eE], .stk t27 (Enc.str.fl y28), .tok t31 43]⟩) (fun (y26, t27, y28, y29, y30, t31) => iZ F y26 y28 y29 y30 = some (r3, r4)) ?_ ?_
  ·refine aR <| de (X := Nat × (List UInt8) × Nat × (List (List UInt8)) × Int × (List (Int × (List UInt8) × (List UInt8) × List ((List UInt8) × List UInt8))) × Nat) (fun (n18, y11, t12, y13, y14, y15, t16) => ⟨[(2, .pt o5 0), (3, .pt o6 0), (4, .pt o8 0)], [.call (.func 20) [.pt o5 0, .pt o6 0] []], [.obj o8 [S y11, .sk t12 y13.length, i64 y14, slE (ab Enc.int (ab Enc.str (ab Enc.str (Enc.sl (ab Enc.str Enc.str))))) y15 (some t16)], .obj o6 [i64 0], .obj o5 [eE], .stk t12 (Enc.str.fl y13), .tok t16 43]⟩) (fun (n18, y11, t12, y13, y14, y15, t16) => ja F n18 (y11, y13, y14, y15) = some (r3, r4)) (fun (n18, y11, t12, y13, y14, y15, t16) => n18) (F, a1, t9, ([] : List (List UInt8)), 0, [], t10) H (bb [2, 2, 2, 1, 0] (.cons (.refl _) (.cons (.refl _) (.cons (.refl _) (.nil _)))) rfl) ?_;rintro ⟨n18, y11, t12, y13, y14, y15, t16⟩ H;obtain ⟨n18, rfl, H⟩ := eX H;replace H : jb F (ja F n18) y11 y13 y14 y15 = some (r3, r4) := H
   unfold jb at H
   refine af <| af <| aa ?_;show AR _ _ _ _ _ [0, 1, 2, 3, 4] _;refine zS rfl (ah (av := .pt _ _) rfl) <| zS rfl (ar rfl) <| zS rfl (an (n := 0) (by kernel_rfl) rfl) <| zR rfl (ao (i := 0) ai rfl rfl rfl rfl) <| zS rfl (jp rfl rfl) <| ag <| ax rfl (fun c19 => ?_) (fun c19 => ?_)
   ·replace H := aW c19 H;refine aA <| aR ?_
    rcases Or.symm (lX H) with ⟨p22, e21, H⟩ | ⟨x20, e21, H⟩
    ·refine aa ?_;show AR _ _ _ _ _ [0, 1] _;refine zS rfl (ah (av := .pt _ _) rfl) <| am rfl rfl (bc (c := cg (.iface 58 (.agg #[.int .i64 p22]))) [0, 2, 2] rfl tu rfl (rR F o8 y11 y13 t12 y14 y15 t16 p22 e21) rfl ?_);refine Exists.intro [(2, .pt o5 0), (3, .pt o6 0)] ⟨by simp, .cons (.refl _) (.cons (.refl _) (.nil _)), ?_⟩;show ALeaves _ _ _ _ _ [.call (.func 20) [.pt o5 0, .pt o6 0] []] _ [.obj o6 [i64 0], .obj o5 [eE]];refine cx (v := .tup []) (u1 := (.panicking [{ v := (.iface 58 (.agg #[.int .i64 p22])), recovered := true }])) (A2 := [.obj o6 [i64 p22], .obj o5 [eE]]) [0, 0] (fun h => by cases h) pP rfl ?_ ?_
     ·show ADCalls _ _ [.pt o5 0, .pt o6 0] [.obj o6 [i64 0], .obj o5 [eE]] _ _;refine bH (av := .ifc 58 (.agg [i64 p22])) (l := [1]) Tryz.func20 rfl rfl rfl rfl rfl dd rfl (fun cs => ?_);refine ASR.op rfl rfl ((aJ (av := .ifc _ _) rfl).opR _) <| ASR.nil <| af <| aa ?_;show AR _ _ _ _ _ [0, 1] _;refine zS rfl (ah (av := .ifc _ _) rfl) <| zS rfl (dF (ms := []) (.inr rfl) bP rfl rfl) <| ag <| ax rfl (fun _ => ?_) (fun hx => bL rfl hx);refine af <| aa ?_;show AR _ _ _ _ _ [0, 1, 2, 3, 4, 5, 6, 7] _;refine zS rfl (ah (av := .ifc _ _) rfl) <| zS rfl (cu Tryz.underlying58 rfl rfl) <| zS rfl (ah (av := .tup _) rfl) <| zS rfl (az (av := .agg _) rfl rfl) <| zS rfl (az (av := .v _) rfl rfl) <| zX rfl (bh (zs := [.int .i64 0]) (by kernel_rfl)) ?_;rintro _ _ ⟨o23, rfl, rfl⟩;refine s0 rfl rfl (aV (i := 0) (vs := [i64 p22]) (by kernel_rfl) rfl rfl (by simp [bB, slE]) rfl (ac rfl)) <| za rfl <| ag <| af <| af <| aa ?_;show AR _ _ _ _ _ [0, 1] _;refine zm rfl <| zS rfl (bG rfl) <| ag <| ax rfl (fun hx => bL hx rfl) (fun _ => ?_);refine aA <| ce (by kernel_rfl) ?_;show AI _ _ _ _ _ 4 (Array.replicate 4 false) _;refine zk 0 rfl (an (n := 0) (by kernel_rfl) rfl) ?_;show AI _ _ _ _ _ _ #[true, false, false, false] _;refine AI.two (i := 1) (j := 2) (by kernel_rfl) rfl rfl rfl rfl ?_ ?_
      ·refine bz rfl (ao (i := 0) bn rfl rfl rfl rfl) ?_;show AI _ _ _ _ _ _ #[true, true, false, false] _;refine ca (i := 2) (by kernel_rfl) rfl rfl <| AIO.op0 (aq (i := 2) (c := .v _) (by kernel_rfl) rfl rfl rfl rfl (ac rfl)) ?_;show AI _ _ _ _ _ _ #[true, true, true, false] _;refine ca (i := 3) (by kernel_rfl) rfl rfl <| AIO.op0 (aq (i := 1) (c := .v _) (by kernel_rfl) rfl rfl rfl rfl (ac rfl)) ?_;show AI _ _ _ _ _ _ #[true, true, true, true] _;refine cK rfl ?_;exact And.intro rfl (Exists.intro _ (Exists.intro _ ⟨bj rfl, aB [1, 1] rfl, rfl, rfl, rfl⟩))
      ·refine AIO.op0 (aq (i := 2) (c := .v _) (by kernel_rfl) rfl rfl rfl rfl (ac rfl)) ?_;show AI _ _ _ _ _ _ #[true, false, true, false] _;refine ca (i := 1) (by kernel_rfl) rfl rfl <| bz rfl (ao (i := 0) bn rfl rfl rfl rfl) ?_;show AI _ _ _ _ _ _ #[true, true, true, false] _;refine ca (i := 3) (by kernel_rfl) rfl rfl <| AIO.op0 (aq (i := 1) (c := .v _) (by kernel_rfl) rfl rfl rfl rfl (ac rfl)) ?_;show AI _ _ _ _ _ _ #[true, true, true, true] _;refine cK rfl ?_;exact And.intro rfl (Exists.intro _ (Exists.intro _ ⟨bj rfl, aB [1, 1] rfl, rfl, rfl, rfl⟩))
     show ALeaves _ _ _ _ _ [] .returning [.obj o6 [i64 p22], .obj o5 [eE]];obtain ⟨rfl, rfl⟩ := dx H;exact Exists.intro _ (Exists.intro _ ⟨bD rfl ((bo (c := .v _) 1 aP rfl rfl rfl rfl).oneW (.nil _)) (bo (c := .v _) 0 bn rfl rfl rfl rfl), aB [] rfl, rfl, rfl⟩)
    refine aa ?_;show AR _ _ _ _ _ [0, 1] _;refine zS rfl (ah (av := .pt _ _) rfl) <| am rfl rfl (aQ [0, 2, 2] rfl tu rfl (tL F o8 y11 y13 t12 y14 y15 t16 x20.1 x20.2.1 x20.2.2.1 x20.2.2.2 e21) rfl (fun c A' h => by cases h.1) ?_)
    rintro av A' ⟨h, t24, t25, rfl⟩; cases h
    refine ag ?_;exact Exists.intro (n18, x20.1, t24, x20.2.2.2, x20.2.1, x20.2.2.1, t25) ⟨H, Nat.lt_succ_self _, bb [0, 2, 2, 0, 0] (.cons (.refl _) (.cons (.refl _) (.cons (.refl _) (.nil _)))) rfl⟩
   ·replace H := aX c19 H;refine cw ?_;exact Exists.intro (y11, t12, y13, y14, y15, t16) ⟨H, bb [0, 0, 0, 0, 0] (.cons (.refl _) (.cons (.refl _) (.cons (.refl _) (.nil _)))) rfl⟩
  rintro ⟨y26, t27, y28, y29, y30, t31⟩ H;replace H : iZ F y26 y28 y29 y30 = some (r3, r4) := H
  unfold iZ at H
  refine af ?_
  rcases Or.symm (lX H) with ⟨p36, e35, H⟩ | ⟨x34, e35, H⟩
  ·refine aa ?_;show AR _ _ _ _ _ [0, 1, 2, 3, 4, 5, 6, 7, 8, 9, 10, 11, 12, 13] _;refine zS rfl (ah (av := .pt _ _) rfl) <| zS rfl (ar rfl) <| zS rfl (an (n := 1) (by kernel_rfl) rfl) <| zR rfl (ao (i := 0) au rfl rfl rfl rfl) <| zS rfl (fb au rfl) <| zS rfl (bK rfl rfl) <| zm rfl <| aY (l := [13]) 32 (B ((decide ((y28.length : Int) = 0)) && (decide (0 < y29)))) (fun K => ?_) ?_
   ·rcases al (decide ((y28.length : Int) = 0)) with h33 | h33
    ·refine zU h33 rfl (ah (av := .pt _ _) rfl) <| zU h33 rfl (ar rfl) <| zU h33 rfl (an (n := 2) (by kernel_rfl) rfl) <| zT h33 rfl (cm rfl rfl (ao (i := 0) aM rfl rfl rfl rfl) ?_);refine zU h33 rfl (eW rfl rfl) <| zS rfl (aD (av := .v _) rfl h33 rfl) ?_;exact K _ 5 _ (ay (cz h33)) rfl rfl
    ·refine zF h33 rfl <| zF h33 rfl <| zF h33 rfl <| zF h33 rfl <| zF h33 rfl <| zS rfl (aE (av := .v _) rfl h33 rfl) ?_;exact K _ 5 _ (ay (cA h33)) rfl rfl
   refine am rfl rfl (bc (c := cg (.iface 58 (.agg #[.int .i64 p36]))) [] rfl bU rfl (bV F ((decide ((y28.length : Int) = 0)) && (decide (0 < y29))) p36 e35) rfl ?_);refine Exists.intro [(2, .pt o5 0), (3, .pt o6 0)] ⟨by simp, .cons (.refl _) (.cons (.refl _) (.nil _)), ?_⟩;show ALeaves _ _ _ _ _ [.call (.func 20) [.pt o5 0, .pt o6 0] []] _ [.obj o8 [S y26, .sk t27 y28.length, i64 y29, slE (ab Enc.int (ab Enc.str (ab Enc.str (Enc.sl (ab Enc.str Enc.str))))) y30 (some t31)], .obj o6 [i64 0], .obj o5 [eE], .stk t27 (Enc.str.fl y28), .tok t31 43];refine cx (v := .tup []) (u1 := (.panicking [{ v := (.iface 58 (.agg #[.int .i64 p36])), recovered := true }])) (A2 := [.obj o6 [i64 p36], .obj o5 [eE]]) [1, 1] (fun h => by cases h) pP rfl ?_ ?_
   ·show ADCalls _ _ [.pt o5 0, .pt o6 0] [.obj o6 [i64 0], .obj o5 [eE]] _ _;refine bH (av := .ifc 58 (.agg [i64 p36])) (l := [1]) Tryz.func20 rfl rfl rfl rfl rfl dd rfl (fun cs => ?_);refine ASR.op rfl rfl ((aJ (av := .ifc _ _) rfl).opR _) <| ASR.nil <| af <| aa ?_;show AR _ _ _ _ _ [0, 1] _;refine zS rfl (ah (av := .ifc _ _) rfl) <| zS rfl (dF (ms := []) (.inr rfl) bP rfl rfl) <| ag <| ax rfl (fun _ => ?_) (fun hx => bL rfl hx);refine af <| aa ?_;show AR _ _ _ _ _ [0, 1, 2, 3, 4, 5, 6, 7] _;refine zS rfl (ah (av := .ifc _ _) rfl) <| zS rfl (cu Tryz.underlying58 rfl rfl) <| zS rfl (ah (av := .tup _) rfl) <| zS rfl (az (av := .agg _) rfl rfl) <| zS rfl (az (av := .v _) rfl rfl) <| zX rfl (bh (zs := [.int .i64 0]) (by kernel_rfl)) ?_;rintro _ _ ⟨o37, rfl, rfl⟩;refine s0 rfl rfl (aV (i := 0) (vs := [i64 p36]) (by kernel_rfl) rfl rfl (by simp [bB, slE]) rfl (ac rfl)) <| za rfl <| ag <| af <| af <| aa ?_;show AR _ _ _ _ _ [0, 1] _;refine zm rfl <| zS rfl (bG rfl) <| ag <| ax rfl (fun hx => bL hx rfl) (fun _ => ?_);refine aA <| ce (by kernel_rfl) ?_;show AI _ _ _ _ _ 4 (Array.replicate 4 false) _;refine zk 0 rfl (an (n := 0) (by kernel_rfl) rfl) ?_;show AI _ _ _ _ _ _ #[true, false, false, false] _;refine AI.two (i := 1) (j := 2) (by kernel_rfl) rfl rfl rfl rfl ?_ ?_
    ·refine bz rfl (ao (i := 0) bn rfl rfl rfl rfl) ?_;show AI _ _ _ _ _ _ #[true, true, false, false] _;refine ca (i := 2) (by kernel_rfl) rfl rfl <| AIO.op0 (aq (i := 2) (c := .v _) (by kernel_rfl) rfl rfl rfl rfl (ac rfl)) ?_;show AI _ _ _ _ _ _ #[true, true, true, false] _;refine ca (i := 3) (by kernel_rfl) rfl rfl <| AIO.op0 (aq (i := 1) (c := .v _) (by kernel_rfl) rfl rfl rfl rfl (ac rfl)) ?_;show AI _ _ _ _ _ _ #[true, true, true, true] _;refine cK rfl ?_;exact And.intro rfl (Exists.intro _ (Exists.intro _ ⟨bj rfl, aB [1, 1] rfl, rfl, rfl, rfl⟩))
    ·refine AIO.op0 (aq (i := 2) (c := .v _) (by kernel_rfl) rfl rfl rfl rfl (ac rfl)) ?_;show AI _ _ _ _ _ _ #[true, false, true, false] _;refine ca (i := 1) (by kernel_rfl) rfl rfl <| bz rfl (ao (i := 0) bn rfl rfl rfl rfl) ?_;show AI _ _ _ _ _ _ #[true, true, true, false] _;refine ca (i := 3) (by kernel_rfl) rfl rfl <| AIO.op0 (aq (i := 1) (c := .v _) (by kernel_rfl) rfl rfl rfl rfl (ac rfl)) ?_;show AI _ _ _ _ _ _ #[true, true, true, true] _;refine cK rfl ?_;exact And.intro rfl (Exists.intro _ (Exists.intro _ ⟨bj rfl, aB [1, 1] rfl, rfl, rfl, rfl⟩))
   show ALeaves _ _ _ _ _ [] .returning [.obj o6 [i64 p36], .obj o5 [eE], .obj o8 [S y26, .sk t27 y28.length, i64 y29, slE (ab Enc.int (ab Enc.str (ab Enc.str (Enc.sl (ab Enc.str Enc.str))))) y30 (some t31)], .stk t27 (Enc.str.fl y28), .tok t31 43];obtain ⟨rfl, rfl⟩ := dx H;exact Exists.intro _ (Exists.intro _ ⟨bD rfl ((bo (c := .v _) 1 aP rfl rfl rfl rfl).oneW (.nil _)) (bo (c := .v _) 0 bn rfl rfl rfl rfl), aB [] rfl, rfl, rfl⟩)
  refine aa ?_;show AR _ _ _ _ _ [0, 1, 2, 3, 4, 5, 6, 7, 8, 9, 10, 11, 12, 13] _;refine zS rfl (ah (av := .pt _ _) rfl) <| zS rfl (ar rfl) <| zS rfl (an (n := 1) (by kernel_rfl) rfl) <| zR rfl (ao (i := 0) au rfl rfl rfl rfl) <| zS rfl (fb au rfl) <| zS rfl (bK rfl rfl) <| zm rfl <| aY (l := [13]) 32 (B ((decide ((y28.length : Int) = 0)) && (decide (0 < y29)))) (fun K => ?_) ?_
  ·rcases al (decide ((y28.length : Int) = 0)) with h33 | h33
   ·refine zU h33 rfl (ah (av := .pt _ _) rfl) <| zU h33 rfl (ar rfl) <| zU h33 rfl (an (n := 2) (by kernel_rfl) rfl) <| zT h33 rfl (cm rfl rfl (ao (i := 0) aM rfl rfl rfl rfl) ?_);refine zU h33 rfl (eW rfl rfl) <| zS rfl (aD (av := .v _) rfl h33 rfl) ?_;exact K _ 5 _ (ay (cz h33)) rfl rfl
   ·refine zF h33 rfl <| zF h33 rfl <| zF h33 rfl <| zF h33 rfl <| zF h33 rfl <| zS rfl (aE (av := .v _) rfl h33 rfl) ?_;exact K _ 5 _ (ay (cA h33)) rfl rfl
  refine am rfl rfl (aC rfl bU rfl (cn F ((decide ((y28.length : Int) = 0)) && (decide (0 < y29))) e35) ?_);refine ag <| af <| aa ?_;show AR _ _ _ _ _ [0, 1, 2, 3, 4, 5] _;refine zS rfl (ah (av := .pt _ _) rfl) <| zS rfl (ar rfl) <| zS rfl (an (n := 3) (by kernel_rfl) rfl) <| zR rfl (ao (i := 0) aP rfl rfl rfl rfl) <| s0 rfl rfl (aq (i := 2) (c := slE _ _ _) (by kernel_rfl) rfl rfl rfl rfl (ac rfl)) <| s0 rfl rfl (aq (i := 1) (c := .v _) (by kernel_rfl) rfl rfl rfl rfl (ac rfl)) <| ag <| aI ?_;show ALeaves _ _ _ _ _ [.call (.func 20) [.pt o5 0, .pt o6 0] []] _ [.obj o8 [S y26, .sk t27 y28.length, i64 y29, slE (ab Enc.int (ab Enc.str (ab Enc.str (Enc.sl (ab Enc.str Enc.str))))) y30 (some t31)], .obj o6 [i64 0], .obj o5 [slE (ab Enc.int (ab Enc.str (ab Enc.str (Enc.sl (ab Enc.str Enc.str))))) y30 (some t31)], .stk t27 (Enc.str.fl y28), .tok t31 43];refine cx (v := .tup []) (u1 := .returning) (A2 := [.obj o6 [i64 0], .obj o5 [slE (ab Enc.int (ab Enc.str (ab Enc.str (Enc.sl (ab Enc.str Enc.str))))) y30 (some t31)]]) [1, 1] (fun h => by cases h) pP rfl ?_ ?_
  ·show ADCalls _ _ [.pt o5 0, .pt o6 0] [.obj o6 [i64 0], .obj o5 [slE (ab Enc.int (ab Enc.str (ab Enc.str (Enc.sl (ab Enc.str Enc.str))))) y30 (some t31)]] _ _;refine bH (av := .v .nilIface) (l := [1]) Tryz.func20 rfl rfl rfl rfl rfl Recovers.ret rfl (fun cs => ?_);refine ASR.op rfl rfl ((asg rfl).opR _) <| ASR.nil <| af <| aa ?_;show AR _ _ _ _ _ [0, 1] _;refine zm rfl <| zS rfl (my (n := 0) (t := 0) (k := .i64) bP rfl rfl) <| ag <| ax rfl (fun hx => bL hx rfl) (fun _ => ?_);refine aA ?_;exact And.intro rfl (Exists.intro _ (Exists.intro _ ⟨bj rfl, aB [0, 0] rfl, rfl, rfl, rfl⟩))
  show ALeaves _ _ _ _ _ [] .returning [.obj o6 [i64 0], .obj o5 [slE (ab Enc.int (ab Enc.str (ab Enc.str (Enc.sl (ab Enc.str Enc.str))))) y30 (some t31)], .obj o8 [S y26, .sk t27 y28.length, i64 y29, slE (ab Enc.int (ab Enc.str (ab Enc.str (Enc.sl (ab Enc.str Enc.str))))) y30 (some t31)], .stk t27 (Enc.str.fl y28), .tok t31 43];obtain ⟨rfl, rfl⟩ := dx H;exact Exists.intro _ (Exists.intro _ ⟨bD rfl ((bo (c := slE _ _ _) 1 aP rfl rfl rfl rfl).oneW (.tok _ _ _)) (bo (c := .v _) 0 bn rfl rfl rfl rfl), aB [] rfl, rfl, rfl⟩)
end Go.Proofs.YtkbfjepffpddfaaGreatDoor
namespace Go.Pv
def nu (F : Nat) : Option ((List UInt8)) :=
some ([105, 116, 101, 109] : List UInt8)
def nP (F : Nat) (a1 : List (Int × (List UInt8) × (List UInt8) × List ((List UInt8) × List UInt8))) : Option ((List (Int × (List UInt8) × (List UInt8) × List ((List UInt8) × List UInt8))) × Bool) :=
ft (kV F a1) fun x5 x6 =>
some (x5, x6)
def jz (F : Nat) (a1 : List (Int × (List UInt8) × (List UInt8) × List ((List UInt8) × List UInt8))) : Option ((List UInt8) × (List UInt8) × (List UInt8) × (List UInt8) × Int) :=
bnd (da F a1 ([([103, 117, 105, 100] : List UInt8)] : List (List UInt8))) fun x9 =>
bnd (da F a1 ([([116, 105, 116, 108, 101] : List UInt8)] : List (List UInt8))) fun x11 =>
bnd (da F a1 ([([108, 105, 110, 107] : List UInt8)] : List (List UInt8))) fun x13 =>
bnd (da F a1 ([([100, 101, 115, 99, 114, 105, 112, 116, 105, 111, 110] : List UInt8)] : List (List UInt8))) fun x15 =>
some (x9, x11, x13, x15, 0)
def mg (F : Nat) : Option ((List UInt8)) :=
some ([101, 110, 116, 114, 121] : List UInt8)
def pr (F : Nat) (a1 : List (Int × (List UInt8) × (List UInt8) × List ((List UInt8) × List UInt8))) : Option ((List (Int × (List UInt8) × (List UInt8) × List ((List UInt8) × List UInt8))) × Bool) :=
some (a1, true)
def gg (x9 : List UInt8) (x11 : List UInt8) (x13 : List UInt8) (y23 : List UInt8) (y33 : Int) : Option ((List UInt8) × (List UInt8) × (List UInt8) × (List UInt8) × Int) :=
some (x9, x11, y23, x13, y33)
def eU (F : Nat) (a1 : List (Int × (List UInt8) × (List UInt8) × List ((List UInt8) × List UInt8))) (x9 : List UInt8) (x11 : List UInt8) (x13 : List UInt8) (y23 : List UInt8) : Option ((List UInt8) × (List UInt8) × (List UInt8) × (List UInt8) × Int) :=
bnd (da F a1 ([([117, 112, 100, 97, 116, 101, 100] : List UInt8)] : List (List UInt8))) fun x25 =>
ft (iH F x25) fun x27 x28 =>
bif ((decide (x28 = 0)) && (decide (0 ≤ x27))) && (decide (x27 ≤ 253402300799)) then
  gg x9 x11 x13 y23 x27
else
  gg x9 x11 x13 y23 0
def iB (F : Nat) (a1 : List (Int × (List UInt8) × (List UInt8) × List ((List UInt8) × List UInt8))) : Option ((List UInt8) × (List UInt8) × (List UInt8) × (List UInt8) × Int) :=
bnd (da F a1 ([([105, 100] : List UInt8)] : List (List UInt8))) fun x9 =>
bnd (da F a1 ([([116, 105, 116, 108, 101] : List UInt8)] : List (List UInt8))) fun x11 =>
bnd (da F a1 ([([115, 117, 109, 109, 97, 114, 121] : List UInt8), ([99, 111, 110, 116, 101, 110, 116] : List UInt8)] : List (List UInt8))) fun x13 =>
ft (kW F a1) fun x16 x17 =>
bif x17 then
  ft (kH F x16 ([104, 114, 101, 102] : List UInt8)) fun x20 x21 =>
  eU F a1 x9 x11 x13 x20
else
  eU F a1 x9 x11 x13 ([] : List UInt8)
def di (x19 : List UInt8) (y57 : List ((List UInt8) × (List UInt8) × (List UInt8) × (List UInt8) × Int)) : Option ((List UInt8) × (List ((List UInt8) × (List UInt8) × (List UInt8) × (List UInt8) × Int)) × Int) :=
some (x19, y57, 0)
def dh (F : Nat) (x10 : Option Bool) (y25 : List ((List UInt8) × (List UInt8) × (List UInt8) × (List UInt8) × Int)) (z27 : Nat) (x29 : List (Int × (List UInt8) × (List UInt8) × List ((List UInt8) × List UInt8))) : Option (((List ((List UInt8) × (List UInt8) × (List UInt8) × (List UInt8) × Int)) × Nat) × Bool) :=
grd (decide (z27 = 0)) <|
bnd (fe F x29) fun x30 =>
bnd (ikm x10 (nu F) (mg F)) fun x32 =>
bif !decide (x30 = x32) then
  some ((y25, 0), true)
else
  bif decide ((y25.length : Int) = 200) then
    some ((y25, 1), false)
  else
    bnd5 (ikm x10 (jz F x29) (iB F x29)) fun x36 x37 x38 x39 x40 =>
    grd (kj (min (x39.length : Int) 4000) x39.length) <|
    lt (to_ x39 (min (x39.length : Int) 4000)) fun x44 =>
    grd (gJ (y25.length + ([(x36, x37, x38, x44, x40)] : List ((List UInt8) × (List UInt8) × (List UInt8) × (List UInt8) × Int)).length)) <|
    lt (y25 ++ ([(x36, x37, x38, x44, x40)] : List ((List UInt8) × (List UInt8) × (List UInt8) × (List UInt8) × Int))) fun x48 =>
    some ((x48, 0), true)
def jg (F : Nat) (a1 : List (Int × (List UInt8) × (List UInt8) × List ((List UInt8) × List UInt8))) : Option ((List UInt8) × (List ((List UInt8) × (List UInt8) × (List UInt8) × (List UInt8) × Int)) × Int) :=
bnd (jQ F a1) fun x7 =>
bif !x7 then
  some (([] : List UInt8), [], 2)
else
  ft (qS F a1) fun x10 x11 =>
  bif !x11 then
    some (([] : List UInt8), [], 2)
  else
    ft (ikm x10 (nP F a1) (pr F a1)) fun x15 x16 =>
    bif !x16 then
      some (([] : List UInt8), [], 2)
    else
      bnd (da F x15 ([([116, 105, 116, 108, 101] : List UInt8)] : List (List UInt8))) fun x19 =>
      bnd (dG F x15) fun _ =>
      bnd (fc F (fun s x => dh F x10 s.1 s.2 x) ([], 0) x15) fun x51 =>
      bif decide (x51.2 = 0) then
        di x19 x51.1
      else
        bif decide (x51.2 = 1) then
          di x19 x51.1
        else
          none
def kI (F : Nat) (a1 : List UInt8) : Option ((List UInt8) × (List ((List UInt8) × (List UInt8) × (List UInt8) × (List UInt8) × Int)) × Int) :=
ft (mc F a1) fun x7 x8 =>
bif !decide (x8 = 0) then
  some (([] : List UInt8), [], x8)
else
  bnd3 (jg F x7) fun x11 x12 x13 =>
  some (x11, x12, x13)
end Go.Pv
namespace Go.Proofs.YtkbfjepffpddfaaGreatDoor
open Go.RowKit Go.Av Go.Pv
theorem en14_fdb : ∀ (args : Array Value) (w : World), (callFunc 14 args).run Tryz.prog w = .ok (.enter 14 args) w := fun _ _ => by kernel_rfl
theorem en15_fdb : ∀ (args : Array Value) (w : World), (callFunc 15 args).run Tryz.prog w = .ok (.enter 15 args) w := fun _ _ => by kernel_rfl
theorem en23_fdb : ∀ (args : Array Value) (w : World), (callFunc 23 args).run Tryz.prog w = .ok (.enter 23 args) w := fun _ _ => by kernel_rfl
theorem en24_fdb : ∀ (args : Array Value) (w : World), (callFunc 24 args).run Tryz.prog w = .ok (.enter 24 args) w := fun _ _ => by kernel_rfl
theorem jm : ∀ (args : Array Value) (w : World), (callFunc 25 args).run Tryz.prog w = .ok (.enter 25 args) w := fun _ _ => by kernel_rfl
theorem en26_fdb : ∀ (args : Array Value) (w : World), (callFunc 26 args).run Tryz.prog w = .ok (.enter 26 args) w := fun _ _ => by kernel_rfl
theorem en27_fdb : ∀ (args : Array Value) (w : World), (callFunc 27 args).run Tryz.prog w = .ok (.enter 27 args) w := fun _ _ => by kernel_rfl
theorem vN : ∀ (args : Array Value) (w : World), (callFunc 38 args).run Tryz.prog w = .ok (.enter 38 args) w := fun _ _ => by kernel_rfl
theorem en41_fdb : ∀ (args : Array Value) (w : World), (callFunc 41 args).run Tryz.prog w = .ok (.enter 41 args) w := fun _ _ => by kernel_rfl
theorem yK : ∀ (args : Array Value) (w : World), (callFunc 146 args).run Tryz.prog w = .ok (.enter 146 args) w := fun _ _ => by kernel_rfl
theorem yJ : ∀ (args : Array Value) (w : World), (callFunc 147 args).run Tryz.prog w = .ok (.enter 147 args) w := fun _ _ => by kernel_rfl
theorem yI : ∀ (args : Array Value) (w : World), (callFunc 148 args).run Tryz.prog w = .ok (.enter 148 args) w := fun _ _ => by kernel_rfl
theorem yG : ∀ (args : Array Value) (w : World), (callFunc 150 args).run Tryz.prog w = .ok (.enter 150 args) w := fun _ _ => by kernel_rfl
theorem yF : ∀ (args : Array Value) (w : World), (callFunc 151 args).run Tryz.prog w = .ok (.enter 151 args) w := fun _ _ => by kernel_rfl
theorem yE : ∀ (args : Array Value) (w : World), (callFunc 152 args).run Tryz.prog w = .ok (.enter 152 args) w := fun _ _ => by kernel_rfl
theorem yB : ∀ (args : Array Value) (w : World), (callFunc 154 args).run Tryz.prog w = .ok (.enter 154 args) w := fun _ _ => by kernel_rfl
theorem yA : ∀ (args : Array Value) (w : World), (callFunc 155 args).run Tryz.prog w = .ok (.enter 155 args) w := fun _ _ => by kernel_rfl
set_option maxRecDepth 100000 in
set_option maxHeartbeats 1000000 in
theorem vZ (F : Nat) (r1 : List UInt8) (H : nu F = some r1) : ACalls Tryz.prog 147 [.agg []] [] (Ret (S r1) []) := by
 unfold nu at H
 refine ap Tryz.func147 rfl rfl ?_;show AW _ _ 3 _ _ _;refine af <| aa ?_;show AR _ _ _ _ _ [0, 1] _;refine zR rfl (dN rfl (.inr ⟨_, rfl⟩)) <| za rfl <| ag <| af <| aa ?_;show AR _ _ _ _ _ [0] _;refine za rfl <| ag <| aI ?_;obtain rfl := ak H;exact And.intro rfl (Exists.intro _ (Exists.intro _ ⟨aG rfl (.refl _), aB [] rfl, rfl, rfl⟩))
set_option maxRecDepth 100000 in
set_option maxHeartbeats 1000000 in
theorem xt (F : Nat) (a1 : List (Int × (List UInt8) × (List UInt8) × List ((List UInt8) × List UInt8))) (q2 : Option Nat) (r3 : List (Int × (List UInt8) × (List UInt8) × List ((List UInt8) × List UInt8))) (r4 : Bool) (H : nP F a1 = some (r3, r4)) : ACalls Tryz.prog 148 [.agg [], slE (ab Enc.int (ab Enc.str (ab Enc.str (Enc.sl (ab Enc.str Enc.str))))) a1 q2] [] (Ret (.tup [slE (ab Enc.int (ab Enc.str (ab Enc.str (Enc.sl (ab Enc.str Enc.str))))) r3 none, B r4]) []) := by
 unfold nP at H
 refine ap Tryz.func148 rfl rfl ?_;show AW _ _ 10 _ _ _;refine af <| aa ?_;show AR _ _ _ _ _ [0, 1, 2] _;refine zR rfl (dN rfl (.inr ⟨_, rfl⟩)) <| za rfl <| za rfl <| ag <| af ?_;obtain ⟨x5, x6, e7, H⟩ := cF H;refine aa ?_;show AR _ _ _ _ _ [0, 1, 2, 3, 4, 5] _;refine zS rfl (ah (av := slE _ _ _) rfl) <| am rfl rfl (aC rfl vN rfl (tU F a1 q2 x5 x6 e7) ?_);refine zS rfl (az (av := slE _ _ _) rfl rfl) <| zS rfl (az (av := .v _) rfl rfl) <| zS rfl (aJ (av := slE _ _ _) rfl) <| za rfl <| ag <| aI ?_;obtain ⟨rfl, rfl⟩ := dx H;exact And.intro rfl (Exists.intro _ (Exists.intro _ ⟨bm rfl (.refl _) (.refl _), aB [] rfl, rfl, rfl⟩))
abbrev _root_.Go.Av.cV := @Tryz.underlying32
set_option maxRecDepth 100000 in
set_option maxHeartbeats 1000000 in
theorem uM (F : Nat) (a1 : List (Int × (List UInt8) × (List UInt8) × List ((List UInt8) × List UInt8))) (q2 : Option Nat) (r3 : List UInt8) (r4 : List UInt8) (r5 : List UInt8) (r6 : List UInt8) (r7 : Int) (H : jz F a1 = some (r3, r4, r5, r6, r7)) : ACalls Tryz.prog 146 [.agg [], slE (ab Enc.int (ab Enc.str (ab Enc.str (Enc.sl (ab Enc.str Enc.str))))) a1 q2] [] (Ret (.agg [S r3, S r4, S r5, S r6, i64 r7]) []) := by
 unfold jz at H
 refine ap Tryz.func146 rfl rfl ?_;show AW _ _ 18 _ _ _;refine af <| aa ?_;show AR _ _ _ _ _ [0, 1] _;refine zR rfl (dN rfl (.inr ⟨_, rfl⟩)) <| zX rfl (bh (zs := [.string ⟨#[]⟩, .string ⟨#[]⟩, .string ⟨#[]⟩, .string ⟨#[]⟩, .int .i64 0]) (by kernel_rfl)) ?_;rintro _ _ ⟨o8, rfl, rfl⟩;refine ag <| af ?_;obtain ⟨x9, e10, H⟩ := cd H;obtain ⟨x11, e12, H⟩ := cd H;obtain ⟨x13, e14, H⟩ := cd H;obtain ⟨x15, e16, H⟩ := cd H;refine aa ?_;show AR _ _ _ _ _ [0, 1, 2, 3, 4, 5, 6, 7, 8, 9, 10, 11, 12, 13] _;refine zS rfl (ah (av := slE _ _ _) rfl) <| zR rfl (cE (E := Enc.str) (bytes := 16) (xs := [.const _]) (l := ([([103, 117, 105, 100] : List UInt8)] : List (List UInt8))) au (by kernel_rfl) rfl rfl (by decide) rfl rfl) <| am rfl rfl (aC rfl jm rfl (dT F a1 q2 ([([103, 117, 105, 100] : List UInt8)] : List (List UInt8)) x9 e10) ?_);refine zS rfl (ah (av := slE _ _ _) rfl) <| zR rfl (cE (E := Enc.str) (bytes := 16) (xs := [.const _]) (l := ([([116, 105, 116, 108, 101] : List UInt8)] : List (List UInt8))) au (by kernel_rfl) rfl rfl (by decide) rfl rfl) <| am rfl rfl (aC rfl jm rfl (dT F a1 q2 ([([116, 105, 116, 108, 101] : List UInt8)] : List (List UInt8)) x11 e12) ?_)
 refine zS rfl (ah (av := slE _ _ _) rfl) <| zR rfl (cE (E := Enc.str) (bytes := 16) (xs := [.const _]) (l := ([([108, 105, 110, 107] : List UInt8)] : List (List UInt8))) au (by kernel_rfl) rfl rfl (by decide) rfl rfl) <| am rfl rfl (aC rfl jm rfl (dT F a1 q2 ([([108, 105, 110, 107] : List UInt8)] : List (List UInt8)) x13 e14) ?_);refine zS rfl (ah (av := slE _ _ _) rfl) <| zR rfl (cE (E := Enc.str) (bytes := 16) (xs := [.const _]) (l := ([([100, 101, 115, 99, 114, 105, 112, 116, 105, 111, 110] : List UInt8)] : List (List UInt8))) au (by kernel_rfl) rfl rfl (by decide) rfl rfl) <| am rfl rfl (aC rfl jm rfl (dT F a1 q2 ([([100, 101, 115, 99, 114, 105, 112, 116, 105, 111, 110] : List UInt8)] : List (List UInt8)) x15 e16) ?_);refine zS rfl (cP (zs := [.string ⟨#[]⟩, .string ⟨#[]⟩, .string ⟨#[]⟩, .string ⟨#[]⟩, .int .i64 0]) (ps := [(0, 1), (1, 1), (2, 1), (3, 1), (4, 1)]) (cs := [S x9, S x11, S x13, S x15, i64 0]) (by kernel_rfl) rfl rfl) <| s0 rfl rfl (aV (i := 0) (vs := [S x9, S x11, S x13, S x15, i64 0]) (by kernel_rfl) rfl rfl (by simp [bB, slE]) rfl (ac rfl)) <| ag <| aI ?_;obtain ⟨rfl, rfl, rfl, rfl, rfl⟩ := res5 H;exact And.intro rfl (Exists.intro _ (Exists.intro _ ⟨dl (ls rfl (CellV.agg (off := 0) (cs := [S x9, S x11, S x13, S x15, i64 0]) (n := 5) 0 cV rfl (by kernel_rfl) rfl rfl (ac rfl))), aB [] rfl, rfl, rfl⟩))
set_option maxRecDepth 100000 in
set_option maxHeartbeats 1000000 in
theorem uS (F : Nat) (r1 : List UInt8) (H : mg F = some r1) : ACalls Tryz.prog 151 [.agg []] [] (Ret (S r1) []) := by
 unfold mg at H
 refine ap Tryz.func151 rfl rfl ?_;show AW _ _ 3 _ _ _;refine af <| aa ?_;show AR _ _ _ _ _ [0, 1] _;refine zR rfl (dN rfl (.inr ⟨_, rfl⟩)) <| za rfl <| ag <| af <| aa ?_;show AR _ _ _ _ _ [0] _;refine za rfl <| ag <| aI ?_;obtain rfl := ak H;exact And.intro rfl (Exists.intro _ (Exists.intro _ ⟨aG rfl (.refl _), aB [] rfl, rfl, rfl⟩))
set_option maxRecDepth 100000 in
set_option maxHeartbeats 1000000 in
theorem wh (F : Nat) (a1 : List (Int × (List UInt8) × (List UInt8) × List ((List UInt8) × List UInt8))) (q2 : Option Nat) (r3 : List (Int × (List UInt8) × (List UInt8) × List ((List UInt8) × List UInt8))) (r4 : Bool) (H : pr F a1 = some (r3, r4)) : ACalls Tryz.prog 152 [.agg [], slE (ab Enc.int (ab Enc.str (ab Enc.str (Enc.sl (ab Enc.str Enc.str))))) a1 q2] [] (Ret (.tup [slE (ab Enc.int (ab Enc.str (ab Enc.str (Enc.sl (ab Enc.str Enc.str))))) r3 none, B r4]) []) := by
 unfold pr at H
 refine ap Tryz.func152 rfl rfl ?_;show AW _ _ 7 _ _ _;refine af <| aa ?_;show AR _ _ _ _ _ [0, 1, 2] _;refine zR rfl (dN rfl (.inr ⟨_, rfl⟩)) <| za rfl <| za rfl <| ag <| af <| aa ?_;show AR _ _ _ _ _ [0, 1, 2] _;refine zS rfl (ah (av := slE _ _ _) rfl) <| zS rfl (aJ (av := slE _ _ _) rfl) <| za rfl <| ag <| aI ?_;obtain ⟨rfl, rfl⟩ := dx H;exact And.intro rfl (Exists.intro _ (Exists.intro _ ⟨bm rfl (.tok _ _ _) (.refl _), aB [] rfl, rfl, rfl⟩))
set_option maxRecDepth 100000 in
set_option maxHeartbeats 1000000 in
theorem tZ (F : Nat) (a1 : List (Int × (List UInt8) × (List UInt8) × List ((List UInt8) × List UInt8))) (q2 : Option Nat) (r3 : List UInt8) (r4 : List UInt8) (r5 : List UInt8) (r6 : List UInt8) (r7 : Int) (H : iB F a1 = some (r3, r4, r5, r6, r7)) : ACalls Tryz.prog 150 [.agg [], slE (ab Enc.int (ab Enc.str (ab Enc.str (Enc.sl (ab Enc.str Enc.str))))) a1 q2] [] (Ret (.agg [S r3, S r4, S r5, S r6, i64 r7]) []) := by
 unfold iB at H
 refine ap Tryz.func150 rfl rfl ?_;show AW _ _ 52 _ _ _;refine af <| aa ?_;show AR _ _ _ _ _ [0, 1] _;refine zR rfl (dN rfl (.inr ⟨_, rfl⟩)) <| zX rfl (bh (zs := [.string ⟨#[]⟩, .string ⟨#[]⟩, .string ⟨#[]⟩, .string ⟨#[]⟩, .int .i64 0]) (by kernel_rfl)) ?_;rintro _ _ ⟨o8, rfl, rfl⟩;refine ag <| af ?_;obtain ⟨x9, e10, H⟩ := cd H;obtain ⟨x11, e12, H⟩ := cd H;obtain ⟨x13, e14, H⟩ := cd H;refine aa ?_;show AR _ _ _ _ _ [0, 1, 2, 3, 4, 5, 6, 7, 8, 9, 10, 11] _;refine zS rfl (ah (av := slE _ _ _) rfl) <| zR rfl (cE (E := Enc.str) (bytes := 16) (xs := [.const _]) (l := ([([105, 100] : List UInt8)] : List (List UInt8))) au (by kernel_rfl) rfl rfl (by decide) rfl rfl) <| am rfl rfl (aC rfl jm rfl (dT F a1 q2 ([([105, 100] : List UInt8)] : List (List UInt8)) x9 e10) ?_);refine zS rfl (ah (av := slE _ _ _) rfl) <| zR rfl (cE (E := Enc.str) (bytes := 16) (xs := [.const _]) (l := ([([116, 105, 116, 108, 101] : List UInt8)] : List (List UInt8))) au (by kernel_rfl) rfl rfl (by decide) rfl rfl) <| am rfl rfl (aC rfl jm rfl (dT F a1 q2 ([([116, 105, 116, 108, 101] : List UInt8)] : List (List UInt8)) x11 e12) ?_)
 refine zS rfl (ah (av := slE _ _ _) rfl) <| zR rfl (cE (E := Enc.str) (bytes := 16) (xs := [.const _, .const _]) (l := ([([115, 117, 109, 109, 97, 114, 121] : List UInt8), ([99, 111, 110, 116, 101, 110, 116] : List UInt8)] : List (List UInt8))) au (by kernel_rfl) rfl rfl (by decide) rfl rfl) <| am rfl rfl (aC rfl jm rfl (dT F a1 q2 ([([115, 117, 109, 109, 97, 114, 121] : List UInt8), ([99, 111, 110, 116, 101, 110, 116] : List UInt8)] : List (List UInt8)) x13 e14) ?_);refine zS rfl (cP (zs := [.string ⟨#[]⟩, .string ⟨#[]⟩, .string ⟨#[]⟩, .string ⟨#[]⟩, .int .i64 0]) (ps := [(0, 1), (1, 1), (2, 1), (3, 1), (4, 1)]) (cs := [S x9, S x11, S ([] : List UInt8), S x13, i64 0]) (by kernel_rfl) rfl rfl) <| zX rfl (bh (zs := [.string ⟨#[]⟩, .string ⟨#[]⟩, .string ⟨#[]⟩, .string ⟨#[]⟩, .int .i64 0]) (by kernel_rfl)) ?_;rintro _ _ ⟨o15, rfl, rfl⟩;refine s0 rfl rfl (aV (i := 0) (vs := [S x9, S x11, S ([] : List UInt8), S x13, i64 0]) (by kernel_rfl) rfl rfl (by simp [bB, slE]) rfl (ac rfl)) <| ag <| af ?_;obtain ⟨x16, x17, e18, H⟩ := cF H;refine aa ?_;show AR _ _ _ _ _ [0, 1, 2, 3, 4, 5, 6] _;refine zS rfl (ah (av := slE _ _ _) rfl) <| am rfl rfl (aC rfl vN rfl (tV F a1 q2 x16 x17 e18) ?_)
 refine zS rfl (ah (av := .tup _) rfl) <| zS rfl (az (av := slE _ _ _) rfl rfl) <| zS rfl (az (av := .v _) rfl rfl) <| zS rfl (aJ (av := slE _ _ _) rfl) <| za rfl <| ag <| bJ (X := (List UInt8)) (fun y23 => ⟨[(1, slE (ab Enc.int (ab Enc.str (ab Enc.str (Enc.sl (ab Enc.str Enc.str))))) a1 q2), (4, .pt o8 0), (5, .pt o15 0)], [], [.obj o15 [S x9, S x11, S y23, S x13, i64 0], .obj o8 [S ([] : List UInt8), S ([] : List UInt8), S ([] : List UInt8), S ([] : List UInt8), i64 0]]⟩) (fun y23 => eU F a1 x9 x11 x13 y23 = some (r3, r4, r5, r6, r7)) ?_ ?_
 ·refine af <| aa ?_;show AR _ _ _ _ _ [0] _;refine zm rfl <| ag <| ax rfl (fun c19 => ?_) (fun c19 => ?_)
  ·replace H := aW c19 H;obtain ⟨x20, x21, e22, H⟩ := cF H;refine aa ?_;show AR _ _ _ _ _ [0, 1, 2, 3, 4, 5, 6] _;refine zS rfl (ah (av := slE _ _ _) rfl) <| am rfl rfl (aC rfl yB rfl (pY F x16 none ([104, 114, 101, 102] : List UInt8) x20 x21 e22) ?_);refine zS rfl (ah (av := .tup _) rfl) <| zS rfl (az (av := .v _) rfl rfl) <| zS rfl (az (av := .v _) rfl rfl) <| zS rfl (an (n := 2) (by kernel_rfl) rfl) <| s0 rfl rfl (aq (i := 0) (c := .v _) (by kernel_rfl) rfl rfl rfl rfl (ac rfl)) <| ag ?_;exact Exists.intro x20 ⟨H, bb [0, 0] (.cons (.refl _) (.cons (.refl _) (.cons (.refl _) (.nil _)))) rfl⟩
  ·replace H := aX c19 H;refine aA ?_;exact Exists.intro ([] : List UInt8) ⟨H, bb [0, 0] (.cons (.refl _) (.cons (.refl _) (.cons (.refl _) (.nil _)))) rfl⟩
 rintro y23 H;replace H : eU F a1 x9 x11 x13 y23 = some (r3, r4, r5, r6, r7) := H
 unfold eU at H
 refine bJ (X := Int) (fun y33 => ⟨[(4, .pt o8 0), (5, .pt o15 0)], [], [.obj o15 [S x9, S x11, S y23, S x13, i64 y33], .obj o8 [S ([] : List UInt8), S ([] : List UInt8), S ([] : List UInt8), S ([] : List UInt8), i64 0]]⟩) (fun y33 => gg x9 x11 x13 y23 y33 = some (r3, r4, r5, r6, r7)) ?_ ?_
 ·refine af ?_;obtain ⟨x25, e26, H⟩ := cd H;obtain ⟨x27, x28, e29, H⟩ := cF H;refine aa ?_;show AR _ _ _ _ _ [0, 1, 2, 3, 4, 5, 6, 7, 8] _;refine zS rfl (ah (av := slE _ _ _) rfl) <| zR rfl (cE (E := Enc.str) (bytes := 16) (xs := [.const _]) (l := ([([117, 112, 100, 97, 116, 101, 100] : List UInt8)] : List (List UInt8))) au (by kernel_rfl) rfl rfl (by decide) rfl rfl) <| am rfl rfl (aC rfl jm rfl (dT F a1 q2 ([([117, 112, 100, 97, 116, 101, 100] : List UInt8)] : List (List UInt8)) x25 e26) ?_);refine am rfl rfl (aC rfl yA rfl (rV F x25 x27 x28 e29) ?_);refine zS rfl (ah (av := .tup _) rfl) <| zS rfl (az (av := .v _) rfl rfl) <| zS rfl (az (av := .v _) rfl rfl) <| za rfl <| za rfl <| ag <| af <| aa ?_;show AR _ _ _ _ _ [0, 1, 2, 3, 4, 5, 6, 7, 8, 9] _;refine zm rfl <| zS rfl (bK rfl rfl) <| zm rfl <| aY (l := [6, 7, 8, 9]) 44 (B ((decide (x28 = 0)) && (decide (0 ≤ x27)))) (fun K => ?_) ?_
  ·rcases al (decide (x28 = 0)) with h30 | h30
   ·refine zM h30 rfl <| zU h30 rfl (fv rfl rfl) <| zS rfl (aD (av := .v _) rfl h30 rfl) ?_;exact K _ 2 _ (ay (cz h30)) rfl rfl
   ·refine zF h30 rfl <| zF h30 rfl <| zS rfl (aE (av := .v _) rfl h30 rfl) ?_;exact K _ 2 _ (ay (cA h30)) rfl rfl
  refine zm rfl <| aY (l := []) 48 (B (((decide (x28 = 0)) && (decide (0 ≤ x27))) && (decide (x27 ≤ 253402300799)))) (fun K => ?_) ?_
  ·rcases al ((decide (x28 = 0)) && (decide (0 ≤ x27))) with h31 | h31
   ·refine zM h31 rfl <| zU h31 rfl (gh rfl rfl) <| zS rfl (aD (av := .v _) rfl h31 rfl) ?_;exact K _ 2 _ (ay (cz h31)) rfl rfl
   ·refine zF h31 rfl <| zF h31 rfl <| zS rfl (aE (av := .v _) rfl h31 rfl) ?_;exact K _ 2 _ (ay (cA h31)) rfl rfl
  refine ag <| ax rfl (fun c32 => ?_) (fun c32 => ?_)
  ·replace H := aW c32 H;refine aa ?_;show AR _ _ _ _ _ [0, 1, 2] _;refine zm rfl <| zS rfl (an (n := 4) (by kernel_rfl) rfl) <| s0 rfl rfl (aq (i := 0) (c := .v _) (by kernel_rfl) rfl rfl rfl rfl (ac rfl)) <| ag ?_;exact Exists.intro x27 ⟨H, bb [0, 0] (.cons (.refl _) (.cons (.refl _) (.nil _))) rfl⟩
  ·replace H := aX c32 H;refine aA ?_;exact Exists.intro 0 ⟨H, bb [0, 0] (.cons (.refl _) (.cons (.refl _) (.nil _))) rfl⟩
 rintro y33 H;replace H : gg x9 x11 x13 y23 y33 = some (r3, r4, r5, r6, r7) := H
 unfold gg at H
 refine af <| aa ?_;show AR _ _ _ _ _ [0, 1] _;refine zR rfl (dW (i := 0) (n := 5) cV rfl (by kernel_rfl) rfl rfl (ac rfl)) <| s0 rfl rfl (aV (i := 1) (vs := [S x9, S x11, S y23, S x13, i64 y33]) (by kernel_rfl) rfl rfl (by simp [bB, slE]) rfl (ac rfl)) <| ag <| aI ?_;obtain ⟨rfl, rfl, rfl, rfl, rfl⟩ := res5 H;exact And.intro rfl (Exists.intro _ (Exists.intro _ ⟨dl (ls rfl (CellV.agg (off := 0) (cs := [S x9, S x11, S y23, S x13, i64 y33]) (n := 5) 1 cV rfl (by kernel_rfl) rfl rfl (ac rfl))), aB [] rfl, rfl, rfl⟩))
abbrev _root_.Go.Av.be := @Tryz.underlying24
abbrev _root_.Go.Av.cW := @Tryz.underlying26
set_option maxRecDepth 100000 in
set_option maxHeartbeats 1000000 in
theorem qX (F : Nat) (a1 : List (Int × (List UInt8) × (List UInt8) × List ((List UInt8) × List UInt8))) (q2 : Option Nat) (r3 : List UInt8) (r4 : List ((List UInt8) × (List UInt8) × (List UInt8) × (List UInt8) × Int)) (r5 : Int) (H : jg F a1 = some (r3, r4, r5)) : ACalls Tryz.prog 15 [slE (ab Enc.int (ab Enc.str (ab Enc.str (Enc.sl (ab Enc.str Enc.str))))) a1 q2] [] (Ret (.tup [.agg [S r3, slE (ab Enc.str (ab Enc.str (ab Enc.str (ab Enc.str Enc.int)))) r4 none], i64 r5]) []) := by
 unfold jg at H
 refine ib Tryz.func15 rfl rfl ?_;show AW _ _ 65 _ _ _;refine af <| aa ?_;show AR _ _ _ _ _ [0, 1] _;refine zX rfl (bh (zs := [.string ⟨#[]⟩, .slice none 0 0]) (by kernel_rfl)) ?_;rintro _ _ ⟨o6, rfl, rfl⟩;refine za rfl <| ag <| af <| af ?_;obtain ⟨x7, e8, H⟩ := cd H;refine aa ?_;show AR _ _ _ _ _ [0, 1, 2] _;refine zS rfl (ah (av := slE _ _ _) rfl) <| am rfl rfl (aC rfl en23_fdb rfl (sb F a1 q2 x7 e8) ?_);refine zS rfl (bG rfl) <| ag <| ax rfl (fun c9 => ?_) (fun c9 => ?_)
 ·replace H := aW c9 H;refine af <| aa ?_;show AR _ _ _ _ _ [0, 1, 2] _;refine zS rfl (cP (zs := [.string ⟨#[]⟩, .slice none 0 0]) (ps := [(0, 1), (1, 1)]) (cs := [S ([] : List UInt8), eE]) (by kernel_rfl) rfl rfl) <| s0 rfl rfl (aV (i := 0) (vs := [S ([] : List UInt8), eE]) (by kernel_rfl) rfl rfl (by simp [bB, slE]) rfl (ac rfl)) <| za rfl <| ag <| aI ?_;obtain ⟨rfl, rfl, rfl⟩ := res3 H;exact Exists.intro _ (And.intro (.nil _) (Exists.intro _ (Exists.intro _ ⟨dl (bD rfl (CellV.aggW (cs := [S ([] : List UInt8), eE]) (CellV.agg (off := 0) (cs := [S ([] : List UInt8), eE]) (n := 2) 0 cW rfl (by kernel_rfl) rfl rfl (ac rfl)) (.cons (.refl _) (.cons (.nil _) (.nil)))) ((show PlaceV _ _ _ (.tmp _) _ from (.refl _)))), aB [] rfl, rfl, rfl⟩)))
 ·replace H := aX c9 H;refine aA <| af ?_;obtain ⟨x10, x11, e12, H⟩ := cF H;refine aa ?_;show AR _ _ _ _ _ [0, 1, 2, 3, 4, 5, 6, 7] _;refine zS rfl (ah (av := slE _ _ _) rfl) <| am rfl rfl (aC rfl en24_fdb rfl (xv F a1 q2 x10 x11 e12) ?_);refine zS rfl (ah (av := .tup _) rfl) <| zS rfl (az (av := ikA _ _ _) rfl rfl) <| zS rfl (az (av := .v _) rfl rfl) <| zX rfl (bh (zs := [.nilIface]) (by kernel_rfl)) ?_;rintro _ _ ⟨o13, rfl, rfl⟩;refine s0 rfl rfl (aq (i := 0) (c := ikA _ _ _) (by kernel_rfl) rfl rfl (ikA_cell _ _ _) rfl (ac rfl)) <| fI 4 0 rfl rfl ?_;show AR _ _ _ _ _ _ ⟨_, _, [.obj o6 [S ([] : List UInt8), eE]]⟩;refine za rfl <| ag <| af <| af <| aa ?_;show AR _ _ _ _ _ [0, 1] _;refine zm rfl <| zS rfl (bG rfl) <| ag <| ax rfl (fun c14 => ?_) (fun c14 => ?_)
  ·replace H := aW c14 H;refine af <| aa ?_;show AR _ _ _ _ _ [0, 1, 2] _;refine zS rfl (cP (zs := [.string ⟨#[]⟩, .slice none 0 0]) (ps := [(0, 1), (1, 1)]) (cs := [S ([] : List UInt8), eE]) (by kernel_rfl) rfl rfl) <| s0 rfl rfl (aV (i := 0) (vs := [S ([] : List UInt8), eE]) (by kernel_rfl) rfl rfl (by simp [bB, slE]) rfl (ac rfl)) <| za rfl <| ag <| aI ?_;obtain ⟨rfl, rfl, rfl⟩ := res3 H;exact Exists.intro _ (And.intro (.nil _) (Exists.intro _ (Exists.intro _ ⟨dl (bD rfl (CellV.aggW (cs := [S ([] : List UInt8), eE]) (CellV.agg (off := 0) (cs := [S ([] : List UInt8), eE]) (n := 2) 0 cW rfl (by kernel_rfl) rfl rfl (ac rfl)) (.cons (.refl _) (.cons (.nil _) (.nil)))) ((show PlaceV _ _ _ (.tmp _) _ from (.refl _)))), aB [] rfl, rfl, rfl⟩)))
  ·replace H := aX c14 H;refine aA <| af ?_;obtain ⟨x15, x16, e17, H⟩ := cF H;refine aa ?_;show AR _ _ _ _ _ [0, 1, 2, 3, 4, 5, 6, 7] _;refine zS rfl (aH Tryz.underlying67 rfl rfl) <| zS rfl (ah (av := slE _ _ _) rfl) <| am rfl rfl (AO.invp (t1 := 83) (t2 := 84) (c := x10) rfl rfl (fun v w => by kernel_rfl) (fun v w => by kernel_rfl) yI yE rfl (K2.of e17 (fun e => xt F a1 q2 x15 x16 e) (fun e => wh F a1 q2 x15 x16 e)) ?_);refine zS rfl (ah (av := .tup _) rfl) <| zS rfl (az (av := slE _ _ _) rfl rfl) <| zS rfl (az (av := .v _) rfl rfl) <| zS rfl (aJ (av := slE _ _ _) rfl) <| za rfl <| ag <| af <| af <| aa ?_;show AR _ _ _ _ _ [0, 1] _;refine zm rfl <| zS rfl (bG rfl) <| ag <| ax rfl (fun c18 => ?_) (fun c18 => ?_)
   ·replace H := aW c18 H;refine af <| aa ?_;show AR _ _ _ _ _ [0, 1, 2] _;refine zS rfl (cP (zs := [.string ⟨#[]⟩, .slice none 0 0]) (ps := [(0, 1), (1, 1)]) (cs := [S ([] : List UInt8), eE]) (by kernel_rfl) rfl rfl) <| s0 rfl rfl (aV (i := 0) (vs := [S ([] : List UInt8), eE]) (by kernel_rfl) rfl rfl (by simp [bB, slE]) rfl (ac rfl)) <| za rfl <| ag <| aI ?_;obtain ⟨rfl, rfl, rfl⟩ := res3 H;exact Exists.intro _ (And.intro (.nil _) (Exists.intro _ (Exists.intro _ ⟨dl (bD rfl (CellV.aggW (cs := [S ([] : List UInt8), eE]) (CellV.agg (off := 0) (cs := [S ([] : List UInt8), eE]) (n := 2) 0 cW rfl (by kernel_rfl) rfl rfl (ac rfl)) (.cons (.refl _) (.cons (.nil _) (.nil)))) ((show PlaceV _ _ _ (.tmp _) _ from (.refl _)))), aB [] rfl, rfl, rfl⟩)))
   ·replace H := aX c18 H;refine aA <| af ?_;obtain ⟨x19, e20, H⟩ := cd H;refine aa ?_;show AR _ _ _ _ _ [0, 1, 2, 3, 4, 5] _;refine zS rfl (ah (av := slE _ _ _) rfl) <| zR rfl (cE (E := Enc.str) (bytes := 16) (xs := [.const _]) (l := ([([116, 105, 116, 108, 101] : List UInt8)] : List (List UInt8))) au (by kernel_rfl) rfl rfl (by decide) rfl rfl) <| am rfl rfl (aC rfl jm rfl (dT F x15 none ([([116, 105, 116, 108, 101] : List UInt8)] : List (List UInt8)) x19 e20) ?_);refine zS rfl (cP (zs := [.string ⟨#[]⟩, .slice none 0 0]) (ps := [(0, 1), (1, 1)]) (cs := [S x19, eE]) (by kernel_rfl) rfl rfl) <| zX rfl (bh (zs := [.string ⟨#[]⟩, .slice none 0 0]) (by kernel_rfl)) ?_;rintro _ _ ⟨o21, rfl, rfl⟩;refine s0 rfl rfl (aV (i := 0) (vs := [S x19, eE]) (by kernel_rfl) rfl rfl (by simp [bB, slE]) rfl (ac rfl)) <| ag ?_
    refine ji 0 1 5 32 rfl rfl fun t22 => ?_
    show AW _ _ _ _ _ ⟨_, _, [.tok t22 32, .obj o21 [S x19, slE (ab Enc.str (ab Enc.str (ab Enc.str (ab Enc.str Enc.int)))) [] (some t22)], .obj o6 [S ([] : List UInt8), eE]]⟩;refine bJ (X := Nat × (List ((List UInt8) × (List UInt8) × (List UInt8) × (List UInt8) × Int)) × Nat) (fun (t56, y57, t58) => ⟨[(2, .pt o6 0), (7, .pt o21 0)], [.mark t56], [.obj o21 [S x19, slE (ab Enc.str (ab Enc.str (ab Enc.str (ab Enc.str Enc.int)))) y57 (some t58)], .obj o6 [S ([] : List UInt8), eE], .tok t58 32, .db t56]⟩) (fun (t56, y57, t58) => di x19 y57 = some (r3, r4, r5)) ?_ ?_
    ·refine af ?_;obtain ⟨_, e23, H⟩ := cd H;refine aa ?_;show AR _ _ _ _ _ [0, 1] _;refine zS rfl (ah (av := slE _ _ _) rfl) <| am rfl rfl (aQ [] rfl en26_fdb rfl (jF F x15 e23) rfl (fun c A' h => by obtain ⟨_, h, _⟩ := h; cases h) ?_)
     rintro av A' ⟨o24, h, rfl⟩; cases h
     refine ag <| aR ?_;obtain ⟨x51, e52, H⟩ := cd H;refine AW.rangeK (α := List (Int × (List UInt8) × (List UInt8) × List ((List UInt8) × List UInt8))) (σ := (List ((List UInt8) × (List UInt8) × (List UInt8) × (List UInt8) × Int)) × Nat) (τ := Nat) (fun x => [slE (ab Enc.int (ab Enc.str (ab Enc.str (Enc.sl (ab Enc.str Enc.str))))) x none]) (fun s t => [.obj o21 [S x19, slE (ab Enc.str (ab Enc.str (ab Enc.str (ab Enc.str Enc.int)))) s.1 (some t)], .obj o6 [S ([] : List UInt8), eE], .tok t 32]) (fun s => jat [.exit 0] s.2) (fun s x => dh F x10 s.1 s.2 x) ([], 0) t22 x51 [0] [1, 1, 0] rfl en41_fdb (fun _ => rfl) (by decide) rfl rfl rfl (fun o T' hY => ku F T' _ o hY _ _ o24 x15 x51 e52) ?_ ?_
     ·rintro l ⟨y25, z27⟩ t26 x29 rv H;replace H : dh F x10 y25 z27 x29 = some rv := H
      unfold dh at H
      obtain ⟨g50, H⟩ := aN H;obtain rfl := of_decide_eq_true g50;refine ⟨rfl, ?_⟩;show AW _ _ _ _ _ ⟨(37, slE (ab Enc.int (ab Enc.str (ab Enc.str (Enc.sl (ab Enc.str Enc.str))))) x29 none) :: _, [], _⟩;refine aa ?_;show AR _ _ _ _ _ [0] _;refine zS rfl (aJ (av := slE _ _ _) rfl) <| ag <| aR <| af <| af ?_;obtain ⟨x30, e31, H⟩ := cd H;obtain ⟨x32, e33, H⟩ := cd H;refine qD (by kernel_rfl) (by kernel_rfl) ?_;show AI _ _ _ _ _ 5 (Array.replicate 5 false) _;refine zk 0 rfl (ah (av := slE _ _ _) rfl) ?_;show AI _ _ _ _ _ _ #[true, false, false, false, false] _;refine zk 2 rfl (aH Tryz.underlying67 rfl rfl) ?_;show AI _ _ _ _ _ _ #[true, false, true, false, false] _;refine ca (i := 1) (by kernel_rfl) rfl rfl <| AIO.callp rfl en27_fdb rfl (gC F x29 none x30 e31) ?_;show AI _ _ _ _ _ _ #[true, true, true, false, false] _;refine ca (i := 3) (by kernel_rfl) rfl rfl <| AIO.invp (t1 := 83) (t2 := 84) (c := x10) rfl rfl (fun v w => by kernel_rfl) (fun v w => by kernel_rfl) yJ yF rfl (K2.of e33 (fun e => vZ F x32 e) (fun e => uS F x32 e)) ?_;show AI _ _ _ _ _ _ #[true, true, true, true, false] _;refine zk 4 rfl (jp rfl rfl) ?_;show AI _ _ _ _ _ _ #[true, true, true, true, true] _;refine cK rfl <| ax rfl (fun c34 => ?_) (fun c34 => ?_)
      ·replace H := aW c34 H;refine cw ?_;obtain rfl := ak H;exact ⟨rfl, rfl, t26, aB [0, 0, 0] rfl⟩
      ·replace H := aX c34 H;refine aA <| af <| af <| aa ?_;show AR _ _ _ _ _ [0, 1, 2, 3] _;refine zS rfl (an (n := 1) (by kernel_rfl) rfl) <| zR rfl (ao (i := 0) be rfl rfl rfl rfl) <| zS rfl (bu be rfl) <| zS rfl (bK rfl rfl) <| ag <| ax rfl (fun c35 => ?_) (fun c35 => ?_)
       ·replace H := aW c35 H;refine cw ?_;obtain rfl := ak H;exact ⟨rfl, rfl, t26, aB [0, 0, 0] rfl⟩
       ·replace H := aX c35 H;refine aA <| af ?_;obtain ⟨x36, x37, x38, x39, x40, e41, H⟩ := bnd5_s H;refine aa ?_;show AR _ _ _ _ _ [0, 1, 2, 3, 4] _;refine zS rfl (aH Tryz.underlying67 rfl rfl) <| zS rfl (ah (av := slE _ _ _) rfl) <| am rfl rfl (AO.invp (t1 := 83) (t2 := 84) (c := x10) rfl rfl (fun v w => by kernel_rfl) (fun v w => by kernel_rfl) yK yG rfl (K2.of e41 (fun e => uM F x29 none x36 x37 x38 x39 x40 e) (fun e => tZ F x29 none x36 x37 x38 x39 x40 e)) ?_);refine zX rfl (bh (zs := [.string ⟨#[]⟩, .string ⟨#[]⟩, .string ⟨#[]⟩, .string ⟨#[]⟩, .int .i64 0]) (by kernel_rfl)) ?_;rintro _ _ ⟨o42, rfl, rfl⟩;refine s0 rfl rfl (aV (i := 0) (vs := [S x36, S x37, S x38, S x39, i64 x40]) (by kernel_rfl) rfl rfl (by simp [bB, slE]) rfl (ac rfl)) <| ag <| af ?_;obtain ⟨g43, H⟩ := aN H;obtain ⟨x44, e45, H⟩ := bR H;refine aa ?_;show AR _ _ _ _ _ [0, 1, 2, 3, 4, 5, 6, 7, 8] _;refine zS rfl (an (n := 3) (by kernel_rfl) rfl) <| zR rfl (ao (i := 0) ai rfl rfl rfl rfl) <| zS rfl (an (n := 3) (by kernel_rfl) rfl) <| zR rfl (ao (i := 0) ai rfl rfl rfl rfl) <| zS rfl (bw ai rfl) <| zS rfl (opS_min rfl rfl) <| zS rfl (la ai rfl rfl g43 e45) <| zS rfl (an (n := 3) (by kernel_rfl) rfl) <| s0 rfl rfl (aq (i := 0) (c := .v _) (by kernel_rfl) rfl rfl rfl rfl (ac rfl)) <| ag ?_;obtain ⟨g47, H⟩ := aN H
        obtain ⟨x48, e49, H⟩ := bR H;refine aa ?_;show AR _ _ _ _ _ [0, 1, 2, 3, 4, 5, 6] _;refine zS rfl (an (n := 1) (by kernel_rfl) rfl) <| zR rfl (ao (i := 1) be rfl rfl rfl rfl) <| zR rfl (dW (i := 0) (n := 5) cV rfl (by kernel_rfl) rfl rfl (ac rfl)) <| zR rfl (dX (E := (ab Enc.str (ab Enc.str (ab Enc.str (ab Enc.str Enc.int))))) (bytes := 72) (zs := [.string ⟨#[]⟩, .string ⟨#[]⟩, .string ⟨#[]⟩, .string ⟨#[]⟩, .int .i64 0]) (l := ([(x36, x37, x38, x44, x40)] : List ((List UInt8) × (List UInt8) × (List UInt8) × (List UInt8) × Int))) be (by kernel_rfl) (by kernel_rfl) rfl rfl rfl rfl rfl) <| zX rfl (ip (E := (ab Enc.str (ab Enc.str (ab Enc.str (ab Enc.str Enc.int))))) (bytes := 72) 3 be be rfl (by kernel_rfl) rfl rfl rfl rfl g47 e49) ?_;rintro _ _ ⟨t46, rfl, rfl⟩;refine zS rfl (an (n := 1) (by kernel_rfl) rfl) <| s0 rfl rfl (aq (i := 1) (c := slE _ _ _) (by kernel_rfl) rfl rfl rfl rfl (ac rfl)) <| ag ?_;obtain rfl := ak H;exact ⟨rfl, rfl, t46, aB [1, 1, 1] rfl⟩
     rintro o54 t53
     generalize hzz55 : x51.2 = z55 at H ⊢
     rcases bifz H with ⟨rfl, H⟩ | ⟨hz0, H⟩
     ·exact Exists.intro (o54, x51.1, t53) ⟨H, bb [2, 2, 2, 0] (.cons (.refl _) (.cons (.refl _) (.nil _))) rfl⟩
     rcases bifz H with ⟨rfl, H⟩ | ⟨hz1, H⟩
     ·refine cw ?_;exact Exists.intro (o54, x51.1, t53) ⟨H, bb [2, 2, 2, 0] (.cons (.refl _) (.cons (.refl _) (.nil _))) rfl⟩
     exact uE H
    rintro ⟨t56, y57, t58⟩ H;replace H : di x19 y57 = some (r3, r4, r5) := H
    unfold di at H
    refine af <| aa ?_;show AR _ _ _ _ _ [0, 1, 2] _;refine zR rfl (dW (i := 0) (n := 2) cW rfl (by kernel_rfl) rfl rfl (ac rfl)) <| s0 rfl rfl (aV (i := 1) (vs := [S x19, slE (ab Enc.str (ab Enc.str (ab Enc.str (ab Enc.str Enc.int)))) y57 (some t58)]) (by kernel_rfl) rfl rfl (by simp [bB, slE]) rfl (ac rfl)) <| za rfl <| ag <| aI ?_;obtain ⟨rfl, rfl, rfl⟩ := res3 H;exact Exists.intro _ (And.intro (Unmark.at 3 rfl (.nil _)) (Exists.intro _ (Exists.intro _ ⟨dl (bD rfl (CellV.aggW (cs := [S x19, slE (ab Enc.str (ab Enc.str (ab Enc.str (ab Enc.str Enc.int)))) y57 (some t58)]) (CellV.agg (off := 0) (cs := [S x19, slE (ab Enc.str (ab Enc.str (ab Enc.str (ab Enc.str Enc.int)))) y57 (some t58)]) (n := 2) 1 cW rfl (by kernel_rfl) rfl rfl (ac rfl)) (.cons (.refl _) (.cons (.tok _ _ _) (.nil)))) ((show PlaceV _ _ _ (.tmp _) _ from (.refl _)))), aB [] rfl, rfl, rfl⟩)))
set_option maxRecDepth 100000 in
set_option maxHeartbeats 1000000 in
theorem pZ (F : Nat) (a1 : List UInt8) (q2 : Option Nat) (r3 : List UInt8) (r4 : List ((List UInt8) × (List UInt8) × (List UInt8) × (List UInt8) × Int)) (r5 : Int) (H : kI F a1 = some (r3, r4, r5)) : ACalls Tryz.prog 9 [slE Enc.byte a1 q2] [] (Ret (.tup [.agg [S r3, slE (ab Enc.str (ab Enc.str (ab Enc.str (ab Enc.str Enc.int)))) r4 none], i64 r5]) []) := by
 unfold kI at H
 refine ap Tryz.func9 rfl rfl ?_;show AW _ _ 19 _ _ _;refine af <| aa ?_;show AR _ _ _ _ _ [0, 1] _;refine zX rfl (bh (zs := [.string ⟨#[]⟩, .slice none 0 0]) (by kernel_rfl)) ?_;rintro _ _ ⟨o6, rfl, rfl⟩;refine za rfl <| ag <| af ?_;obtain ⟨x7, x8, e9, H⟩ := cF H;refine aa ?_;show AR _ _ _ _ _ [0, 1, 2, 3, 4, 5, 6] _;refine zS rfl (ah (av := slE _ _ _) rfl) <| am rfl rfl (aC rfl en14_fdb rfl (uK F a1 q2 x7 x8 e9) ?_);refine zS rfl (ah (av := .tup _) rfl) <| zS rfl (az (av := slE _ _ _) rfl rfl) <| zS rfl (az (av := .v _) rfl rfl) <| zS rfl (aJ (av := slE _ _ _) rfl) <| za rfl <| ag <| af <| af <| aa ?_;show AR _ _ _ _ _ [0, 1] _;refine zm rfl <| zS rfl (kD rfl rfl) <| ag <| ax rfl (fun c10 => ?_) (fun c10 => ?_)
 ·replace H := aW c10 H;refine af <| aa ?_;show AR _ _ _ _ _ [0, 1, 2, 3] _;refine zS rfl (cP (zs := [.string ⟨#[]⟩, .slice none 0 0]) (ps := [(0, 1), (1, 1)]) (cs := [S ([] : List UInt8), eE]) (by kernel_rfl) rfl rfl) <| zm rfl <| s0 rfl rfl (aV (i := 0) (vs := [S ([] : List UInt8), eE]) (by kernel_rfl) rfl rfl (by simp [bB, slE]) rfl (ac rfl)) <| za rfl <| ag <| aI ?_;obtain ⟨rfl, rfl, rfl⟩ := res3 H;exact And.intro rfl (Exists.intro _ (Exists.intro _ ⟨dl (bD rfl (CellV.aggW (cs := [S ([] : List UInt8), eE]) (CellV.agg (off := 0) (cs := [S ([] : List UInt8), eE]) (n := 2) 0 cW rfl (by kernel_rfl) rfl rfl (ac rfl)) (.cons (.refl _) (.cons (.nil _) (.nil)))) ((show PlaceV _ _ _ (.tmp _) _ from (.refl _)))), aB [] rfl, rfl, rfl⟩))
 ·replace H := aX c10 H;refine aA <| af ?_;obtain ⟨x11, x12, x13, e14, H⟩ := wT H;refine aa ?_;show AR _ _ _ _ _ [0, 1, 2, 3, 4, 5] _;refine zS rfl (ah (av := slE _ _ _) rfl) <| am rfl rfl (aC rfl en15_fdb rfl (qX F x7 none x11 x12 x13 e14) ?_);refine zS rfl (az (av := .agg _) rfl rfl) <| zS rfl (az (av := .v _) rfl rfl) <| s0 rfl rfl (aV (i := 0) (vs := [S x11, slE (ab Enc.str (ab Enc.str (ab Enc.str (ab Enc.str Enc.int)))) x12 none]) (by kernel_rfl) rfl rfl (by simp [bB, slE]) rfl (ac rfl)) <| za rfl <| ag <| aI ?_;obtain ⟨rfl, rfl, rfl⟩ := res3 H;exact And.intro rfl (Exists.intro _ (Exists.intro _ ⟨dl (bD rfl (CellV.agg (off := 0) (cs := [S x11, slE (ab Enc.str (ab Enc.str (ab Enc.str (ab Enc.str Enc.int)))) x12 none]) (n := 2) 0 cW rfl (by kernel_rfl) rfl rfl (ac rfl)) ((show PlaceV _ _ _ (.tmp _) _ from (.refl _)))), aB [] rfl, rfl, rfl⟩))
end Go.Proofs.YtkbfjepffpddfaaGreatDoor
namespace Go.Pv
def jH : Option Bool :=
some true
def lA (a2 : List ((List UInt8) × (List UInt8) × (List UInt8) × (List UInt8) × Int)) (a4 : List ((List UInt8) × (List UInt8) × (List UInt8) × (List UInt8) × Int)) (rec9 : Int → Option Bool) (y8 : Int) : Option Bool :=
bif decide (y8 < (a2.length : Int)) then
  grd (dr y8 a2.length) <|
  lt (at_ a2 y8) fun x13 =>
  grd (dr y8 a4.length) <|
  lt (at_ a4 y8) fun x16 =>
  bif !((decide (x13.1 = x16.1)) && ((decide (x13.2.1 = x16.2.1)) && ((decide (x13.2.2.1 = x16.2.2.1)) && ((decide (x13.2.2.2.1 = x16.2.2.2.1)) && (x13.2.2.2.2 == x16.2.2.2.2))))) then
    some false
  else
    grd (okI (y8 + 1)) <|
    rec9 (y8 + 1)
else
  jH
def lz (a2 : List ((List UInt8) × (List UInt8) × (List UInt8) × (List UInt8) × Int)) (a4 : List ((List UInt8) × (List UInt8) × (List UInt8) × (List UInt8) × Int)) (n : Nat) : Int → Option Bool :=
  loop (fun rec x => lA a2 a4 rec x) n
def oB (F : Nat) (a1 : List UInt8) (a2 : List ((List UInt8) × (List UInt8) × (List UInt8) × (List UInt8) × Int)) (a3 : List UInt8) (a4 : List ((List UInt8) × (List UInt8) × (List UInt8) × (List UInt8) × Int)) : Option Bool :=
bif (!decide (a1 = a3)) || (!decide ((a2.length : Int) = (a4.length : Int))) then
  some false
else
  lz a2 a4 F 0
def jO (F : Nat) : Option Bool :=
bnd3 (kI F ([60, 114, 115, 115, 62, 60, 99, 104, 97, 110, 110, 101, 108, 62, 60, 116] ++ [105, 116, 108, 101, 62, 84, 60, 47, 116, 105, 116, 108, 101, 62, 60, 105] ++ [116, 101, 109, 62, 60, 103, 117, 105, 100, 62, 49, 60, 47, 103, 117, 105] ++ [100, 62, 60, 47, 105, 116, 101, 109, 62, 60, 47, 99, 104, 97, 110, 110] ++ [101, 108, 62, 60, 47, 114, 115, 115, 62] : List UInt8)) fun x3 x4 x5 =>
bnd (oB F x3 x4 ([84] : List UInt8) ([(([49] : List UInt8), ([] : List UInt8), ([] : List UInt8), ([] : List UInt8), 0)] : List ((List UInt8) × (List UInt8) × (List UInt8) × (List UInt8) × Int))) fun x8 =>
kz ((decide (x5 = 0)) && x8) (gy F ([(2, ([] : List UInt8), ([32, 97, 32] : List UInt8), ([] : List ((List UInt8) × List UInt8)))] : List (Int × (List UInt8) × (List UInt8) × List ((List UInt8) × List UInt8)))) fun x12 =>
some (((decide (x5 = 0)) && x8) && (decide (x12 = ([97] : List UInt8))))
end Go.Pv
namespace Go.Proofs.YtkbfjepffpddfaaGreatDoor
open Go.RowKit Go.Av Go.Pv
theorem en9_fdl : ∀ (args : Array Value) (w : World), (callFunc 9 args).run Tryz.prog w = .ok (.enter 9 args) w := fun _ _ => by kernel_rfl
theorem en10_fdl : ∀ (args : Array Value) (w : World), (callFunc 10 args).run Tryz.prog w = .ok (.enter 10 args) w := fun _ _ => by kernel_rfl
theorem en13_fdl : ∀ (args : Array Value) (w : World), (callFunc 13 args).run Tryz.prog w = .ok (.enter 13 args) w := fun _ _ => by kernel_rfl
set_option maxRecDepth 100000 in
set_option maxHeartbeats 1000000 in
theorem tS (F : Nat) (a1 : List UInt8) (a2 : List ((List UInt8) × (List UInt8) × (List UInt8) × (List UInt8) × Int)) (a3 : List UInt8) (a4 : List ((List UInt8) × (List UInt8) × (List UInt8) × (List UInt8) × Int)) (r5 : Bool) (H : oB F a1 a2 a3 a4 = some r5) : ACalls Tryz.prog 10 [.agg [S a1, slE (ab Enc.str (ab Enc.str (ab Enc.str (ab Enc.str Enc.int)))) a2 none], .agg [S a3, slE (ab Enc.str (ab Enc.str (ab Enc.str (ab Enc.str Enc.int)))) a4 none]] [] (Ret (B r5) []) := by
 unfold oB at H
 refine ap Tryz.func10 rfl rfl ?_;show AW _ _ 38 _ _ _;refine af <| aa ?_;show AR _ _ _ _ _ [0, 1, 2] _;refine zR rfl (dN rfl (.inr ⟨_, rfl⟩)) <| zR rfl (dN rfl (.inr ⟨_, rfl⟩)) <| za rfl <| ag <| af <| af <| aa ?_;show AR _ _ _ _ _ [0, 1, 2, 3, 4, 5, 6, 7, 8, 9, 10, 11, 12, 13] _;refine zS rfl (aF (n := 0) (by kernel_rfl) rfl (ac rfl)) <| zS rfl (aH ai rfl rfl) <| zS rfl (aF (n := 0) (by kernel_rfl) rfl (ac rfl)) <| zS rfl (aH ai rfl rfl) <| zS rfl (jp rfl rfl) <| zm rfl <| aY (l := []) 19 (B ((!decide (a1 = a3)) || (!decide ((a2.length : Int) = (a4.length : Int))))) (fun K => ?_) ?_
 ·rcases al (!decide (a1 = a3)) with h6 | h6
  ·refine zF h6 rfl <| zF h6 rfl <| zF h6 rfl <| zF h6 rfl <| zF h6 rfl <| zF h6 rfl <| zF h6 rfl <| zS rfl (aD (av := .v _) rfl h6 rfl) ?_;exact K _ 7 _ (ay (iQ h6)) rfl rfl
  ·refine zU h6 rfl (aF (n := 1) (by kernel_rfl) rfl (ac rfl)) <| zU h6 rfl (aH be rfl rfl) <| zU h6 rfl (bu be rfl) <| zU h6 rfl (aF (n := 1) (by kernel_rfl) rfl (ac rfl)) <| zU h6 rfl (aH be rfl rfl) <| zU h6 rfl (bu be rfl) <| zU h6 rfl (kD rfl rfl) <| zS rfl (aE (av := .v _) rfl h6 rfl) ?_;exact K _ 7 _ (ay (iR h6)) rfl rfl
 refine ag <| ax rfl (fun c7 => ?_) (fun c7 => ?_)
 ·replace H := aW c7 H;refine af <| aa ?_;show AR _ _ _ _ _ [0] _;refine za rfl <| ag <| aI ?_;obtain rfl := ak H;exact And.intro rfl (Exists.intro _ (Exists.intro _ ⟨aG rfl (.refl _), aB [] rfl, rfl, rfl⟩))
 ·replace H := aX c7 H;refine aA <| bJ (X := Unit) (fun _ => ⟨[], [], []⟩) (fun _ => jH = some r5) ?_ ?_
  ·refine af <| aa ?_;show AR _ _ _ _ _ [0] _;refine za rfl <| ag <| aR <| de (X := Nat × Int) (fun (n10, y8) => ⟨[(2, .cp [S a1, slE (ab Enc.str (ab Enc.str (ab Enc.str (ab Enc.str Enc.int)))) a2 none]), (3, .cp [S a3, slE (ab Enc.str (ab Enc.str (ab Enc.str (ab Enc.str Enc.int)))) a4 none]), (5, i64 y8)], [], []⟩) (fun (n10, y8) => lz a2 a4 n10 y8 = some r5) (fun (n10, y8) => n10) (F, 0) H (bb [] (.cons (.refl _) (.cons (.refl _) (.cons (.refl _) (.nil _)))) rfl) ?_;rintro ⟨n10, y8⟩ H;obtain ⟨n10, rfl, H⟩ := eX H;replace H : lA a2 a4 (lz a2 a4 n10) y8 = some r5 := H
   unfold lA at H
   refine af <| af <| aa ?_;show AR _ _ _ _ _ [0, 1, 2, 3, 4] _;refine zm rfl <| zS rfl (aF (n := 1) (by kernel_rfl) rfl (ac rfl)) <| zS rfl (aH be rfl rfl) <| zS rfl (bu be rfl) <| zS rfl (bX rfl rfl) <| ag <| ax rfl (fun c11 => ?_) (fun c11 => ?_)
   ·replace H := aW c11 H;refine aA <| af <| aR <| af ?_;obtain ⟨g12, H⟩ := aN H;obtain ⟨x13, e14, H⟩ := bR H;obtain ⟨g15, H⟩ := aN H;obtain ⟨x16, e17, H⟩ := bR H;refine ce (by kernel_rfl) ?_;show AI _ _ _ _ _ 11 (Array.replicate 11 false) _;refine zk 0 rfl (aF (n := 1) (by kernel_rfl) rfl (ac rfl)) ?_;show AI _ _ _ _ _ _ #[true, false, false, false, false, false, false, false, false, false, false] _;refine zk 1 rfl (aH be rfl rfl) ?_;show AI _ _ _ _ _ _ #[true, true, false, false, false, false, false, false, false, false, false] _;refine zk 2 rfl (mv rfl) ?_;show AI _ _ _ _ _ _ #[true, true, true, false, false, false, false, false, false, false, false] _;refine zk 3 rfl (dn (E := (ab Enc.str (ab Enc.str (ab Enc.str (ab Enc.str Enc.int))))) be (by kernel_rfl) rfl rfl g12 e14) ?_;show AI _ _ _ _ _ _ #[true, true, true, true, false, false, false, false, false, false, false] _;refine zk 4 rfl (cB cV rfl (n := 5) (by kernel_rfl) rfl (ac rfl)) ?_;show AI _ _ _ _ _ _ #[true, true, true, true, true, false, false, false, false, false, false] _;refine zk 5 rfl (aF (n := 1) (by kernel_rfl) rfl (ac rfl)) ?_;show AI _ _ _ _ _ _ #[true, true, true, true, true, true, false, false, false, false, false] _;refine zk 6 rfl (aH be rfl rfl) ?_;show AI _ _ _ _ _ _ #[true, true, true, true, true, true, true, false, false, false, false] _
    refine zk 7 rfl (mv rfl) ?_;show AI _ _ _ _ _ _ #[true, true, true, true, true, true, true, true, false, false, false] _;refine zk 8 rfl (dn (E := (ab Enc.str (ab Enc.str (ab Enc.str (ab Enc.str Enc.int))))) be (by kernel_rfl) rfl rfl g15 e17) ?_;show AI _ _ _ _ _ _ #[true, true, true, true, true, true, true, true, true, false, false] _;refine zk 9 rfl (cB cV rfl (n := 5) (by kernel_rfl) rfl (ac rfl)) ?_;show AI _ _ _ _ _ _ #[true, true, true, true, true, true, true, true, true, true, false] _;refine zk 10 rfl (sn (r := (decide (x13.1 = x16.1)) && ((decide (x13.2.1 = x16.2.1)) && ((decide (x13.2.2.1 = x16.2.2.1)) && ((decide (x13.2.2.2.1 = x16.2.2.2.1)) && (x13.2.2.2.2 == x16.2.2.2.2))))) (.inr rfl) cV (by kernel_rfl) (by kernel_rfl) (by kernel_rfl) rfl rfl rfl (by simp only [List.all_cons, List.all_nil, id, str_beq, Bool.and_true])) ?_;show AI _ _ _ _ _ _ #[true, true, true, true, true, true, true, true, true, true, true] _;refine cK rfl <| ax rfl (fun c18 => ?_) (fun c18 => ?_)
    ·replace H := aW c18 H;refine af <| aa ?_;show AR _ _ _ _ _ [0] _;refine za rfl <| ag <| aI ?_;obtain rfl := ak H;exact And.intro rfl (Exists.intro _ (Exists.intro _ ⟨aG rfl (.refl _), aB [] rfl, rfl, rfl⟩))
    ·replace H := aX c18 H;refine aA ?_;obtain ⟨g19, H⟩ := aN H;refine aa ?_;show AR _ _ _ _ _ [0, 1, 2] _;refine zm rfl <| zS rfl (cX rfl rfl g19) <| za rfl <| ag ?_;exact Exists.intro (n10, y8 + 1) ⟨H, Nat.lt_succ_self _, bb [] (.cons (.refl _) (.cons (.refl _) (.cons (.refl _) (.nil _)))) rfl⟩
   ·replace H := aX c11 H;refine cw ?_;exact Exists.intro () ⟨H, bb [] (.nil _) rfl⟩
  rintro _ H;replace H : jH = some r5 := H
  unfold jH at H
  refine af <| aa ?_;show AR _ _ _ _ _ [0] _;refine za rfl <| ag <| aI ?_;obtain rfl := ak H;exact And.intro rfl (Exists.intro _ (Exists.intro _ ⟨aG rfl (.refl _), aB [] rfl, rfl, rfl⟩))
set_option maxRecDepth 100000 in
set_option maxHeartbeats 1000000 in
theorem rZ (F : Nat) (r1 : Bool) (H : jO F = some r1) : ACalls Tryz.prog 7 [] [] (Ret (B r1) []) := by
 unfold jO at H
 refine ap Tryz.func7 rfl rfl ?_;show AW _ _ 26 _ _ _;refine af <| aa ?_;show AR _ _ _ _ _ [0] _;refine za rfl <| ag <| af ?_;obtain ⟨x3, x4, x5, e6, H⟩ := wT H;refine aa ?_;show AR _ _ _ _ _ [0, 1, 2, 3, 4, 5, 6, 7, 8] _;refine zX rfl (wp (E := Enc.byte) (bytes := 1) (xs := [.const _, .const _, .const _, .const _, .const _, .const _, .const _, .const _, .const _, .const _, .const _, .const _, .const _, .const _, .const _, .const _] ++ [.const _, .const _, .const _, .const _, .const _, .const _, .const _, .const _, .const _, .const _, .const _, .const _, .const _, .const _, .const _, .const _] ++ [.const _, .const _, .const _, .const _, .const _, .const _, .const _, .const _, .const _, .const _, .const _, .const _, .const _, .const _, .const _, .const _] ++ [.const _, .const _, .const _, .const _, .const _, .const _, .const _, .const _, .const _, .const _, .const _, .const _, .const _, .const _, .const _, .const _] ++ [.const _, .const _, .const _, .const _, .const _, .const _, .const _, .const _, .const _]) (l := ([60, 114, 115, 115, 62, 60, 99, 104, 97, 110, 110, 101, 108, 62, 60, 116] ++ [105, 116, 108, 101, 62, 84, 60, 47, 116, 105, 116, 108, 101, 62, 60, 105] ++ [116, 101, 109, 62, 60, 103, 117, 105, 100, 62, 49, 60, 47, 103, 117, 105] ++ [100, 62, 60, 47, 105, 116, 101, 109, 62, 60, 47, 99, 104, 97, 110, 110] ++ [101, 108, 62, 60, 47, 114, 115, 115, 62] : List UInt8)) aj (by kernel_rfl) rfl rfl (by decide) rfl rfl) ?_;rintro _ _ ⟨t2, rfl, rfl⟩
 refine zR rfl (sq 0 aj cH rfl (by simp) rfl) <| am rfl rfl (aC rfl en9_fdl rfl (pZ F ([60, 114, 115, 115, 62, 60, 99, 104, 97, 110, 110, 101, 108, 62, 60, 116] ++ [105, 116, 108, 101, 62, 84, 60, 47, 116, 105, 116, 108, 101, 62, 60, 105] ++ [116, 101, 109, 62, 60, 103, 117, 105, 100, 62, 49, 60, 47, 103, 117, 105] ++ [100, 62, 60, 47, 105, 116, 101, 109, 62, 60, 47, 99, 104, 97, 110, 110] ++ [101, 108, 62, 60, 47, 114, 115, 115, 62] : List UInt8) (some t2) x3 x4 x5 e6) ?_);refine zS rfl (ah (av := .tup _) rfl) <| zS rfl (az (av := .agg _) rfl rfl) <| zS rfl (az (av := .v _) rfl rfl) <| zX rfl (bh (zs := [.string ⟨#[]⟩, .slice none 0 0]) (by kernel_rfl)) ?_;rintro _ _ ⟨o7, rfl, rfl⟩;refine s0 rfl rfl (aV (i := 0) (vs := [S x3, slE (ab Enc.str (ab Enc.str (ab Enc.str (ab Enc.str Enc.int)))) x4 none]) (by kernel_rfl) rfl rfl (by simp [bB, slE]) rfl (ac rfl)) <| fI 1 0 rfl rfl ?_;show AR _ _ _ _ _ _ ⟨_, _, [.tok t2 5]⟩;refine za rfl <| ag <| af ?_;obtain ⟨x8, e9, H⟩ := cd H;refine aa ?_;show AR _ _ _ _ _ [0, 1, 2, 3, 4, 5] _
 refine zS rfl (cB cW rfl (n := 2) (by kernel_rfl) rfl (ac rfl)) <| zS rfl (cP (zs := [.string ⟨#[]⟩, .string ⟨#[]⟩, .string ⟨#[]⟩, .string ⟨#[]⟩, .int .i64 0]) (ps := [(0, 1), (1, 1), (2, 1), (3, 1), (4, 1)]) (cs := [S ([49] : List UInt8), S ([] : List UInt8), S ([] : List UInt8), S ([] : List UInt8), i64 0]) (by kernel_rfl) rfl rfl) <| zR rfl (dX (E := (ab Enc.str (ab Enc.str (ab Enc.str (ab Enc.str Enc.int))))) (bytes := 72) (zs := [.string ⟨#[]⟩, .string ⟨#[]⟩, .string ⟨#[]⟩, .string ⟨#[]⟩, .int .i64 0]) (l := ([(([49] : List UInt8), ([] : List UInt8), ([] : List UInt8), ([] : List UInt8), 0)] : List ((List UInt8) × (List UInt8) × (List UInt8) × (List UInt8) × Int))) be (by kernel_rfl) (by kernel_rfl) rfl rfl rfl rfl rfl) <| zS rfl (cP (zs := [.string ⟨#[]⟩, .slice none 0 0]) (ps := [(0, 1), (1, 1)]) (cs := [S ([84] : List UInt8), slE (ab Enc.str (ab Enc.str (ab Enc.str (ab Enc.str Enc.int)))) ([(([49] : List UInt8), ([] : List UInt8), ([] : List UInt8), ([] : List UInt8), 0)] : List ((List UInt8) × (List UInt8) × (List UInt8) × (List UInt8) × Int)) none]) (by kernel_rfl) rfl rfl) <| am rfl rfl (aC rfl en10_fdl rfl (tS F x3 x4 ([84] : List UInt8) ([(([49] : List UInt8), ([] : List UInt8), ([] : List UInt8), ([] : List UInt8), 0)] : List ((List UInt8) × (List UInt8) × (List UInt8) × (List UInt8) × Int)) x8 e9) ?_);refine za rfl <| ag <| af ?_;obtain ⟨x12, e13, H⟩ := eY H;refine aa ?_
 show AR _ _ _ _ _ [0, 1, 2, 3, 4, 5, 6, 7, 8, 9, 10, 11] _;refine zm rfl <| zS rfl (bK rfl rfl) <| zm rfl <| aY (l := [5, 6, 7, 8, 9, 10, 11]) 19 (B ((decide (x5 = 0)) && x8)) (fun K => ?_) ?_
 ·rcases al (decide (x5 = 0)) with h10 | h10
  ·refine zM h10 rfl <| zS rfl (aD (av := .v _) rfl h10 rfl) ?_;exact K _ 1 _ (ay (cz h10)) rfl rfl
  ·refine zF h10 rfl <| zS rfl (aE (av := .v _) rfl h10 rfl) ?_;exact K _ 1 _ (ay (cA h10)) rfl rfl
 refine zm rfl <| aY (l := [11]) 25 (B (((decide (x5 = 0)) && x8) && (decide (x12 = ([97] : List UInt8))))) (fun K => ?_) ?_
 ·rcases al ((decide (x5 = 0)) && x8) with h11 | h11
  ·refine zU h11 rfl (cP (zs := [.int .i64 0, .string ⟨#[]⟩, .string ⟨#[]⟩, .slice none 0 0]) (ps := [(0, 1), (1, 1), (2, 1), (3, 1)]) (cs := [i64 2, S ([] : List UInt8), S ([32, 97, 32] : List UInt8), eE]) (by kernel_rfl) rfl rfl) <| zT h11 rfl (cm rfl rfl (jx (ds := [i64 2, S ([] : List UInt8), S ([32, 97, 32] : List UInt8), slE (ab Enc.str Enc.str) ([] : List ((List UInt8) × List UInt8)) none]) 21 (.cons (.refl _) (.cons (.refl _) (.cons (.refl _) (.cons (.nil _) (.nil))))) (hc := rfl) <| dX (E := (ab Enc.int (ab Enc.str (ab Enc.str (Enc.sl (ab Enc.str Enc.str)))))) (bytes := 64) (zs := [.int .i64 0, .string ⟨#[]⟩, .string ⟨#[]⟩, .slice none 0 0]) (l := ([(2, ([] : List UInt8), ([32, 97, 32] : List UInt8), ([] : List ((List UInt8) × List UInt8)))] : List (Int × (List UInt8) × (List UInt8) × List ((List UInt8) × List UInt8)))) aP (by kernel_rfl) (by kernel_rfl) rfl rfl rfl rfl rfl) ?_);refine zT h11 rfl (aC rfl en13_fdl rfl (oV F ([(2, ([] : List UInt8), ([32, 97, 32] : List UInt8), ([] : List ((List UInt8) × List UInt8)))] : List (Int × (List UInt8) × (List UInt8) × List ((List UInt8) × List UInt8))) none x12 (e13 h11)) ?_);refine zU h11 rfl (dR rfl rfl) <| zS rfl (aD (av := .v _) rfl h11 rfl) ?_;exact K _ 4 _ (ay (cz h11)) rfl rfl
  ·refine zF h11 rfl <| zF h11 rfl <| zF h11 rfl <| zF h11 rfl <| zS rfl (aE (av := .v _) rfl h11 rfl) ?_;exact K _ 4 _ (ay (cA h11)) rfl rfl
 refine za rfl <| ag <| aI ?_;obtain rfl := ak H;exact And.intro rfl (Exists.intro _ (Exists.intro _ ⟨aG rfl (.refl _), aB [] rfl, rfl, rfl⟩))
end Go.Proofs.YtkbfjepffpddfaaGreatDoor
namespace Go.Pv
def lm (F : Nat) (a1 : UInt8) : Option Bool :=
some ((((decide (a1 = 9)) || (decide (a1 = 10))) || (decide (a1 = 13))) || (decide (a1 = 32)))
def gW (y37 : List UInt8) : Option ((List UInt8)) :=
some y37
def fZ (y7 : Int) (rec8 : ((List UInt8) × Bool × Int) → Option ((List UInt8))) (y32 : List UInt8) (y34 : Bool) : Option ((List UInt8)) :=
grd (okI (y7 + 1)) <|
rec8 (y32, y34, y7 + 1)
def fY (a1 : List UInt8) (y7 : Int) (rec8 : ((List UInt8) × Bool × Int) → Option ((List UInt8))) (y22 : List UInt8) : Option ((List UInt8)) :=
grd (dr y7 a1.length) <|
lt (at_ a1 y7) fun x26 =>
grd (gJ (y22.length + ([x26] : List UInt8).length)) <|
lt (y22 ++ ([x26] : List UInt8)) fun x30 =>
fZ y7 rec8 x30 false
def gX (F : Nat) (a1 : List UInt8) (rec8 : ((List UInt8) × Bool × Int) → Option ((List UInt8))) (y4 : List UInt8) (y6 : Bool) (y7 : Int) : Option ((List UInt8)) :=
bif decide (y7 < (a1.length : Int)) then
  grd (dr y7 a1.length) <|
  lt (at_ a1 y7) fun x12 =>
  bnd (lm F x12) fun x14 =>
  bif x14 then
    fZ y7 rec8 y4 (decide (0 < (y4.length : Int)))
  else
    bif y6 then
      grd (gJ (y4.length + ([32] : List UInt8).length)) <|
      lt (y4 ++ ([32] : List UInt8)) fun x20 =>
      fY a1 y7 rec8 x20
    else
      fY a1 y7 rec8 y4
else
  gW y4
def dy (F : Nat) (a1 : List UInt8) (n : Nat) : ((List UInt8) × Bool × Int) → Option ((List UInt8)) :=
  loop (fun rec x => gX F a1 rec x.1 x.2.1 x.2.2) n
def fK (F : Nat) (a1 : List UInt8) : Option ((List UInt8)) :=
dy F a1 F ([], false, 0)
def fL (F : Nat) (a1 : Int) : Option ((List UInt8) × Bool) :=
bif ((!((((decide (a1 = 9)) || (decide (a1 = 10))) || (decide (a1 = 13))) || ((decide (32 ≤ a1)) && (decide (a1 ≤ 55295))))) && (!((decide (57344 ≤ a1)) && (decide (a1 ≤ 65533))))) && (!((decide (65536 ≤ a1)) && (decide (a1 ≤ 1114111)))) then
  some (([] : List UInt8), false)
else
  bif decide (a1 < 128) then
    some (([Go.Av.toB a1] : List UInt8), true)
  else
    bif decide (a1 < 2048) then
      grd (fE a1 64) <|
      grd (okI (192 + (a1 / 64))) <|
      grd (fE a1 64) <|
      grd (okI (128 + (a1 % 64))) <|
      some (([Go.Av.toB (192 + (a1 / 64)), Go.Av.toB (128 + (a1 % 64))] : List UInt8), true)
    else
      bif decide (a1 < 65536) then
        grd (fE a1 4096) <|
        grd (okI (224 + (a1 / 4096))) <|
        grd (fE a1 64) <|
        grd (fE (a1 / 64) 64) <|
        grd (okI (128 + ((a1 / 64) % 64))) <|
        grd (fE a1 64) <|
        grd (okI (128 + (a1 % 64))) <|
        some (([Go.Av.toB (224 + (a1 / 4096)), Go.Av.toB (128 + ((a1 / 64) % 64)), Go.Av.toB (128 + (a1 % 64))] : List UInt8), true)
      else
        grd (fE a1 262144) <|
        grd (okI (240 + (a1 / 262144))) <|
        grd (fE a1 4096) <|
        grd (fE (a1 / 4096) 64) <|
        grd (okI (128 + ((a1 / 4096) % 64))) <|
        grd (fE a1 64) <|
        grd (fE (a1 / 64) 64) <|
        grd (okI (128 + ((a1 / 64) % 64))) <|
        grd (fE a1 64) <|
        grd (okI (128 + (a1 % 64))) <|
        some (([Go.Av.toB (240 + (a1 / 262144)), Go.Av.toB (128 + ((a1 / 4096) % 64)), Go.Av.toB (128 + ((a1 / 64) % 64)), Go.Av.toB (128 + (a1 % 64))] : List UInt8), true)
def ll (F : Nat) (a1 : UInt8) : Option Int :=
bif (decide (48 ≤ (a1.toNat : Int))) && (decide ((a1.toNat : Int) ≤ 57)) then
  some ((a1 - 48).toNat : Int)
else
  bif (decide (97 ≤ (a1.toNat : Int))) && (decide ((a1.toNat : Int) ≤ 102)) then
    grd (okI (((a1 - 97).toNat : Int) + 10)) <|
    some (((a1 - 97).toNat : Int) + 10)
  else
    bif (decide (65 ≤ (a1.toNat : Int))) && (decide ((a1.toNat : Int) ≤ 70)) then
      grd (okI (((a1 - 65).toNat : Int) + 10)) <|
      some (((a1 - 65).toNat : Int) + 10)
    else
      some 99
def mD (a1 : List UInt8) (y21 : Int) : Option Int :=
bif decide ((a1.length : Int) = 0) then
  some (-1)
else
  some y21
def kc (y5 : Int) (rec6 : (Int × Int) → Option Int) (y18 : Int) : Option Int :=
grd (okI (y5 + 1)) <|
rec6 (y18, y5 + 1)
def ke (F : Nat) (a1 : List UInt8) (a2 : Int) (rec6 : (Int × Int) → Option Int) (y4 : Int) (y5 : Int) : Option Int :=
bif decide (y5 < (a1.length : Int)) then
  grd (dr y5 a1.length) <|
  lt (at_ a1 y5) fun x10 =>
  bnd (ll F x10) fun x12 =>
  bif decide (a2 ≤ x12) then
    some (-1)
  else
    grd (okI (a2 * y4)) <|
    grd (okI ((a2 * y4) + x12)) <|
    bif decide (1114111 < (a2 * y4) + x12) then
      kc y5 rec6 1114112
    else
      kc y5 rec6 ((a2 * y4) + x12)
else
  mD a1 y4
def kd (F : Nat) (a1 : List UInt8) (a2 : Int) (n : Nat) : (Int × Int) → Option Int :=
  loop (fun rec x => ke F a1 a2 rec x.1 x.2) n
def gD (F : Nat) (a1 : List UInt8) (a2 : Int) : Option Int :=
kd F a1 a2 F (0, 0)
def lB (F : Nat) (y28 : Int) : Option ((List UInt8) × Bool) :=
ft (fL F y28) fun x30 x31 =>
some (x30, x31)
def kS (F : Nat) (a1 : List UInt8) : Option ((List UInt8) × Bool) :=
bif decide (a1 = ([97, 109, 112] : List UInt8)) then
  some (([38] : List UInt8), true)
else
  bif decide (a1 = ([108, 116] : List UInt8)) then
    some (([60] : List UInt8), true)
  else
    bif decide (a1 = ([103, 116] : List UInt8)) then
      some (([62] : List UInt8), true)
    else
      bif decide (a1 = ([113, 117, 111, 116] : List UInt8)) then
        some (([34] : List UInt8), true)
      else
        bif decide (a1 = ([97, 112, 111, 115] : List UInt8)) then
          some (([39] : List UInt8), true)
        else
          fq (!(decide ((a1.length : Int) < 2))) (dr 0 a1.length) <|
          lt (at_ a1 0) fun x11 =>
          bif (decide ((a1.length : Int) < 2)) || (!decide (x11 = 35)) then
            some (([] : List UInt8), false)
          else
            grd (kj 1 a1.length) <|
            lt (cY a1 1) fun x15 =>
            bnd (gD F x15 10) fun x17 =>
            grd (dr 1 a1.length) <|
            lt (at_ a1 1) fun x20 =>
            bif decide (x20 = 120) then
              grd (kj 2 a1.length) <|
              lt (cY a1 2) fun x24 =>
              bnd (gD F x24 16) fun x26 =>
              lB F x26
            else
              lB F x17
end Go.Pv
namespace Go.Proofs.YtkbfjepffpddfaaGreatDoor
open Go.RowKit Go.Av Go.Pv
theorem yr : ∀ (args : Array Value) (w : World), (callFunc 16 args).run Tryz.prog w = .ok (.enter 16 args) w := fun _ _ => by kernel_rfl
set_option maxRecDepth 100000 in
set_option maxHeartbeats 1000000 in
theorem rY (F : Nat) (a1 : UInt8) (r2 : Bool) (H : lm F a1 = some r2) : ACalls Tryz.prog 16 [u8 a1] [] (Ret (B r2) []) := by
 unfold lm at H
 refine ap Tryz.func16 rfl rfl ?_;show AW _ _ 17 _ _ _;refine af <| aa ?_;show AR _ _ _ _ _ [0] _;refine za rfl <| ag <| af <| aa ?_;show AR _ _ _ _ _ [0, 1, 2, 3, 4, 5, 6, 7, 8, 9, 10, 11, 12, 13, 14] _;refine zm rfl <| zS rfl (gK (a := a1) (b := 9) rfl rfl) <| zm rfl <| aY (l := [6, 7, 8, 9, 10, 11, 12, 13, 14]) 8 (B ((decide (a1 = 9)) || (decide (a1 = 10)))) (fun K => ?_) ?_
 ·rcases al (decide (a1 = 9)) with h3 | h3
  ·refine zF h3 rfl <| zF h3 rfl <| zS rfl (aD (av := .v _) rfl h3 rfl) ?_;exact K _ 2 _ (ay (iQ h3)) rfl rfl
  ·refine zM h3 rfl <| zU h3 rfl (gK (a := a1) (b := 10) rfl rfl) <| zS rfl (aE (av := .v _) rfl h3 rfl) ?_;exact K _ 2 _ (ay (iR h3)) rfl rfl
 refine zm rfl <| aY (l := [10, 11, 12, 13, 14]) 12 (B (((decide (a1 = 9)) || (decide (a1 = 10))) || (decide (a1 = 13)))) (fun K => ?_) ?_
 ·rcases al ((decide (a1 = 9)) || (decide (a1 = 10))) with h4 | h4
  ·refine zF h4 rfl <| zF h4 rfl <| zS rfl (aD (av := .v _) rfl h4 rfl) ?_;exact K _ 2 _ (ay (iQ h4)) rfl rfl
  ·refine zM h4 rfl <| zU h4 rfl (gK (a := a1) (b := 13) rfl rfl) <| zS rfl (aE (av := .v _) rfl h4 rfl) ?_;exact K _ 2 _ (ay (iR h4)) rfl rfl
 refine zm rfl <| aY (l := [14]) 16 (B ((((decide (a1 = 9)) || (decide (a1 = 10))) || (decide (a1 = 13))) || (decide (a1 = 32)))) (fun K => ?_) ?_
 ·rcases al (((decide (a1 = 9)) || (decide (a1 = 10))) || (decide (a1 = 13))) with h5 | h5
  ·refine zF h5 rfl <| zF h5 rfl <| zS rfl (aD (av := .v _) rfl h5 rfl) ?_;exact K _ 2 _ (ay (iQ h5)) rfl rfl
  ·refine zM h5 rfl <| zU h5 rfl (gK (a := a1) (b := 32) rfl rfl) <| zS rfl (aE (av := .v _) rfl h5 rfl) ?_;exact K _ 2 _ (ay (iR h5)) rfl rfl
 refine za rfl <| ag <| aI ?_;obtain rfl := ak H;exact And.intro rfl (Exists.intro _ (Exists.intro _ ⟨aG rfl (.refl _), aB [] rfl, rfl, rfl⟩))
set_option maxRecDepth 100000 in
set_option maxHeartbeats 1000000 in
theorem kr (F : Nat) (a1 : List UInt8) (r2 : List UInt8) (H : fK F a1 = some r2) : ACalls Tryz.prog 12 [S a1] [] (Ret (S r2) []) := by
 unfold fK at H
 refine ap Tryz.func12 rfl rfl ?_;show AW _ _ 33 _ _ _;refine af <| aa ?_;show AR _ _ _ _ _ [0] _;refine za rfl <| ag <| af <| aa ?_;show AR _ _ _ _ _ [0] _;refine za rfl <| ag ?_
 refine pf 3 1 5 rfl fun t3 => ?_
 show AW _ _ _ _ _ ⟨(3, slE Enc.byte [] (some t3)) :: _, _, _⟩;refine af <| aa ?_;show AR _ _ _ _ _ [0] _;refine za rfl <| ag <| bJ (X := (List UInt8) × Nat) (fun (y37, t38) => ⟨[(3, slE Enc.byte y37 (some t38))], [], [.tok t38 5]⟩) (fun (y37, t38) => gW y37 = some r2) ?_ ?_
 ·refine af <| aa ?_;show AR _ _ _ _ _ [0] _;refine za rfl <| ag <| aR <| de (X := Nat × (List UInt8) × Nat × Bool × Int) (fun (n9, y4, t5, y6, y7) => ⟨[(0, S a1), (3, slE Enc.byte y4 (some t5)), (4, B y6), (5, i64 y7)], [], [.tok t5 5]⟩) (fun (n9, y4, t5, y6, y7) => dy F a1 n9 (y4, y6, y7) = some r2) (fun (n9, y4, t5, y6, y7) => n9) (F, [], t3, false, 0) H (bb [0] (.cons (.refl _) (.cons (.refl _) (.cons (.refl _) (.cons (.refl _) (.nil _))))) rfl) ?_;rintro ⟨n9, y4, t5, y6, y7⟩ H;obtain ⟨n9, rfl, H⟩ := eX H;replace H : gX F a1 (dy F a1 n9) y4 y6 y7 = some r2 := H
  unfold gX at H
  refine af <| af <| aa ?_;show AR _ _ _ _ _ [0, 1, 2, 3] _;refine zm rfl <| zm rfl <| zS rfl (bw ai rfl) <| zS rfl (bX rfl rfl) <| ag <| ax rfl (fun c10 => ?_) (fun c10 => ?_)
  ·replace H := aW c10 H;refine aA <| bJ (X := (List UInt8) × Nat × Bool) (fun (y32, t33, y34) => ⟨[(0, S a1), (3, slE Enc.byte y32 (some t33)), (4, B y34), (5, i64 y7)], [], [.tok t33 5]⟩) (fun (y32, t33, y34) => fZ y7 (dy F a1 n9) y32 y34 = some r2) ?_ ?_
   ·refine aR <| af ?_;obtain ⟨g11, H⟩ := aN H;obtain ⟨x12, e13, H⟩ := bR H;obtain ⟨x14, e15, H⟩ := cd H;refine aa ?_;show AR _ _ _ _ _ [0, 1, 2, 3, 4] _;refine zm rfl <| zm rfl <| zS rfl (bp ai rfl rfl g11 e13) <| am rfl rfl (aC rfl yr rfl (rY F x12 x14 e15) ?_);refine za rfl <| ag <| af <| af <| aa ?_;show AR _ _ _ _ _ [0] _;refine zm rfl <| ag <| ax rfl (fun c16 => ?_) (fun c16 => ?_)
    ·replace H := aW c16 H;refine af <| aa ?_;show AR _ _ _ _ _ [0, 1, 2, 3] _;refine zS rfl (ah (av := slE _ _ _) rfl) <| zS rfl (bu aj rfl) <| zS rfl (eW rfl rfl) <| za rfl <| ag <| cw ?_;exact Exists.intro (y4, t5, decide (0 < (y4.length : Int))) ⟨H, bb [0] (.cons (.refl _) (.cons (.refl _) (.cons (.refl _) (.cons (.refl _) (.nil _))))) rfl⟩
    ·replace H := aX c16 H;refine aA <| bJ (X := (List UInt8) × Nat) (fun (y22, t23) => ⟨[(0, S a1), (3, slE Enc.byte y22 (some t23)), (5, i64 y7)], [], [.tok t23 5]⟩) (fun (y22, t23) => fY a1 y7 (dy F a1 n9) y22 = some r2) ?_ ?_
     ·refine af <| aa ?_;show AR _ _ _ _ _ [0] _;refine zm rfl <| ag <| ax rfl (fun c17 => ?_) (fun c17 => ?_)
      ·replace H := aW c17 H;obtain ⟨g19, H⟩ := aN H;obtain ⟨x20, e21, H⟩ := bR H;refine aa ?_;show AR _ _ _ _ _ [0, 1, 2, 3] _;refine zS rfl (ah (av := slE _ _ _) rfl) <| zR rfl (cE (E := Enc.byte) (bytes := 1) (xs := [.const _]) (l := ([32] : List UInt8)) aj (by kernel_rfl) rfl rfl (by decide) rfl rfl) <| zX rfl (ip (E := Enc.byte) (bytes := 1) 0 aj aj rfl (by kernel_rfl) rfl rfl rfl rfl g19 e21) ?_;rintro _ _ ⟨t18, rfl, rfl⟩;refine zS rfl (aJ (av := slE _ _ _) rfl) <| ag ?_;exact Exists.intro (x20, t18) ⟨H, bb [0] (.cons (.refl _) (.cons (.refl _) (.cons (.refl _) (.nil _)))) rfl⟩
      ·replace H := aX c17 H;refine aA ?_;exact Exists.intro (y4, t5) ⟨H, bb [0] (.cons (.refl _) (.cons (.refl _) (.cons (.refl _) (.nil _)))) rfl⟩
     rintro ⟨y22, t23⟩ H;replace H : fY a1 y7 (dy F a1 n9) y22 = some r2 := H
     unfold fY at H
     refine af <| aa ?_;show AR _ _ _ _ _ [0] _;refine za rfl <| ag ?_;obtain ⟨g25, H⟩ := aN H;obtain ⟨x26, e27, H⟩ := bR H;obtain ⟨g29, H⟩ := aN H;obtain ⟨x30, e31, H⟩ := bR H;refine aa ?_;show AR _ _ _ _ _ [0, 1, 2, 3, 4, 5, 6] _;refine zS rfl (ah (av := slE _ _ _) rfl) <| zm rfl <| zm rfl <| zS rfl (bp ai rfl rfl g25 e27) <| zR rfl (cE (E := Enc.byte) (bytes := 1) (xs := [.tmp 28]) (l := ([x26] : List UInt8)) aj (by kernel_rfl) rfl rfl (by decide) rfl rfl) <| zX rfl (ip (E := Enc.byte) (bytes := 1) 0 aj aj rfl (by kernel_rfl) rfl rfl rfl rfl g29 e31) ?_;rintro _ _ ⟨t28, rfl, rfl⟩;refine zS rfl (aJ (av := slE _ _ _) rfl) <| ag ?_;exact Exists.intro (x30, t28, false) ⟨H, bb [0] (.cons (.refl _) (.cons (.refl _) (.cons (.refl _) (.cons (.refl _) (.nil _))))) rfl⟩
   rintro ⟨y32, t33, y34⟩ H;replace H : fZ y7 (dy F a1 n9) y32 y34 = some r2 := H
   unfold fZ at H
   obtain ⟨g36, H⟩ := aN H;refine aa ?_;show AR _ _ _ _ _ [0, 1, 2] _;refine zm rfl <| zS rfl (cX rfl rfl g36) <| za rfl <| ag ?_;exact Exists.intro (n9, y32, t33, y34, y7 + 1) ⟨H, Nat.lt_succ_self _, bb [0] (.cons (.refl _) (.cons (.refl _) (.cons (.refl _) (.cons (.refl _) (.nil _))))) rfl⟩
  ·replace H := aX c10 H;refine cw ?_;exact Exists.intro (y4, t5) ⟨H, bb [0] (.cons (.refl _) (.nil _)) rfl⟩
 rintro ⟨y37, t38⟩ H;replace H : gW y37 = some r2 := H
 unfold gW at H
 refine af <| aa ?_;show AR _ _ _ _ _ [0, 1, 2] _;refine zS rfl (ah (av := slE _ _ _) rfl) <| zS rfl (kA aj cH ai rfl) <| za rfl <| ag <| aI ?_;obtain rfl := ak H;exact And.intro rfl (Exists.intro _ (Exists.intro _ ⟨aG rfl (.refl _), aB [] rfl, rfl, rfl⟩))
end Go.Proofs.YtkbfjepffpddfaaGreatDoor
namespace Go.Pv
def fD : Option Bool :=
some true
def ek (F : Nat) (x9 : List ((List UInt8) × (List UInt8) × (List UInt8) × (List UInt8) × Int)) (rec19 : Int → Option Bool) (y18 : Int) : Option Bool :=
bif decide (y18 < (x9.length : Int)) then
  grd (dr y18 x9.length) <|
  lt (at_ x9 y18) fun x23 =>
  bnd (fK F x23.2.1) fun x26 =>
  kz (!(!decide (x26 = x23.2.1))) (fK F x23.1) fun x29 =>
  kz (!((!decide (x26 = x23.2.1)) || (!decide (x29 = x23.1)))) (fK F x23.2.2.2.1) fun x32 =>
  bif (((((!decide (x26 = x23.2.1)) || (!decide (x29 = x23.1))) || (!decide (x32 = x23.2.2.2.1))) || (decide (4000 < (x23.2.2.2.1.length : Int)))) || (decide (x23.2.2.2.2 < 0))) || (decide (253402300799 < x23.2.2.2.2)) then
    some false
  else
    grd (okI (y18 + 1)) <|
    rec19 (y18 + 1)
else
  fD
def ej (F : Nat) (x9 : List ((List UInt8) × (List UInt8) × (List UInt8) × (List UInt8) × Int)) (n : Nat) : Int → Option Bool :=
  loop (fun rec x => ek F x9 rec x) n
def hZ (F : Nat) (a1 : List UInt8) : Option Bool :=
bnd (jO F) fun x4 =>
bif (!x4) || (decide (3000 < (a1.length : Int))) then
  some x4
else
  bnd3 (kI F a1) fun x8 x9 x10 =>
  bif !decide (x10 = 0) then
    some ((decide ((x9.length : Int) = 0)) && (decide (x8 = ([] : List UInt8))))
  else
    bnd (fK F x8) fun x15 =>
    bif !decide (x15 = x8) then
      some false
    else
      ej F x9 F 0
end Go.Pv
