/-
  Texts in one (only what FeedKinds needs): EntBW, XmlAP, XmlAW, FdBP, FdBW, FdLP, FdLW, LFeedKindsP, LFeedKindsW.
-/
import Derived.Test.YtkbfjepffpddfaaGreatDoorZFeedKinds3
import Derived.Test.YtkbfjepffpddfaaGreatDoorShelf
import Derived.Lib.ItoaNum
import Derived.Lib.IndexLaws
import Derived.Test.YtkbfjepffpddfaaGreatDoorChecked
set_option linter.unusedVariables false
set_option linter.unusedSimpArgs false
set_option linter.unusedSectionVars false
namespace Go.Proofs.YtkbfjepffpddfaaGreatDoor
open Go.RowKit Go.Av Go.Pv
theorem qk : ∀ (args : Array Value) (w : World), (callFunc 17 args).run Tryz.prog w = .ok (.enter 17 args) w := fun _ _ => by kernel_rfl
theorem zf : ∀ (args : Array Value) (w : World), (callFunc 19 args).run Tryz.prog w = .ok (.enter 19 args) w := fun _ _ => by kernel_rfl
theorem zb : ∀ (args : Array Value) (w : World), (callFunc 44 args).run Tryz.prog w = .ok (.enter 44 args) w := fun _ _ => by kernel_rfl
theorem tI : ∀ (args : Array Value) (w : World), (callFunc 61 args).run Tryz.prog w = .ok (.enter 61 args) w := fun _ _ => by kernel_rfl
theorem yR : ∀ (args : Array Value) (w : World), (callFunc 70 args).run Tryz.prog w = .ok (.enter 70 args) w := fun _ _ => by kernel_rfl
theorem yO : ∀ (args : Array Value) (w : World), (callFunc 82 args).run Tryz.prog w = .ok (.enter 82 args) w := fun _ _ => by kernel_rfl
theorem yN : ∀ (args : Array Value) (w : World), (callFunc 91 args).run Tryz.prog w = .ok (.enter 91 args) w := fun _ _ => by kernel_rfl
theorem nR : ∀ (args : Array Value) (w : World), (callFunc 92 args).run Tryz.prog w = .ok (.enter 92 args) w := fun _ _ => by kernel_rfl
theorem yM : ∀ (args : Array Value) (w : World), (callFunc 93 args).run Tryz.prog w = .ok (.enter 93 args) w := fun _ _ => by kernel_rfl
theorem yL : ∀ (args : Array Value) (w : World), (callFunc 98 args).run Tryz.prog w = .ok (.enter 98 args) w := fun _ _ => by kernel_rfl
theorem tG : ∀ (args : Array Value) (w : World), (callFunc 99 args).run Tryz.prog w = .ok (.enter 99 args) w := fun _ _ => by kernel_rfl
theorem xj : ∀ (args : Array Value) (w : World), (callFunc 102 args).run Tryz.prog w = .ok (.enter 102 args) w := fun _ _ => by kernel_rfl
theorem xi : ∀ (args : Array Value) (w : World), (callFunc 103 args).run Tryz.prog w = .ok (.enter 103 args) w := fun _ _ => by kernel_rfl
theorem xh : ∀ (args : Array Value) (w : World), (callFunc 104 args).run Tryz.prog w = .ok (.enter 104 args) w := fun _ _ => by kernel_rfl
set_option maxRecDepth 100000 in
set_option maxHeartbeats 1000000 in
theorem wM (F : Nat) (a1 : Int) (r2 : List UInt8) (r3 : Bool) (H : jr F a1 = some (r2, r3)) : ACalls Tryz.prog 104 [i64 a1] [] (Ret (.tup [S r2, B r3]) []) := by
 unfold jr at H
 refine ap Tryz.func104 rfl rfl ?_;show AW _ _ 35 _ _ _;refine af <| aa ?_;show AR _ _ _ _ _ [0, 1] _;refine za rfl <| za rfl <| ag <| af <| aa ?_;show AR _ _ _ _ _ [0, 1, 2, 3, 4, 5, 6, 7, 8, 9, 10] _;refine zm rfl <| zS rfl (bJ rfl rfl) <| zm rfl <| aW (l := [6, 7, 8, 9, 10]) 10 (B ((decide (a1 = 9)) || (decide (a1 = 10)))) (fun K => ?_) ?_
 ·rcases aj (decide (a1 = 9)) with h4 | h4
  ·refine zF h4 rfl <| zF h4 rfl <| zS rfl (aD (av := .v _) rfl h4 rfl) ?_;exact K _ 2 _ (ay (jW h4)) rfl rfl
  ·refine zM h4 rfl <| zU h4 rfl (bJ rfl rfl) <| zS rfl (aE (av := .v _) rfl h4 rfl) ?_;exact K _ 2 _ (ay (jX h4)) rfl rfl
 refine zm rfl <| aW (l := [10]) 14 (B (((decide (a1 = 9)) || (decide (a1 = 10))) || (decide (a1 = 13)))) (fun K => ?_) ?_
 ·rcases aj ((decide (a1 = 9)) || (decide (a1 = 10))) with h5 | h5
  ·refine zF h5 rfl <| zF h5 rfl <| zS rfl (aD (av := .v _) rfl h5 rfl) ?_;exact K _ 2 _ (ay (jW h5)) rfl rfl
  ·refine zM h5 rfl <| zU h5 rfl (bJ rfl rfl) <| zS rfl (aE (av := .v _) rfl h5 rfl) ?_;exact K _ 2 _ (ay (jX h5)) rfl rfl
 refine za rfl <| ag <| af <| af ?_;obtain ⟨x7, e8, H⟩ := fL H;obtain ⟨x10, e11, H⟩ := fL H;obtain ⟨x13, e14, H⟩ := fL H;refine aa ?_;show AR _ _ _ _ _ [0, 1, 2, 3, 4, 5, 6, 7, 8, 9, 10, 11, 12, 13, 14, 15, 16] _;refine zm rfl <| zS rfl (bB rfl) <| zm rfl <| aW (l := [7, 8, 9, 10, 11, 12, 13, 14, 15, 16]) 21 (B ((!(((decide (a1 = 9)) || (decide (a1 = 10))) || (decide (a1 = 13)))) && (!x7))) (fun K => ?_) ?_
 ·rcases aj (!(((decide (a1 = 9)) || (decide (a1 = 10))) || (decide (a1 = 13)))) with h6 | h6
  ·refine zM h6 rfl <| zT h6 rfl (aA rfl nR rfl (pB F a1 32 55295 x7 (e8 h6)) ?_);refine zU h6 rfl (bB rfl) <| zS rfl (aD (av := .v _) rfl h6 rfl) ?_;exact K _ 3 _ (ay (cz h6)) rfl rfl
  ·refine zF h6 rfl <| zF h6 rfl <| zF h6 rfl <| zS rfl (aE (av := .v _) rfl h6 rfl) ?_;exact K _ 3 _ (ay (cA h6)) rfl rfl
 refine zm rfl <| aW (l := [12, 13, 14, 15, 16]) 26 (B (((!(((decide (a1 = 9)) || (decide (a1 = 10))) || (decide (a1 = 13)))) && (!x7)) && (!x10))) (fun K => ?_) ?_
 ·rcases aj ((!(((decide (a1 = 9)) || (decide (a1 = 10))) || (decide (a1 = 13)))) && (!x7)) with h9 | h9
  ·refine zM h9 rfl <| zT h9 rfl (aA rfl nR rfl (pB F a1 57344 65533 x10 (e11 h9)) ?_);refine zU h9 rfl (bB rfl) <| zS rfl (aD (av := .v _) rfl h9 rfl) ?_;exact K _ 3 _ (ay (cz h9)) rfl rfl
  ·refine zF h9 rfl <| zF h9 rfl <| zF h9 rfl <| zS rfl (aE (av := .v _) rfl h9 rfl) ?_;exact K _ 3 _ (ay (cA h9)) rfl rfl
 refine zm rfl <| aW (l := []) 31 (B ((((!(((decide (a1 = 9)) || (decide (a1 = 10))) || (decide (a1 = 13)))) && (!x7)) && (!x10)) && (!x13))) (fun K => ?_) ?_
 ·rcases aj (((!(((decide (a1 = 9)) || (decide (a1 = 10))) || (decide (a1 = 13)))) && (!x7)) && (!x10)) with h12 | h12
  ·refine zM h12 rfl <| zT h12 rfl (aA rfl nR rfl (pB F a1 65536 1114111 x13 (e14 h12)) ?_);refine zU h12 rfl (bB rfl) <| zS rfl (aD (av := .v _) rfl h12 rfl) ?_;exact K _ 3 _ (ay (cz h12)) rfl rfl
  ·refine zF h12 rfl <| zF h12 rfl <| zF h12 rfl <| zS rfl (aE (av := .v _) rfl h12 rfl) ?_;exact K _ 3 _ (ay (cA h12)) rfl rfl
 refine ag <| ax rfl (fun c15 => ?_) (fun c15 => ?_)
 ·replace H := aX c15 H;refine af <| aa ?_;show AR _ _ _ _ _ [0, 1] _;refine za rfl <| za rfl <| ag <| aG ?_;obtain ⟨rfl, rfl⟩ := dx H;exact And.intro rfl (Exists.intro _ (Exists.intro _ ⟨bk rfl (.refl _) (.refl _), aB [] rfl, rfl, rfl⟩))
 ·replace H := aY c15 H;refine aC <| af ?_;obtain ⟨g16, H⟩ := aM H;obtain ⟨x17, e18, H⟩ := bL H;refine aa ?_;show AR _ _ _ _ _ [0, 1, 2, 3, 4] _;refine zm rfl <| zS rfl (tu (by kernel_rfl) Tryz.underlying21 rfl g16) <| zS rfl (oQ Tryz.underlying21 ai rfl e18) <| za rfl <| za rfl <| ag <| aG ?_;obtain ⟨rfl, rfl⟩ := dx H;exact And.intro rfl (Exists.intro _ (Exists.intro _ ⟨bk rfl (.refl _) (.refl _), aB [] rfl, rfl, rfl⟩))
abbrev _root_.Go.Av.eB := @Tryz.underlying129
set_option maxRecDepth 100000 in
set_option maxHeartbeats 1000000 in
theorem vn (F : Nat) (r1 : List (List UInt8 × Int)) (H : kV F = some r1) : ACalls Tryz.prog 98 [] [] (Ret (mpI .i32 r1) []) := by
 unfold kV at H
 refine ap Tryz.func98 rfl rfl ?_;show AW _ _ 3 _ _ _;refine af <| aa ?_;show AR _ _ _ _ _ [0] _;refine za rfl <| ag <| af <| aa ?_;show AR _ _ _ _ _ [0, 1, 2, 3, 4, 5, 6, 7] _;refine AM.make (k := .i32) rfl rfl <| AM.insert (s := ([97, 109, 112] : List UInt8)) rfl eB ai rfl (by decide) <| AM.insert (s := ([108, 116] : List UInt8)) rfl eB ai rfl (by decide) <| AM.insert (s := ([103, 116] : List UInt8)) rfl eB ai rfl (by decide) <| AM.insert (s := ([113, 117, 111, 116] : List UInt8)) rfl eB ai rfl (by decide) <| AM.insert (s := ([97, 112, 111, 115] : List UInt8)) rfl eB ai rfl (by decide) <| AM.done (es := ([(([97, 109, 112] : List UInt8), 38), (([108, 116] : List UInt8), 60), (([103, 116] : List UInt8), 62), (([113, 117, 111, 116] : List UInt8), 34), (([97, 112, 111, 115] : List UInt8), 39)] : List (List UInt8 × Int))) <| zS rfl (ah (av := mpI _ _) rfl) <| zS rfl (aH (av := mpI _ _) rfl) <| ag <| aG ?_;obtain rfl := ak H;exact And.intro rfl (Exists.intro _ (Exists.intro _ ⟨aF rfl (.refl _), aB [] rfl, rfl, rfl⟩))
set_option maxRecDepth 100000 in
set_option maxHeartbeats 1000000 in
theorem pn (F : Nat) (a1 : List UInt8) (a2 : Int) (r3 : List UInt8) (r4 : Bool) (H : dV F a1 a2 = some (r3, r4)) : ACalls Tryz.prog 99 [S a1, i64 a2] [] (Ret (.tup [S r3, B r4]) []) := by
 unfold dV at H
 refine ap Tryz.func99 rfl rfl ?_;show AW _ _ 41 _ _ _;refine af <| aa ?_;show AR _ _ _ _ _ [0, 1] _;refine za rfl <| za rfl <| ag <| af <| af ?_;obtain ⟨g6, H⟩ := cP H;obtain ⟨x7, e8, H⟩ := bL H;obtain ⟨g10, H⟩ := cP H;obtain ⟨x11, e12, H⟩ := bL H;obtain ⟨g14, H⟩ := cP H;obtain ⟨x15, e16, H⟩ := bL H;obtain ⟨x18, e19, H⟩ := fL H;refine aa ?_;show AR _ _ _ _ _ [0, 1, 2, 3, 4, 5, 6, 7, 8, 9, 10, 11, 12, 13, 14, 15, 16, 17, 18, 19, 20] _;refine zm rfl <| zS rfl (eo rfl rfl) <| zm rfl <| aW (l := [7, 8, 9, 10, 11, 12, 13, 14, 15, 16, 17, 18, 19, 20]) 14 (B ((decide (a1 = ([] : List UInt8))) || (decide (x7 = 43)))) (fun K => ?_) ?_
 ·rcases aj (decide (a1 = ([] : List UInt8))) with h5 | h5
  ·refine zF h5 rfl <| zF h5 rfl <| zF h5 rfl <| zS rfl (aD (av := .v _) rfl h5 rfl) ?_;exact K _ 3 _ (ay (jW h5)) rfl rfl
  ·refine zM h5 rfl <| zU h5 rfl (bo ai rfl rfl (g6 (nf h5)) e8) <| zU h5 rfl (jA (a := x7) (b := 43) rfl rfl) <| zS rfl (aE (av := .v _) rfl h5 rfl) ?_;exact K _ 3 _ (ay (jX h5)) rfl rfl
 refine zm rfl <| aW (l := [12, 13, 14, 15, 16, 17, 18, 19, 20]) 19 (B (((decide (a1 = ([] : List UInt8))) || (decide (x7 = 43))) || (decide (x11 = 45)))) (fun K => ?_) ?_
 ·rcases aj ((decide (a1 = ([] : List UInt8))) || (decide (x7 = 43))) with h9 | h9
  ·refine zF h9 rfl <| zF h9 rfl <| zF h9 rfl <| zS rfl (aD (av := .v _) rfl h9 rfl) ?_;exact K _ 3 _ (ay (jW h9)) rfl rfl
  ·refine zM h9 rfl <| zU h9 rfl (bo ai rfl rfl (g10 (nf h9)) e12) <| zU h9 rfl (jA (a := x11) (b := 45) rfl rfl) <| zS rfl (aE (av := .v _) rfl h9 rfl) ?_;exact K _ 3 _ (ay (jX h9)) rfl rfl
 refine zm rfl <| aW (l := [17, 18, 19, 20]) 24 (B ((((decide (a1 = ([] : List UInt8))) || (decide (x7 = 43))) || (decide (x11 = 45))) || (decide (x15 = 95)))) (fun K => ?_) ?_
 ·rcases aj (((decide (a1 = ([] : List UInt8))) || (decide (x7 = 43))) || (decide (x11 = 45))) with h13 | h13
  ·refine zF h13 rfl <| zF h13 rfl <| zF h13 rfl <| zS rfl (aD (av := .v _) rfl h13 rfl) ?_;exact K _ 3 _ (ay (jW h13)) rfl rfl
  ·refine zM h13 rfl <| zU h13 rfl (bo ai rfl rfl (g14 (nf h13)) e16) <| zU h13 rfl (jA (a := x15) (b := 95) rfl rfl) <| zS rfl (aE (av := .v _) rfl h13 rfl) ?_;exact K _ 3 _ (ay (jX h13)) rfl rfl
 refine zm rfl <| aW (l := []) 28 (B (((((decide (a1 = ([] : List UInt8))) || (decide (x7 = 43))) || (decide (x11 = 45))) || (decide (x15 = 95))) || x18)) (fun K => ?_) ?_
 ·rcases aj ((((decide (a1 = ([] : List UInt8))) || (decide (x7 = 43))) || (decide (x11 = 45))) || (decide (x15 = 95))) with h17 | h17
  ·refine zF h17 rfl <| zF h17 rfl <| zS rfl (aD (av := .v _) rfl h17 rfl) ?_;exact K _ 2 _ (ay (jW h17)) rfl rfl
  ·refine zM h17 rfl <| zT h17 rfl (aA rfl xj rfl (sy F a1 ([95] : List UInt8) x18 (e19 (nf h17))) ?_);refine zS rfl (aE (av := .v _) rfl h17 rfl) ?_;exact K _ 2 _ (ay (jX h17)) rfl rfl
 refine ag <| ax rfl (fun c20 => ?_) (fun c20 => ?_)
 ·replace H := aX c20 H;refine af <| aa ?_;show AR _ _ _ _ _ [0, 1] _;refine za rfl <| za rfl <| ag <| aG ?_;obtain ⟨rfl, rfl⟩ := dx H;exact And.intro rfl (Exists.intro _ (Exists.intro _ ⟨bk rfl (.refl _) (.refl _), aB [] rfl, rfl, rfl⟩))
 ·replace H := aY c20 H;refine aC <| af ?_;obtain ⟨x21, x22, e23, H⟩ := cF H;refine aa ?_;show AR _ _ _ _ _ [0, 1, 2, 3, 4, 5, 6, 7] _;refine zm rfl <| zm rfl <| am rfl rfl (aA rfl xi rfl (oG F a1 a2 0 x21 x22 e23) ?_);refine zS rfl (ah (av := .tup _) rfl) <| zS rfl (az (av := .v _) rfl rfl) <| zS rfl (az (av := eAny _ _) rfl rfl) <| za rfl <| zS rfl (aH (av := eAny _ _) rfl) <| ag <| af <| af <| aa ?_;show AR _ _ _ _ _ [0, 1] _;refine zS rfl (ah (av := eAny _ _) rfl) <| zS rfl (xa eQ rfl rfl) <| ag <| ax rfl (fun c24 => ?_) (fun c24 => ?_)
  ·replace H := aX c24 H;refine af <| aa ?_;show AR _ _ _ _ _ [0, 1] _;refine za rfl <| za rfl <| ag <| aG ?_;obtain ⟨rfl, rfl⟩ := dx H;exact And.intro rfl (Exists.intro _ (Exists.intro _ ⟨bk rfl (.refl _) (.refl _), aB [] rfl, rfl, rfl⟩))
  ·replace H := aY c24 H;refine aC <| af ?_;obtain ⟨x25, x26, e27, H⟩ := cF H;refine aa ?_;show AR _ _ _ _ _ [0, 1, 2, 3, 4, 5] _;refine zm rfl <| am rfl rfl (aA rfl xh rfl (wM F x21 x25 x26 e27) ?_);refine zS rfl (az (av := .v _) rfl rfl) <| zS rfl (az (av := .v _) rfl rfl) <| za rfl <| za rfl <| ag <| aG ?_;obtain ⟨rfl, rfl⟩ := dx H;exact And.intro rfl (Exists.intro _ (Exists.intro _ ⟨bk rfl (.refl _) (.refl _), aB [] rfl, rfl, rfl⟩))
set_option maxRecDepth 100000 in
set_option maxHeartbeats 1000000 in
theorem wK (F : Nat) (a1 : List UInt8) (r2 : List UInt8) (r3 : Bool) (H : ix F a1 = some (r2, r3)) : ACalls Tryz.prog 93 [S a1] [] (Ret (.tup [S r2, B r3]) []) := by
 unfold ix at H
 refine ap Tryz.func93 rfl rfl ?_;show AW _ _ 39 _ _ _;refine af <| aa ?_;show AR _ _ _ _ _ [0, 1] _;refine za rfl <| za rfl <| ag <| af <| af ?_;obtain ⟨x4, e5, H⟩ := bU H;refine aa ?_;show AR _ _ _ _ _ [0, 1, 2, 3, 4, 5, 6, 7] _;refine am rfl rfl (aA rfl yL rfl (vn F x4 e5) ?_);refine zm rfl <| zS rfl (yG eB ai (fun _ => by kernel_rfl) rfl rfl) <| zS rfl (ah (av := .tup _) rfl) <| zS rfl (az (av := .v _) rfl rfl) <| zS rfl (az (av := .v _) rfl rfl) <| za rfl <| za rfl <| ag <| af <| aa ?_;show AR _ _ _ _ _ [0] _;refine zm rfl <| ag <| ax rfl (fun c6 => ?_) (fun c6 => ?_)
 ·replace H := aX c6 H;refine af ?_;obtain ⟨x7, e8, H⟩ := bL H;refine aa ?_;show AR _ _ _ _ _ [0, 1, 2, 3] _;refine zm rfl <| zS rfl (oQ Tryz.underlying21 ai rfl e8) <| za rfl <| za rfl <| ag <| aG ?_;obtain ⟨rfl, rfl⟩ := dx H;exact And.intro rfl (Exists.intro _ (Exists.intro _ ⟨bk rfl (.refl _) (.refl _), aB [] rfl, rfl, rfl⟩))
 ·replace H := aY c6 H;refine aC <| af <| af ?_;obtain ⟨x9, e10, H⟩ := bL H;refine aa ?_;show AR _ _ _ _ _ [0, 1, 2, 3, 4, 5, 6] _;refine zm rfl <| am rfl rfl (aA rfl tI rfl (show ACalls _ _ _ [] (Ret (.tup [S x9.1, B x9.2]) []) from by subst e10; exact lR a1 ([35, 120] : List UInt8)) ?_);refine zS rfl (ah (av := .tup _) rfl) <| zS rfl (az (av := .v _) rfl rfl) <| zS rfl (az (av := .v _) rfl rfl) <| za rfl <| za rfl <| ag <| af <| aa ?_;show AR _ _ _ _ _ [0] _;refine zm rfl <| ag <| ax rfl (fun c11 => ?_) (fun c11 => ?_)
  ·replace H := aX c11 H;refine af ?_;obtain ⟨x12, x13, e14, H⟩ := cF H;refine aa ?_;show AR _ _ _ _ _ [0, 1, 2, 3, 4, 5] _;refine zm rfl <| am rfl rfl (aA rfl tG rfl (pn F x9.1 16 x12 x13 e14) ?_);refine zS rfl (az (av := .v _) rfl rfl) <| zS rfl (az (av := .v _) rfl rfl) <| za rfl <| za rfl <| ag <| aG ?_;obtain ⟨rfl, rfl⟩ := dx H;exact And.intro rfl (Exists.intro _ (Exists.intro _ ⟨bk rfl (.refl _) (.refl _), aB [] rfl, rfl, rfl⟩))
  ·replace H := aY c11 H;refine aC <| af <| af ?_;obtain ⟨x15, e16, H⟩ := bL H;refine aa ?_;show AR _ _ _ _ _ [0, 1, 2, 3, 4, 5, 6] _;refine zm rfl <| am rfl rfl (aA rfl tI rfl (show ACalls _ _ _ [] (Ret (.tup [S x15.1, B x15.2]) []) from by subst e16; exact lR a1 ([35] : List UInt8)) ?_);refine zS rfl (ah (av := .tup _) rfl) <| zS rfl (az (av := .v _) rfl rfl) <| zS rfl (az (av := .v _) rfl rfl) <| za rfl <| za rfl <| ag <| af <| aa ?_;show AR _ _ _ _ _ [0] _;refine zm rfl <| ag <| ax rfl (fun c17 => ?_) (fun c17 => ?_)
   ·replace H := aX c17 H;refine af ?_;obtain ⟨x18, x19, e20, H⟩ := cF H;refine aa ?_;show AR _ _ _ _ _ [0, 1, 2, 3, 4, 5] _;refine zm rfl <| am rfl rfl (aA rfl tG rfl (pn F x15.1 10 x18 x19 e20) ?_);refine zS rfl (az (av := .v _) rfl rfl) <| zS rfl (az (av := .v _) rfl rfl) <| za rfl <| za rfl <| ag <| aG ?_;obtain ⟨rfl, rfl⟩ := dx H;exact And.intro rfl (Exists.intro _ (Exists.intro _ ⟨bk rfl (.refl _) (.refl _), aB [] rfl, rfl, rfl⟩))
   ·replace H := aY c17 H;refine aC <| af <| aa ?_;show AR _ _ _ _ _ [0, 1] _;refine za rfl <| za rfl <| ag <| aG ?_;obtain ⟨rfl, rfl⟩ := dx H;exact And.intro rfl (Exists.intro _ (Exists.intro _ ⟨bk rfl (.refl _) (.refl _), aB [] rfl, rfl, rfl⟩))
set_option maxRecDepth 100000 in
set_option maxHeartbeats 1000000 in
theorem vo (F : Nat) (a1 : List UInt8) (r2 : List UInt8) (r3 : Int) (H : jK F a1 = some (r2, r3)) : ACalls Tryz.prog 82 [S a1] [] (Ret (.tup [S r2, i64 r3]) []) := by
 unfold jK at H
 refine ap Tryz.func82 rfl rfl ?_;show AW _ _ 33 _ _ _;refine af <| aa ?_;show AR _ _ _ _ _ [0, 1] _;refine za rfl <| za rfl <| ag <| af ?_;obtain ⟨g4, H⟩ := aM H;obtain ⟨x5, e6, H⟩ := bL H;obtain ⟨g7, H⟩ := aM H;obtain ⟨g8, H⟩ := aM H;obtain ⟨g9, H⟩ := aM H;obtain ⟨x10, e11, H⟩ := bU H;refine aa ?_;show AR _ _ _ _ _ [0, 1, 2, 3] _;refine zm rfl <| zS rfl (eF ai rfl rfl g4 e6) <| am rfl rfl (aA rfl yN rfl (pu F x5 ([38, 59] : List UInt8) x10 g7 g8 g9 e11) ?_);refine za rfl <| ag <| af <| af ?_;obtain ⟨x12, e13, H⟩ := bU H;obtain ⟨g15, H⟩ := cP H;obtain ⟨g16, H⟩ := cP H;obtain ⟨x17, e18, H⟩ := bL H;refine aa ?_;show AR _ _ _ _ _ [0, 1, 2, 3, 4, 5, 6, 7, 8, 9] _;refine zm rfl <| am rfl rfl (aA rfl nR rfl (pB F x10 1 10 x12 e13) ?_);refine zS rfl (bB rfl) <| zm rfl <| aW (l := []) 19 (B ((!x12) || (decide (x17 = 38)))) (fun K => ?_) ?_
 ·rcases aj (!x12) with h14 | h14
  ·refine zF h14 rfl <| zF h14 rfl <| zF h14 rfl <| zF h14 rfl <| zF h14 rfl <| zS rfl (aD (av := .v _) rfl h14 rfl) ?_;exact K _ 5 _ (ay (jW h14)) rfl rfl
  ·refine zM h14 rfl <| zM h14 rfl <| zU h14 rfl (dl rfl rfl (g15 (nf h14))) <| zU h14 rfl (bo ai rfl rfl (g16 (nf h14)) e18) <| zU h14 rfl (jA (a := x17) (b := 38) rfl rfl) <| zS rfl (aE (av := .v _) rfl h14 rfl) ?_;exact K _ 5 _ (ay (jX h14)) rfl rfl
 refine ag <| ax rfl (fun c19 => ?_) (fun c19 => ?_)
 ·replace H := aX c19 H;refine af <| aa ?_;show AR _ _ _ _ _ [0, 1] _;refine za rfl <| za rfl <| ag <| aG ?_;obtain ⟨rfl, rfl⟩ := dx H;exact And.intro rfl (Exists.intro _ (Exists.intro _ ⟨bk rfl (.refl _) (.refl _), aB [] rfl, rfl, rfl⟩))
 ·replace H := aY c19 H;refine aC <| af ?_;obtain ⟨g20, H⟩ := aM H;obtain ⟨g21, H⟩ := aM H;obtain ⟨x22, e23, H⟩ := bL H;obtain ⟨x24, x25, e26, H⟩ := cF H;refine aa ?_;show AR _ _ _ _ _ [0, 1, 2, 3, 4, 5, 6, 7, 8, 9] _;refine zm rfl <| zm rfl <| zS rfl (dl rfl rfl g20) <| zS rfl (qC ai rfl rfl rfl g21 e23) <| am rfl rfl (aA rfl yM rfl (wK F x22 x24 x25 e26) ?_);refine zS rfl (ah (av := .tup _) rfl) <| zS rfl (az (av := .v _) rfl rfl) <| zS rfl (az (av := .v _) rfl rfl) <| za rfl <| za rfl <| ag <| af <| af <| aa ?_;show AR _ _ _ _ _ [0, 1] _;refine zm rfl <| zS rfl (bB rfl) <| ag <| ax rfl (fun c27 => ?_) (fun c27 => ?_)
  ·replace H := aX c27 H;refine af <| aa ?_;show AR _ _ _ _ _ [0, 1] _;refine za rfl <| za rfl <| ag <| aG ?_;obtain ⟨rfl, rfl⟩ := dx H;exact And.intro rfl (Exists.intro _ (Exists.intro _ ⟨bk rfl (.refl _) (.refl _), aB [] rfl, rfl, rfl⟩))
  ·replace H := aY c27 H;refine aC <| af ?_;obtain ⟨g28, H⟩ := aM H;refine aa ?_;show AR _ _ _ _ _ [0, 1, 2, 3, 4] _;refine zm rfl <| zm rfl <| zS rfl (dl rfl rfl g28) <| za rfl <| za rfl <| ag <| aG ?_;obtain ⟨rfl, rfl⟩ := dx H;exact And.intro rfl (Exists.intro _ (Exists.intro _ ⟨bk rfl (.refl _) (.refl _), aB [] rfl, rfl, rfl⟩))
set_option maxRecDepth 100000 in
set_option maxHeartbeats 1000000 in
theorem wL (F : Nat) (a1 : List UInt8) (r2 : List UInt8) (r3 : Bool) (H : nL F a1 = some (r2, r3)) : ACalls Tryz.prog 70 [S a1] [] (Ret (.tup [S r2, B r3]) []) := by
 unfold nL at H
 refine ap Tryz.func70 rfl rfl ?_;show AW _ _ 36 _ _ _;refine af <| aa ?_;show AR _ _ _ _ _ [0, 1] _;refine za rfl <| za rfl <| ag <| af <| aa ?_;show AR _ _ _ _ _ [0] _;refine zX rfl (oP (zs := [(.pointer none), .slice none 0 0]) (by kernel_rfl)) ?_;rintro _ _ ⟨o4, rfl, rfl⟩;refine ag ?_
 refine jo 0 1 1 5 rfl rfl fun t5 => ?_
 show AW _ _ _ _ _ ⟨_, _, [.tok t5 5, .obj o4 [.v (.pointer none), slE Enc.byte [] (some t5)], .ty o4 51]⟩;refine af <| aa ?_;show AR _ _ _ _ _ [0] _;refine za rfl <| ag <| aU <| dp (X := Nat × (List UInt8) × Bool × AV × (List UInt8) × Nat) (fun (n12, y6, y7, t8, y9, t10) => ⟨[(0, S y6), (4, .pt o4 0), (5, B y7)], [], [.obj o4 [t8, slE Enc.byte y9 (some t10)], .ty o4 51, .tok t10 5]⟩) (fun (n12, y6, y7, t8, y9, t10) => eR F n12 (y6, y7, y9) = some (r2, r3) ∧ (t8 = .v (.pointer none) ∨ t8 = .pt o4 0)) (fun (n12, y6, y7, t8, y9, t10) => n12) (F, a1, true, (.v (.pointer none)), [], t5) ⟨H, .inl rfl⟩ (be [1, 1, 0] (.cons (.refl _) (.cons (.refl _) (.cons (.refl _) (.nil _)))) rfl) ?_;rintro ⟨n12, y6, y7, t8, y9, t10⟩ ⟨H, ht8⟩;obtain ⟨n12, rfl, H⟩ := fA H;replace H : gC F (eR F n12) y6 y7 y9 = some (r2, r3) := H
 unfold gC at H
 refine aU <| af ?_;obtain ⟨x13, e14, H⟩ := bL H;refine aa ?_;show AR _ _ _ _ _ [0, 1, 2] _;refine zm rfl <| am rfl rfl (aA rfl zb rfl (show ACalls _ _ _ [] (Ret (i64 x13) []) from by subst e14; exact eW y6 38) ?_);refine za rfl <| ag <| af <| af <| aa ?_;show AR _ _ _ _ _ [0, 1] _;refine zm rfl <| zS rfl (cf rfl rfl) <| ag <| ax rfl (fun c15 => ?_) (fun c15 => ?_)
 ·replace H := aX c15 H;refine af ?_;obtain ⟨g16, H⟩ := aM H;obtain ⟨x17, e18, H⟩ := bL H;refine aa ?_;show AR _ _ _ _ _ [0, 1] _;refine zm rfl <| am rfl rfl (aQ [0, 0, 0] rfl qk rfl (cC  o4 (t8) ht8 y9 y6 t10 (wA g16)) rfl (fun c A' h => by cases h.1) ?_)
  rintro av A' ⟨h, t19, rfl⟩; cases h
  rw [e18]
  refine ag <| af ?_;obtain ⟨g20, H⟩ := aM H;refine aa ?_;show AR _ _ _ _ _ [0, 1, 2, 3] _;refine am rfl rfl (aQ [0, 1] rfl zf rfl (kC  o4 (.pt o4 0) x17 t19 (okW0_s g20)) rfl (fun c A' h => by cases h.1) ?_)
  rintro av A' ⟨h, rfl⟩; cases h
  refine zm rfl <| za rfl <| za rfl <| ag <| aG ?_;obtain ⟨rfl, rfl⟩ := dx H;exact And.intro rfl (Exists.intro _ (Exists.intro _ ⟨bk rfl (.refl _) (.refl _), aB [] rfl, rfl, rfl⟩))
 ·replace H := aY c15 H;refine aC <| af ?_;obtain ⟨g21, H⟩ := aM H;obtain ⟨x22, e23, H⟩ := bL H;obtain ⟨g24, H⟩ := aM H;obtain ⟨x25, e26, H⟩ := bL H;refine aa ?_;show AR _ _ _ _ _ [0, 1, 2, 3] _;refine zm rfl <| zm rfl <| zS rfl (ls ai rfl rfl g21 e23) <| am rfl rfl (aQ [0, 0, 0] rfl qk rfl (cC  o4 (t8) ht8 y9 x22 t10 (wA g24)) rfl (fun c A' h => by cases h.1) ?_)
  rintro av A' ⟨h, t27, rfl⟩; cases h
  rw [e26]
  refine ag <| af ?_;obtain ⟨g28, H⟩ := aM H;obtain ⟨x29, e30, H⟩ := bL H;refine aa ?_;show AR _ _ _ _ _ [0, 1, 2, 3] _;refine zm rfl <| zm rfl <| zS rfl (eF ai rfl rfl g28 e30) <| za rfl <| ag <| af ?_;obtain ⟨x31, x32, e33, H⟩ := cF H;refine aa ?_;show AR _ _ _ _ _ [0, 1, 2, 3, 4, 5, 6] _;refine zm rfl <| am rfl rfl (aA rfl yO rfl (vo F x29 x31 x32 e33) ?_);refine zS rfl (ah (av := .tup _) rfl) <| zS rfl (az (av := .v _) rfl rfl) <| zS rfl (az (av := .v _) rfl rfl) <| za rfl <| za rfl <| ag <| bM (X := Bool × (List UInt8) × Int) (fun (y35, y36, y37) => ⟨[(0, S x29), (4, .pt o4 0), (5, B y35), (7, S y36), (8, i64 y37)], [], [.obj o4 [.pt o4 0, slE Enc.byte x25 (some t27)], .ty o4 51, .tok t27 5]⟩) (fun (y35, y36, y37) => gB (eR F n12) x25 x29 y35 y36 y37 = some (r2, r3)) ?_ ?_
  ·refine af <| aa ?_;show AR _ _ _ _ _ [0, 1] _;refine zm rfl <| zS rfl (bJ rfl rfl) <| ag <| ax rfl (fun c34 => ?_) (fun c34 => ?_)
   ·replace H := aX c34 H;refine aa ?_;show AR _ _ _ _ _ [0, 1, 2] _;refine za rfl <| za rfl <| za rfl <| ag ?_;exact Exists.intro (false, ([38] : List UInt8), 1) ⟨H, be [0, 0, 0] (.cons (.refl _) (.cons (.refl _) (.cons (.refl _) (.cons (.refl _) (.cons (.refl _) (.nil _)))))) rfl⟩
   ·replace H := aY c34 H;refine aC ?_;exact Exists.intro (y7, x31, x32) ⟨H, be [0, 0, 0] (.cons (.refl _) (.cons (.refl _) (.cons (.refl _) (.cons (.refl _) (.cons (.refl _) (.nil _)))))) rfl⟩
  rintro ⟨y35, y36, y37⟩ H;replace H : gB (eR F n12) x25 x29 y35 y36 y37 = some (r2, r3) := H
  unfold gB at H
  refine af ?_;obtain ⟨g39, H⟩ := aM H;obtain ⟨x40, e41, H⟩ := bL H;refine aa ?_;show AR _ _ _ _ _ [0, 1] _;refine zm rfl <| am rfl rfl (aQ [0, 0, 0] rfl qk rfl (cC  o4 (.pt o4 0) (.inr rfl) x25 y36 t27 (wA g39)) rfl (fun c A' h => by cases h.1) ?_)
  rintro av A' ⟨h, t42, rfl⟩; cases h
  rw [e41]
  refine ag ?_;obtain ⟨g43, H⟩ := aM H;obtain ⟨x44, e45, H⟩ := bL H;refine aa ?_;show AR _ _ _ _ _ [0, 1, 2, 3] _;refine zm rfl <| zm rfl <| zS rfl (eF ai rfl rfl g43 e45) <| za rfl <| ag ?_;exact Exists.intro (n12, x44, y35, (.pt o4 0), x40, t42) ⟨⟨H, .inr rfl⟩, Nat.lt_succ_self _, be [0, 0, 0] (.cons (.refl _) (.cons (.refl _) (.cons (.refl _) (.nil _)))) rfl⟩
set_option maxRecDepth 100000 in
set_option maxHeartbeats 1000000 in
theorem uu (F : Nat) (a1 : List UInt8) (r2 : List UInt8) (r3 : Int) (H : ll F a1 = some (r2, r3)) : ACalls Tryz.prog 60 [S a1] [] (Ret (.tup [S r2, i64 r3]) []) := by
 unfold ll at H
 refine ap Tryz.func60 rfl rfl ?_;show AW _ _ 14 _ _ _;refine af <| aa ?_;show AR _ _ _ _ _ [0, 1] _;refine za rfl <| za rfl <| ag <| af ?_;obtain ⟨x4, x5, e6, H⟩ := cF H;refine aa ?_;show AR _ _ _ _ _ [0, 1, 2, 3, 4, 5, 6] _;refine zm rfl <| am rfl rfl (aA rfl yR rfl (wL F a1 x4 x5 e6) ?_);refine zS rfl (ah (av := .tup _) rfl) <| zS rfl (az (av := .v _) rfl rfl) <| zS rfl (az (av := .v _) rfl rfl) <| za rfl <| za rfl <| ag <| af <| af <| aa ?_;show AR _ _ _ _ _ [0, 1] _;refine zm rfl <| zS rfl (bB rfl) <| ag <| ax rfl (fun c7 => ?_) (fun c7 => ?_)
 ·replace H := aX c7 H;refine af <| aa ?_;show AR _ _ _ _ _ [0, 1] _;refine za rfl <| za rfl <| ag <| aG ?_;obtain ⟨rfl, rfl⟩ := dx H;exact And.intro rfl (Exists.intro _ (Exists.intro _ ⟨bk rfl (.refl _) (.refl _), aB [] rfl, rfl, rfl⟩))
 ·replace H := aY c7 H;refine aC <| af <| aa ?_;show AR _ _ _ _ _ [0, 1, 2] _;refine zm rfl <| za rfl <| za rfl <| ag <| aG ?_;obtain ⟨rfl, rfl⟩ := dx H;exact And.intro rfl (Exists.intro _ (Exists.intro _ ⟨bk rfl (.refl _) (.refl _), aB [] rfl, rfl, rfl⟩))
end Go.Proofs.YtkbfjepffpddfaaGreatDoor
namespace Go.Pv
def xmla_k1 : List UInt8 := [65, 66, 67, 68, 69, 70, 71, 72, 73, 74, 75, 76, 77, 78, 79, 80, 81, 82, 83, 84, 85, 86, 87, 88, 89, 90, 97, 98, 99, 100, 101, 102, 103, 104, 105, 106, 107, 108, 109, 110, 111, 112, 113, 114, 115, 116, 117, 118, 119, 120, 121, 122, 95, 48, 49, 50, 51, 52, 53, 54, 55, 56, 57, 45, 46, 58]
def xmla_k2 : List UInt8 := [65, 66, 67, 68, 69, 70, 71, 72, 73, 74, 75, 76, 77, 78, 79, 80, 81, 82, 83, 84, 85, 86, 87, 88, 89, 90, 97, 98, 99, 100, 101, 102, 103, 104, 105, 106, 107, 108, 109, 110, 111, 112, 113, 114, 115, 116, 117, 118, 119, 120, 121, 122, 95]
def lC : Option Bool :=
some true
def jZ (a1 : List UInt8) (rec4 : Int → Option Bool) (y3 : Int) : Option Bool :=
bif decide (y3 < (a1.length : Int)) then
  grd (du y3 a1.length) <|
  lt (at_ a1 y3) fun x8 =>
  lt (Go.Lib.indexByte xmla_k1 x8) fun x10 =>
  bif decide (x10 < 0) then
    some false
  else
    grd (okI (y3 + 1)) <|
    rec4 (y3 + 1)
else
  lC
def jY (a1 : List UInt8) (n : Nat) : Int → Option Bool :=
  loop (fun rec x => jZ a1 rec x) n
def py (F : Nat) (a1 : List UInt8) : Option Bool :=
jY a1 F 0
def pK (F : Nat) (a1 : List UInt8) : Option Bool :=
fq ((!decide (a1 = ([] : List UInt8))) && (decide ((a1.length : Int) ≤ 60))) (kE 1 a1.length) <|
lt (to_ a1 1) fun x6 =>
fq ((!decide (a1 = ([] : List UInt8))) && (decide ((a1.length : Int) ≤ 60))) (okS xmla_k2.length) <|
lt (Go.Lib.contains xmla_k2 x6) fun x9 =>
fq (((!decide (a1 = ([] : List UInt8))) && (decide ((a1.length : Int) ≤ 60))) && x9) (okS a1.length) <|
fq (((!decide (a1 = ([] : List UInt8))) && (decide ((a1.length : Int) ≤ 60))) && x9) (okS xmla_k1.length) <|
fq (((!decide (a1 = ([] : List UInt8))) && (decide ((a1.length : Int) ≤ 60))) && x9) (ja xmla_k1) <|
lt (Go.Lib.trimS a1 xmla_k1) fun x15 =>
lz ((((!decide (a1 = ([] : List UInt8))) && (decide ((a1.length : Int) ≤ 60))) && x9) && (decide (x15 = ([] : List UInt8)))) (py F a1) fun x18 =>
some (((((!decide (a1 = ([] : List UInt8))) && (decide ((a1.length : Int) ≤ 60))) && x9) && (decide (x15 = ([] : List UInt8)))) && x18)
def cI (F : Nat) (a1 : Bool) : Option (Res Unit) :=
bif !a1 then
  some (Res.pan 2)
else
  some (Res.ok ())
def fh (F : Nat) (a2 : List UInt8) (a3 : List (List UInt8)) (a5 : Int) (a6 : List (Int × (List UInt8) × (List UInt8) × List ((List UInt8) × List UInt8))) (a8 : List UInt8) : Option (Bool × (List UInt8)) :=
lt (Go.Lib.trimPrefix a2 a8, Go.Lib.hasPrefix a2 a8) fun x11 =>
some (x11.2, x11.1)
def iM (F : Nat) (a2 : List UInt8) (a3 : List (List UInt8)) (a5 : Int) (a6 : List (Int × (List UInt8) × (List UInt8) × List ((List UInt8) × List UInt8))) (a8 : List UInt8) : Option (Res ((List UInt8) × (List UInt8))) :=
grd (okS a2.length) <|
lt (Go.Lib.cut a2 a8) fun x12 =>
eI (cI F x12.2.2) fun x14 =>
some (Res.ok (x12.1, x12.2.1))
def kR (F : Nat) (a2 : List UInt8) (a3 : List (List UInt8)) (a5 : Int) (a6 : List (Int × (List UInt8) × (List UInt8) × List ((List UInt8) × List UInt8))) : Option (Bool × (List UInt8)) :=
grd (okS ([9, 10, 13, 32] : List UInt8).length) <|
grd (ja ([9, 10, 13, 32] : List UInt8)) <|
lt (Go.Lib.trimLeftS a2 ([9, 10, 13, 32] : List UInt8)) fun x12 =>
some (decide ((x12.length : Int) < (a2.length : Int)), x12)
def jB (F : Nat) (a2 : List UInt8) (y21 : Int) : Option (Res ((List UInt8) × (List UInt8))) :=
grd (kE y21 a2.length) <|
lt (to_ a2 y21) fun x24 =>
bnd (pK F x24) fun x26 =>
eI (cI F x26) fun x28 =>
grd (kE y21 a2.length) <|
lt (cY a2 y21) fun x32 =>
some (Res.ok (x24, x32))
def lc (F : Nat) (a2 : List UInt8) (rec11 : Int → Option (Res ((List UInt8) × (List UInt8)))) (y10 : Int) : Option (Res ((List UInt8) × (List UInt8))) :=
fq (decide (y10 < (a2.length : Int))) (du y10 a2.length) <|
lt (at_ a2 y10) fun x15 =>
lt (Go.Lib.indexByte xmla_k1 x15) fun x17 =>
bif (decide (y10 < (a2.length : Int))) && (decide (0 ≤ x17)) then
  grd (okI (y10 + 1)) <|
  rec11 (y10 + 1)
else
  jB F a2 y10
def lb (F : Nat) (a2 : List UInt8) (n : Nat) : Int → Option (Res ((List UInt8) × (List UInt8))) :=
  loop (fun rec x => lc F a2 rec x) n
def lV (F : Nat) (a2 : List UInt8) (a3 : List (List UInt8)) (a5 : Int) (a6 : List (Int × (List UInt8) × (List UInt8) × List ((List UInt8) × List UInt8))) : Option (Res ((List UInt8) × (List UInt8))) :=
lb F a2 F 0
def iX (F : Nat) (a1 : List UInt8) : Option (Res ((List UInt8))) :=
fv (ll F a1) fun x3 x4 =>
eI (cI F (decide (x4 = 0))) fun x6 =>
some (Res.ok x3)
def og (F : Nat) (a2 : List UInt8) (a3 : List (List UInt8)) (a5 : Int) (a6 : List (Int × (List UInt8) × (List UInt8) × List ((List UInt8) × List UInt8))) (a8 : List UInt8) : Option ((List (Int × (List UInt8) × (List UInt8) × List ((List UInt8) × List UInt8)))) :=
bif !decide (a8 = ([] : List UInt8)) then
  grd (cX (a6.length + ([(2, ([] : List UInt8), a8, ([] : List ((List UInt8) × List UInt8)))] : List (Int × (List UInt8) × (List UInt8) × List ((List UInt8) × List UInt8))).length)) <|
  lt (a6 ++ ([(2, ([] : List UInt8), a8, ([] : List ((List UInt8) × List UInt8)))] : List (Int × (List UInt8) × (List UInt8) × List ((List UInt8) × List UInt8)))) fun x14 =>
  some x14
else
  some a6
def lU (F : Nat) (a2 : List UInt8) (a3 : List (List UInt8)) (a5 : Int) (a6 : List (Int × (List UInt8) × (List UInt8) × List ((List UInt8) × List UInt8))) (a8 : List UInt8) : Option (Res ((List (Int × (List UInt8) × (List UInt8) × List ((List UInt8) × List UInt8))) × (List (List UInt8)))) :=
grd (okI ((a3.length : Int) - 1)) <|
fq (decide (0 ≤ (a3.length : Int) - 1)) (du ((a3.length : Int) - 1) a3.length) <|
fq (decide (0 ≤ (a3.length : Int) - 1)) (du ((a3.length : Int) - 1) a3.length) <|
lt (at_ a3 ((a3.length : Int) - 1)) fun x17 =>
eI (cI F ((decide (0 ≤ (a3.length : Int) - 1)) && (decide (x17 = a8)))) fun x19 =>
grd (kE ((a3.length : Int) - 1) a3.length) <|
lt (to_ a3 ((a3.length : Int) - 1)) fun x23 =>
grd (cX (a6.length + ([(1, a8, ([] : List UInt8), ([] : List ((List UInt8) × List UInt8)))] : List (Int × (List UInt8) × (List UInt8) × List ((List UInt8) × List UInt8))).length)) <|
lt (a6 ++ ([(1, a8, ([] : List UInt8), ([] : List ((List UInt8) × List UInt8)))] : List (Int × (List UInt8) × (List UInt8) × List ((List UInt8) × List UInt8)))) fun x27 =>
some (Res.ok (x27, x23))
def fH (F : Nat) (a2 : List UInt8) (a3 : List (List UInt8)) (a5 : Int) (a6 : List (Int × (List UInt8) × (List UInt8) × List ((List UInt8) × List UInt8))) (y15 : Int) : Option (Res (Bool × (List UInt8) × (List (Int × (List UInt8) × (List UInt8) × List ((List UInt8) × List UInt8))))) :=
bif decide (y15 = 0) then
  some (Res.ok (false, a2, a6))
else
  grd (kE y15 a2.length) <|
  lt (to_ a2 y15) fun x19 =>
  grd (kE y15 a2.length) <|
  lt (cY a2 y15) fun x22 =>
  eI (iX F x19) fun x24 =>
  bif decide ((a3.length : Int) = 0) then
    bnd (mA F x19) fun x28 =>
    eI (cI F (decide (x28 = ([] : List UInt8)))) fun x30 =>
    some (Res.ok (true, x22, a6))
  else
    bnd (og F x22 a3 a5 a6 x24) fun x33 =>
    some (Res.ok (true, x22, x33))
def jp (F : Nat) (a2 : List UInt8) (a3 : List (List UInt8)) (a5 : Int) (a6 : List (Int × (List UInt8) × (List UInt8) × List ((List UInt8) × List UInt8))) : Option (Res (Bool × (List UInt8) × (List (Int × (List UInt8) × (List UInt8) × List ((List UInt8) × List UInt8))))) :=
lt (Go.Lib.indexByte a2 60) fun x12 =>
bif decide (x12 < 0) then
  fH F a2 a3 a5 a6 (a2.length : Int)
else
  fH F a2 a3 a5 a6 x12
def jC (F : Nat) (a2 : List UInt8) (a3 : List (List UInt8)) (a5 : Int) (a6 : List (Int × (List UInt8) × (List UInt8) × List ((List UInt8) × List UInt8))) : Option (Res (Bool × (List UInt8))) :=
fv (fh F a2 a3 a5 a6 ([60, 33, 45, 45] : List UInt8)) fun x10 x11 =>
bif !x10 then
  some (Res.ok (false, x11))
else
  eI (iM F x11 a3 a5 a6 ([45, 45, 62] : List UInt8)) fun x14 =>
  some (Res.ok (true, x14.2))
def qL (F : Nat) (a2 : List UInt8) (a3 : List (List UInt8)) (a5 : Int) (a6 : List (Int × (List UInt8) × (List UInt8) × List ((List UInt8) × List UInt8))) : Option (Res (Bool × (List UInt8))) :=
fv (fh F a2 a3 a5 a6 ([60, 63] : List UInt8)) fun x10 x11 =>
bif !x10 then
  some (Res.ok (false, x11))
else
  eI (iM F x11 a3 a5 a6 ([63, 62] : List UInt8)) fun x14 =>
  some (Res.ok (true, x14.2))
def lW (F : Nat) (a2 : List UInt8) (a3 : List (List UInt8)) (a5 : Int) (a6 : List (Int × (List UInt8) × (List UInt8) × List ((List UInt8) × List UInt8))) : Option (Res (Bool × (List UInt8) × (List (Int × (List UInt8) × (List UInt8) × List ((List UInt8) × List UInt8))))) :=
fv (fh F a2 a3 a5 a6 ([60, 33, 91, 67, 68, 65, 84, 65, 91] : List UInt8)) fun x12 x13 =>
bif !x12 then
  some (Res.ok (false, x13, a6))
else
  eI (iM F x13 a3 a5 a6 ([93, 93, 62] : List UInt8)) fun x16 =>
  eI (cI F (decide (0 < (a3.length : Int)))) fun x19 =>
  bnd (og F x16.2 a3 a5 a6 x16.1) fun x22 =>
  some (Res.ok (true, x16.2, x22))
def qK (F : Nat) (a2 : List UInt8) (a3 : List (List UInt8)) (a5 : Int) (a6 : List (Int × (List UInt8) × (List UInt8) × List ((List UInt8) × List UInt8))) : Option (Res (Bool × (List UInt8))) :=
fv (fh F a2 a3 a5 a6 ([60, 33] : List UInt8)) fun x10 x11 =>
bif !x10 then
  some (Res.ok (false, x11))
else
  eI (iM F x11 a3 a5 a6 ([62] : List UInt8)) fun x14 =>
  some (Res.ok (true, x14.2))
def iW (F : Nat) (a2 : List UInt8) (a3 : List (List UInt8)) (a5 : Int) (a6 : List (Int × (List UInt8) × (List UInt8) × List ((List UInt8) × List UInt8))) : Option (Res (Bool × (List UInt8) × (List (Int × (List UInt8) × (List UInt8) × List ((List UInt8) × List UInt8))) × (List (List UInt8)))) :=
fv (fh F a2 a3 a5 a6 ([60, 47] : List UInt8)) fun x14 x15 =>
bif !x14 then
  some (Res.ok (false, x15, a6, a3))
else
  eI (lV F x15 a3 a5 a6) fun x18 =>
  fv (kR F x18.2 a3 a5 a6) fun x21 x22 =>
  fv (fh F x22 a3 a5 a6 ([62] : List UInt8)) fun x24 x25 =>
  eI (cI F x24) fun x27 =>
  eI (lU F x25 a3 a5 a6 x18.1) fun x30 =>
  some (Res.ok (true, x25, x30.1, x30.2))
def iA (F : Nat) (a3 : List (List UInt8)) (a5 : Int) (a6 : List (Int × (List UInt8) × (List UInt8) × List ((List UInt8) × List UInt8))) (x12 : (List UInt8) × (List UInt8)) (y26 : List UInt8) (y27 : List UInt8) : Option (Res ((List UInt8) × (List UInt8) × (List UInt8))) :=
eI (iM F y27 a3 a5 a6 y26) fun x29 =>
grd (okS x29.1.length) <|
lt (Go.Lib.contains x29.1 ([60] : List UInt8)) fun x33 =>
eI (cI F (!x33)) fun x35 =>
eI (iX F x29.1) fun x38 =>
some (Res.ok (x12.1, x38, x29.2))
def mY (F : Nat) (a2 : List UInt8) (a3 : List (List UInt8)) (a5 : Int) (a6 : List (Int × (List UInt8) × (List UInt8) × List ((List UInt8) × List UInt8))) : Option (Res ((List UInt8) × (List UInt8) × (List UInt8))) :=
eI (lV F a2 a3 a5 a6) fun x12 =>
fv (fh F x12.2 a3 a5 a6 ([61, 34] : List UInt8)) fun x16 x17 =>
bif !x16 then
  fv (fh F x17 a3 a5 a6 ([61, 39] : List UInt8)) fun x20 x21 =>
  eI (cI F x20) fun x23 =>
  iA F a3 a5 a6 x12 ([39] : List UInt8) x21
else
  iA F a3 a5 a6 x12 ([34] : List UInt8) x17
def pz (F : Nat) (a1 : List UInt8) (a2 : List UInt8) (a4 : List UInt8) (a5 : List UInt8) : Option Bool :=
some (decide (a4 = a1))
def ij : Option Int :=
some (-1)
def fU (F : Nat) (a1 : List ((List UInt8) × List UInt8)) (a4 : List UInt8) (a5 : List UInt8) (rec8 : Int → Option Int) (y7 : Int) : Option Int :=
bif decide (y7 < (a1.length : Int)) then
  grd (du y7 a1.length) <|
  lt (at_ a1 y7) fun x12 =>
  bnd (pz F x12.1 x12.2 a4 a5) fun x14 =>
  bif x14 then
    some y7
  else
    grd (okI (y7 + 1)) <|
    rec8 (y7 + 1)
else
  ij
def eJ (F : Nat) (a1 : List ((List UInt8) × List UInt8)) (a4 : List UInt8) (a5 : List UInt8) (n : Nat) : Int → Option Int :=
  loop (fun rec x => fU F a1 a4 a5 rec x) n
def kI (F : Nat) (a1 : List ((List UInt8) × List UInt8)) (a4 : List UInt8) (a5 : List UInt8) : Option Int :=
eJ F a1 a4 a5 F 0
def fV (F : Nat) (a1 : List ((List UInt8) × List UInt8)) (a4 : List UInt8) (a5 : List UInt8) : Option Bool :=
bnd (kI F a1 a4 a5) fun x7 =>
some (decide (0 ≤ x7))
def gd (y57 : List UInt8) (y66 : Int) (y97 : List (List UInt8)) (y98 : List (Int × (List UInt8) × (List UInt8) × List ((List UInt8) × List UInt8))) : Option (Res (Bool × (List UInt8) × Int × (List (Int × (List UInt8) × (List UInt8) × List ((List UInt8) × List UInt8))) × (List (List UInt8)))) :=
some (Res.ok (true, y57, y66, y98, y97))
def gW (F : Nat) (x19 : (List UInt8) × (List UInt8)) (y56 : Bool) (y57 : List UInt8) (y66 : Int) (y79 : List (List UInt8)) (y87 : List (Int × (List UInt8) × (List UInt8) × List ((List UInt8) × List UInt8))) : Option (Res (Bool × (List UInt8) × Int × (List (Int × (List UInt8) × (List UInt8) × List ((List UInt8) × List UInt8))) × (List (List UInt8)))) :=
bif y56 then
  eI (lU F y57 y79 y66 y87 x19.1) fun x91 =>
  gd y57 y66 x91.2 x91.1
else
  gd y57 y66 y79 y87
def gV (F : Nat) (a6 : List (Int × (List UInt8) × (List UInt8) × List ((List UInt8) × List UInt8))) (x19 : (List UInt8) × (List UInt8)) (y56 : Bool) (y57 : List UInt8) (y58 : List ((List UInt8) × List UInt8)) (y66 : Int) (y79 : List (List UInt8)) : Option (Res (Bool × (List UInt8) × Int × (List (Int × (List UInt8) × (List UInt8) × List ((List UInt8) × List UInt8))) × (List (List UInt8)))) :=
grd (cX (a6.length + ([(0, x19.1, ([] : List UInt8), y58)] : List (Int × (List UInt8) × (List UInt8) × List ((List UInt8) × List UInt8))).length)) <|
lt (a6 ++ ([(0, x19.1, ([] : List UInt8), y58)] : List (Int × (List UInt8) × (List UInt8) × List ((List UInt8) × List UInt8)))) fun x83 =>
gW F x19 y56 y57 y66 y79 x83
def gS (F : Nat) (a6 : List (Int × (List UInt8) × (List UInt8) × List ((List UInt8) × List UInt8))) (x19 : (List UInt8) × (List UInt8)) (y56 : Bool) (y57 : List UInt8) (y58 : List ((List UInt8) × List UInt8)) (y66 : Int) (y75 : List (List UInt8)) : Option (Res (Bool × (List UInt8) × Int × (List (Int × (List UInt8) × (List UInt8) × List ((List UInt8) × List UInt8))) × (List (List UInt8)))) :=
bif decide (20 < (y75.length : Int)) then
  some (Res.pan 5)
else
  gV F a6 x19 y56 y57 y58 y66 y75
def eV (F : Nat) (a3 : List (List UInt8)) (a6 : List (Int × (List UInt8) × (List UInt8) × List ((List UInt8) × List UInt8))) (x19 : (List UInt8) × (List UInt8)) (y56 : Bool) (y57 : List UInt8) (y58 : List ((List UInt8) × List UInt8)) (y66 : Int) : Option (Res (Bool × (List UInt8) × Int × (List (Int × (List UInt8) × (List UInt8) × List ((List UInt8) × List UInt8))) × (List (List UInt8)))) :=
grd (cX (a3.length + ([x19.1] : List (List UInt8)).length)) <|
lt (a3 ++ ([x19.1] : List (List UInt8))) fun x69 =>
gS F a6 x19 y56 y57 y58 y66 x69
def eU (F : Nat) (a3 : List (List UInt8)) (a5 : Int) (a6 : List (Int × (List UInt8) × (List UInt8) × List ((List UInt8) × List UInt8))) (x19 : (List UInt8) × (List UInt8)) (y56 : Bool) (y57 : List UInt8) (y58 : List ((List UInt8) × List UInt8)) : Option (Res (Bool × (List UInt8) × Int × (List (Int × (List UInt8) × (List UInt8) × List ((List UInt8) × List UInt8))) × (List (List UInt8)))) :=
bif decide ((a3.length : Int) = 0) then
  grd (okI (a5 + 1)) <|
  eI (cI F (decide (a5 + 1 = 1))) fun x63 =>
  eV F a3 a6 x19 y56 y57 y58 (a5 + 1)
else
  eV F a3 a6 x19 y56 y57 y58 a5
def gY (F : Nat) (a3 : List (List UInt8)) (a5 : Int) (a6 : List (Int × (List UInt8) × (List UInt8) × List ((List UInt8) × List UInt8))) (x19 : (List UInt8) × (List UInt8)) (rec27 : ((List ((List UInt8) × List UInt8)) × (List UInt8)) → Option (Res (Bool × (List UInt8) × Int × (List (Int × (List UInt8) × (List UInt8) × List ((List UInt8) × List UInt8))) × (List (List UInt8))))) (y24 : List ((List UInt8) × List UInt8)) (y26 : List UInt8) : Option (Res (Bool × (List UInt8) × Int × (List (Int × (List UInt8) × (List UInt8) × List ((List UInt8) × List UInt8))) × (List (List UInt8)))) :=
fv (kR F y26 a3 a5 a6) fun x29 x30 =>
fv (fh F x30 a3 a5 a6 ([62] : List UInt8)) fun x32 x33 =>
bif x32 then
  eU F a3 a5 a6 x19 false x33 y24
else
  fv (fh F x33 a3 a5 a6 ([47, 62] : List UInt8)) fun x36 x37 =>
  bif x36 then
    eU F a3 a5 a6 x19 true x37 y24
  else
    eI (cI F x29) fun x40 =>
    eI (mY F x37 a3 a5 a6) fun x43 =>
    bnd (fV F y24 x43.1 x43.2.1) fun x47 =>
    eI (cI F (!x47)) fun x49 =>
    grd (cX (y24.length + ([(x43.1, x43.2.1)] : List ((List UInt8) × List UInt8)).length)) <|
    lt (y24 ++ ([(x43.1, x43.2.1)] : List ((List UInt8) × List UInt8))) fun x54 =>
    rec27 (x54, x43.2.2)
def gX (F : Nat) (a3 : List (List UInt8)) (a5 : Int) (a6 : List (Int × (List UInt8) × (List UInt8) × List ((List UInt8) × List UInt8))) (x19 : (List UInt8) × (List UInt8)) (n : Nat) : ((List ((List UInt8) × List UInt8)) × (List UInt8)) → Option (Res (Bool × (List UInt8) × Int × (List (Int × (List UInt8) × (List UInt8) × List ((List UInt8) × List UInt8))) × (List (List UInt8)))) :=
  loop (fun rec x => gY F a3 a5 a6 x19 rec x.1 x.2) n
def iz (F : Nat) (a2 : List UInt8) (a3 : List (List UInt8)) (a5 : Int) (a6 : List (Int × (List UInt8) × (List UInt8) × List ((List UInt8) × List UInt8))) : Option (Res (Bool × (List UInt8) × Int × (List (Int × (List UInt8) × (List UInt8) × List ((List UInt8) × List UInt8))) × (List (List UInt8)))) :=
fv (fh F a2 a3 a5 a6 ([60] : List UInt8)) fun x15 x16 =>
bif !x15 then
  some (Res.ok (false, x16, a5, a6, a3))
else
  eI (lV F x16 a3 a5 a6) fun x19 =>
  gX F a3 a5 a6 x19 F ([], x19.2)
def mX (F : Nat) (a2 : List UInt8) (a3 : List (List UInt8)) (a5 : Int) (a6 : List (Int × (List UInt8) × (List UInt8) × List ((List UInt8) × List UInt8))) : Option (Res ((List UInt8) × Int × (List (Int × (List UInt8) × (List UInt8) × List ((List UInt8) × List UInt8))) × (List (List UInt8)))) :=
eI (jp F a2 a3 a5 a6) fun x14 =>
bif x14.1 then
  some (Res.ok (x14.2.1, a5, x14.2.2, a3))
else
  eI (jC F x14.2.1 a3 a5 x14.2.2) fun x19 =>
  bif x19.1 then
    some (Res.ok (x19.2, a5, x14.2.2, a3))
  else
    eI (qL F x19.2 a3 a5 x14.2.2) fun x23 =>
    bif x23.1 then
      some (Res.ok (x23.2, a5, x14.2.2, a3))
    else
      eI (lW F x23.2 a3 a5 x14.2.2) fun x27 =>
      bif x27.1 then
        some (Res.ok (x27.2.1, a5, x27.2.2, a3))
      else
        eI (qK F x27.2.1 a3 a5 x27.2.2) fun x32 =>
        bif x32.1 then
          some (Res.ok (x32.2, a5, x27.2.2, a3))
        else
          eI (iW F x32.2 a3 a5 x27.2.2) fun x36 =>
          bif x36.1 then
            some (Res.ok (x36.2.1, a5, x36.2.2.1, x36.2.2.2))
          else
            eI (iz F x36.2.1 x36.2.2.2 a5 x36.2.2.1) fun x42 =>
            bif x42.1 then
              some (Res.ok (x42.2.1, x42.2.2.1, x42.2.2.2.1, x42.2.2.2.2))
            else
              some (Res.ok (x42.2.1, x42.2.2.1, x42.2.2.2.1, x42.2.2.2.2))
def jf (F : Nat) (y26 : List UInt8) (y28 : List (List UInt8)) (y29 : Int) (y30 : List (Int × (List UInt8) × (List UInt8) × List ((List UInt8) × List UInt8))) : Option ((List (Int × (List UInt8) × (List UInt8) × List ((List UInt8) × List UInt8))) × Int) :=
rc (cI F ((decide ((y28.length : Int) = 0)) && (decide (0 < y29)))) (fun p36 =>
  some ([], p36)) fun x34 =>
some (y30, 0)
def jh (F : Nat) (rec17 : ((List UInt8) × (List (List UInt8)) × Int × (List (Int × (List UInt8) × (List UInt8) × List ((List UInt8) × List UInt8)))) → Option ((List (Int × (List UInt8) × (List UInt8) × List ((List UInt8) × List UInt8))) × Int)) (y11 : List UInt8) (y13 : List (List UInt8)) (y14 : Int) (y15 : List (Int × (List UInt8) × (List UInt8) × List ((List UInt8) × List UInt8))) : Option ((List (Int × (List UInt8) × (List UInt8) × List ((List UInt8) × List UInt8))) × Int) :=
bif !decide (y11 = ([] : List UInt8)) then
  rc (mX F y11 y13 y14 y15) (fun p22 =>
    some ([], p22)) fun x20 =>
  rec17 (x20.1, x20.2.2.2, x20.2.1, x20.2.2.1)
else
  jf F y11 y13 y14 y15
def jg (F : Nat) (n : Nat) : ((List UInt8) × (List (List UInt8)) × Int × (List (Int × (List UInt8) × (List UInt8) × List ((List UInt8) × List UInt8)))) → Option ((List (Int × (List UInt8) × (List UInt8) × List ((List UInt8) × List UInt8))) × Int) :=
  loop (fun rec x => jh F rec x.1 x.2.1 x.2.2.1 x.2.2.2) n
def mo (F : Nat) (a1 : List UInt8) : Option ((List (Int × (List UInt8) × (List UInt8) × List ((List UInt8) × List UInt8))) × Int) :=
bif decide (100000 < (a1.length : Int)) then
  some ([], 4)
else
  jg F F (a1, ([] : List (List UInt8)), 0, [])
end Go.Pv
namespace Go.Proofs.YtkbfjepffpddfaaGreatDoor
open Go.RowKit Go.Av Go.Pv
theorem tX : ∀ (args : Array Value) (w : World), (callFunc 18 args).run Tryz.prog w = .ok (.enter 18 args) w := fun _ _ => by kernel_rfl
theorem qj : ∀ (args : Array Value) (w : World), (callFunc 20 args).run Tryz.prog w = .ok (.enter 20 args) w := fun _ _ => by kernel_rfl
theorem tW : ∀ (args : Array Value) (w : World), (callFunc 21 args).run Tryz.prog w = .ok (.enter 21 args) w := fun _ _ => by kernel_rfl
theorem bW : ∀ (args : Array Value) (w : World), (callFunc 22 args).run Tryz.prog w = .ok (.enter 22 args) w := fun _ _ => by kernel_rfl
theorem tV : ∀ (args : Array Value) (w : World), (callFunc 31 args).run Tryz.prog w = .ok (.enter 31 args) w := fun _ _ => by kernel_rfl
theorem tU : ∀ (args : Array Value) (w : World), (callFunc 32 args).run Tryz.prog w = .ok (.enter 32 args) w := fun _ _ => by kernel_rfl
theorem tS : ∀ (args : Array Value) (w : World), (callFunc 33 args).run Tryz.prog w = .ok (.enter 33 args) w := fun _ _ => by kernel_rfl
theorem tR : ∀ (args : Array Value) (w : World), (callFunc 34 args).run Tryz.prog w = .ok (.enter 34 args) w := fun _ _ => by kernel_rfl
theorem tQ : ∀ (args : Array Value) (w : World), (callFunc 35 args).run Tryz.prog w = .ok (.enter 35 args) w := fun _ _ => by kernel_rfl
theorem tP : ∀ (args : Array Value) (w : World), (callFunc 36 args).run Tryz.prog w = .ok (.enter 36 args) w := fun _ _ => by kernel_rfl
theorem tN : ∀ (args : Array Value) (w : World), (callFunc 37 args).run Tryz.prog w = .ok (.enter 37 args) w := fun _ _ => by kernel_rfl
theorem qi : ∀ (args : Array Value) (w : World), (callFunc 40 args).run Tryz.prog w = .ok (.enter 40 args) w := fun _ _ => by kernel_rfl
theorem qh : ∀ (args : Array Value) (w : World), (callFunc 44 args).run Tryz.prog w = .ok (.enter 44 args) w := fun _ _ => by kernel_rfl
theorem nT : ∀ (args : Array Value) (w : World), (callFunc 46 args).run Tryz.prog w = .ok (.enter 46 args) w := fun _ _ => by kernel_rfl
theorem tM : ∀ (args : Array Value) (w : World), (callFunc 47 args).run Tryz.prog w = .ok (.enter 47 args) w := fun _ _ => by kernel_rfl
theorem eu : ∀ (args : Array Value) (w : World), (callFunc 48 args).run Tryz.prog w = .ok (.enter 48 args) w := fun _ _ => by kernel_rfl
theorem gr : ∀ (args : Array Value) (w : World), (callFunc 49 args).run Tryz.prog w = .ok (.enter 49 args) w := fun _ _ => by kernel_rfl
theorem kW : ∀ (args : Array Value) (w : World), (callFunc 50 args).run Tryz.prog w = .ok (.enter 50 args) w := fun _ _ => by kernel_rfl
theorem tL : ∀ (args : Array Value) (w : World), (callFunc 51 args).run Tryz.prog w = .ok (.enter 51 args) w := fun _ _ => by kernel_rfl
theorem nS : ∀ (args : Array Value) (w : World), (callFunc 52 args).run Tryz.prog w = .ok (.enter 52 args) w := fun _ _ => by kernel_rfl
theorem tK : ∀ (args : Array Value) (w : World), (callFunc 53 args).run Tryz.prog w = .ok (.enter 53 args) w := fun _ _ => by kernel_rfl
theorem tJ : ∀ (args : Array Value) (w : World), (callFunc 54 args).run Tryz.prog w = .ok (.enter 54 args) w := fun _ _ => by kernel_rfl
theorem yZ : ∀ (args : Array Value) (w : World), (callFunc 55 args).run Tryz.prog w = .ok (.enter 55 args) w := fun _ _ => by kernel_rfl
theorem yX : ∀ (args : Array Value) (w : World), (callFunc 60 args).run Tryz.prog w = .ok (.enter 60 args) w := fun _ _ => by kernel_rfl
theorem yW : ∀ (args : Array Value) (w : World), (callFunc 61 args).run Tryz.prog w = .ok (.enter 61 args) w := fun _ _ => by kernel_rfl
theorem yV : ∀ (args : Array Value) (w : World), (callFunc 62 args).run Tryz.prog w = .ok (.enter 62 args) w := fun _ _ => by kernel_rfl
theorem tH : ∀ (args : Array Value) (w : World), (callFunc 63 args).run Tryz.prog w = .ok (.enter 63 args) w := fun _ _ => by kernel_rfl
theorem yU : ∀ (args : Array Value) (w : World), (callFunc 64 args).run Tryz.prog w = .ok (.enter 64 args) w := fun _ _ => by kernel_rfl
theorem yT : ∀ (args : Array Value) (w : World), (callFunc 65 args).run Tryz.prog w = .ok (.enter 65 args) w := fun _ _ => by kernel_rfl
theorem yQ : ∀ (args : Array Value) (w : World), (callFunc 73 args).run Tryz.prog w = .ok (.enter 73 args) w := fun _ _ => by kernel_rfl
theorem yP : ∀ (args : Array Value) (w : World), (callFunc 74 args).run Tryz.prog w = .ok (.enter 74 args) w := fun _ _ => by kernel_rfl
set_option maxRecDepth 100000 in
set_option maxHeartbeats 1000000 in
theorem wF (F : Nat) (a1 : List UInt8) (r2 : Bool) (H : py F a1 = some r2) : ACalls Tryz.prog 74 [S a1] [] (Ret (B r2) []) := by
 unfold py at H
 refine ap Tryz.func74 rfl rfl ?_;show AW _ _ 15 _ _ _;refine af <| aa ?_;show AR _ _ _ _ _ [0] _;refine za rfl <| ag <| bM (X := Unit) (fun _ => ⟨[], [], []⟩) (fun _ => lC = some r2) ?_ ?_
 ·refine af <| aa ?_;show AR _ _ _ _ _ [0, 1, 2] _;refine zm rfl <| zS rfl (bu ai rfl) <| zm rfl <| ag <| aU <| dp (X := Nat × Int) (fun (n5, y3) => ⟨[(0, S a1), (5, i64 (a1.length : Int)), (6, i64 y3)], [], []⟩) (fun (n5, y3) => jY a1 n5 y3 = some r2) (fun (n5, y3) => n5) (F, 0) H (be [] (.cons (.refl _) (.cons (.refl _) (.cons (.refl _) (.nil _)))) rfl) ?_;rintro ⟨n5, y3⟩ H;obtain ⟨n5, rfl, H⟩ := fA H;replace H : jZ a1 (jY a1 n5) y3 = some r2 := H
  unfold jZ at H
  refine af <| aa ?_;show AR _ _ _ _ _ [0] _;refine zS rfl (cf rfl rfl) <| ag <| af <| ax rfl (fun c6 => ?_) (fun c6 => ?_)
  ·replace H := aX c6 H;refine aC <| af <| aU <| af <| aa ?_;show AR _ _ _ _ _ [0, 1] _;refine zm rfl <| za rfl <| ag <| af ?_;obtain ⟨g7, H⟩ := aM H;obtain ⟨x8, e9, H⟩ := bL H;obtain ⟨x10, e11, H⟩ := bL H;refine aa ?_;show AR _ _ _ _ _ [0, 1, 2, 3, 4] _;refine zm rfl <| zm rfl <| zS rfl (bo ai rfl rfl g7 e9) <| am rfl rfl (aA rfl qh rfl (show ACalls _ _ _ [] (Ret (i64 x10) []) from by subst e11; exact eW xmla_k1 x8) ?_);refine zS rfl (cf rfl rfl) <| ag <| ax rfl (fun c12 => ?_) (fun c12 => ?_)
   ·replace H := aX c12 H;refine af <| aa ?_;show AR _ _ _ _ _ [0] _;refine za rfl <| ag <| aG ?_;obtain rfl := ak H;exact And.intro rfl (Exists.intro _ (Exists.intro _ ⟨aF rfl (.refl _), aB [] rfl, rfl, rfl⟩))
   ·replace H := aY c12 H;refine aC ?_;obtain ⟨g13, H⟩ := aM H;refine aa ?_;show AR _ _ _ _ _ [0, 1] _;refine zS rfl (dl rfl rfl g13) <| zm rfl <| ag ?_;exact Exists.intro (n5, y3 + 1) ⟨H, Nat.lt_succ_self _, be [] (.cons (.refl _) (.cons (.refl _) (.cons (.refl _) (.nil _)))) rfl⟩
  ·replace H := aY c6 H;refine cB ?_;exact Exists.intro () ⟨H, be [] (.nil _) rfl⟩
 rintro _ H;replace H : lC = some r2 := H
 unfold lC at H
 refine af <| aa ?_;show AR _ _ _ _ _ [0] _;refine za rfl <| ag <| aG ?_;obtain rfl := ak H;exact And.intro rfl (Exists.intro _ (Exists.intro _ ⟨aF rfl (.refl _), aB [] rfl, rfl, rfl⟩))
set_option maxRecDepth 100000 in
set_option maxHeartbeats 1000000 in
theorem tc (F : Nat) (a1 : List UInt8) (r2 : Bool) (H : pK F a1 = some r2) : ACalls Tryz.prog 63 [S a1] [] (Ret (B r2) []) := by
 unfold pK at H
 refine ap Tryz.func63 rfl rfl ?_;show AW _ _ 24 _ _ _;refine af <| aa ?_;show AR _ _ _ _ _ [0] _;refine za rfl <| ag <| af ?_;obtain ⟨g5, H⟩ := cP H;obtain ⟨x6, e7, H⟩ := bL H;obtain ⟨g8, H⟩ := cP H;obtain ⟨x9, e10, H⟩ := bL H;obtain ⟨g12, H⟩ := cP H;obtain ⟨g13, H⟩ := cP H;obtain ⟨g14, H⟩ := cP H;obtain ⟨x15, e16, H⟩ := bL H;obtain ⟨x18, e19, H⟩ := fL H;refine aa ?_;show AR _ _ _ _ _ [0, 1, 2, 3, 4, 5, 6, 7, 8, 9, 10, 11, 12, 13, 14, 15, 16, 17, 18, 19, 20, 21] _;refine zm rfl <| zS rfl (nb rfl rfl) <| zm rfl <| aW (l := [7, 8, 9, 10, 11, 12, 13, 14, 15, 16, 17, 18, 19, 20, 21]) 9 (B ((!decide (a1 = ([] : List UInt8))) && (decide ((a1.length : Int) ≤ 60)))) (fun K => ?_) ?_
 ·rcases aj (!decide (a1 = ([] : List UInt8))) with h3 | h3
  ·refine zM h3 rfl <| zU h3 rfl (bu ai rfl) <| zU h3 rfl (fJ rfl rfl) <| zS rfl (aD (av := .v _) rfl h3 rfl) ?_;exact K _ 3 _ (ay (cz h3)) rfl rfl
  ·refine zF h3 rfl <| zF h3 rfl <| zF h3 rfl <| zS rfl (aE (av := .v _) rfl h3 rfl) ?_;exact K _ 3 _ (ay (cA h3)) rfl rfl
 refine zm rfl <| aW (l := [12, 13, 14, 15, 16, 17, 18, 19, 20, 21]) 14 (B (((!decide (a1 = ([] : List UInt8))) && (decide ((a1.length : Int) ≤ 60))) && x9)) (fun K => ?_) ?_
 ·rcases aj ((!decide (a1 = ([] : List UInt8))) && (decide ((a1.length : Int) ≤ 60))) with h4 | h4
  ·refine zM h4 rfl <| zU h4 rfl (ls ai rfl rfl (g5 h4) e7) <| zT h4 rfl (aA rfl qi rfl (show ACalls _ _ _ [] (Ret (B x9) []) from by subst e10; exact gO xmla_k2 x6 (mW (g8 h4))) ?_);refine zS rfl (aD (av := .v _) rfl h4 rfl) ?_;exact K _ 3 _ (ay (cz h4)) rfl rfl
  ·refine zF h4 rfl <| zF h4 rfl <| zF h4 rfl <| zS rfl (aE (av := .v _) rfl h4 rfl) ?_;exact K _ 3 _ (ay (cA h4)) rfl rfl
 refine zm rfl <| aW (l := [17, 18, 19, 20, 21]) 19 (B ((((!decide (a1 = ([] : List UInt8))) && (decide ((a1.length : Int) ≤ 60))) && x9) && (decide (x15 = ([] : List UInt8))))) (fun K => ?_) ?_
 ·rcases aj (((!decide (a1 = ([] : List UInt8))) && (decide ((a1.length : Int) ≤ 60))) && x9) with h11 | h11
  ·refine zM h11 rfl <| zT h11 rfl (aA rfl yQ rfl (show ACalls _ _ _ [] (Ret (S x15) []) from by subst e16; exact lib_Trim a1 xmla_k1 (mW (g12 h11)) (mW (g13 h11)) (g14 h11)) ?_);refine zU h11 rfl (eo rfl rfl) <| zS rfl (aD (av := .v _) rfl h11 rfl) ?_;exact K _ 3 _ (ay (cz h11)) rfl rfl
  ·refine zF h11 rfl <| zF h11 rfl <| zF h11 rfl <| zS rfl (aE (av := .v _) rfl h11 rfl) ?_;exact K _ 3 _ (ay (cA h11)) rfl rfl
 refine zm rfl <| aW (l := [21]) 23 (B (((((!decide (a1 = ([] : List UInt8))) && (decide ((a1.length : Int) ≤ 60))) && x9) && (decide (x15 = ([] : List UInt8)))) && x18)) (fun K => ?_) ?_
 ·rcases aj ((((!decide (a1 = ([] : List UInt8))) && (decide ((a1.length : Int) ≤ 60))) && x9) && (decide (x15 = ([] : List UInt8)))) with h17 | h17
  ·refine zM h17 rfl <| zT h17 rfl (aA rfl yP rfl (wF F a1 x18 (e19 h17)) ?_);refine zS rfl (aD (av := .v _) rfl h17 rfl) ?_;exact K _ 2 _ (ay (cz h17)) rfl rfl
  ·refine zF h17 rfl <| zF h17 rfl <| zS rfl (aE (av := .v _) rfl h17 rfl) ?_;exact K _ 2 _ (ay (cA h17)) rfl rfl
 refine za rfl <| ag <| aG ?_;obtain rfl := ak H;exact And.intro rfl (Exists.intro _ (Exists.intro _ ⟨aF rfl (.refl _), aB [] rfl, rfl, rfl⟩))
set_option maxRecDepth 100000 in
set_option maxHeartbeats 1000000 in
theorem qn (F : Nat) (a1 : Bool) (rv : Res Unit) (H : cI F a1 = some rv) : ACalls Tryz.prog 22 [B a1] [] (jw (fun (r : Unit) => (Ret (.tup []) [])) (fun e => cg (.iface 58 (.agg #[.int .i64 e]))) rv) := by
 unfold cI at H
 refine ap Tryz.func22 rfl rfl ?_;show AW _ _ 6 _ _ _;refine af <| aa ?_;show AR _ _ _ _ _ [0, 1] _;refine zm rfl <| zS rfl (bB rfl) <| ag <| ax rfl (fun c2 => ?_) (fun c2 => ?_)
 ·replace H := aX c2 H;obtain rfl := ak H;refine aa ?_;show AR _ _ _ _ _ [0, 1, 2] _;refine zS rfl (cK (zs := [.int .i64 0]) (ps := [(0, 1)]) (cs := [i64 2]) (by kernel_rfl) rfl rfl) <| zS rfl (bf (a := .agg _) Tryz.underlying58 rfl rfl) <| am rfl rfl (AO.panicT (c := cg (.iface 58 (.agg #[.int .i64 2]))) rfl rfl ?_);exact And.intro rfl (Exists.intro [] ⟨ba _, rfl, rfl⟩)
 ·replace H := aY c2 H;refine aC ?_;obtain rfl := ak H;exact And.intro rfl (Exists.intro _ (Exists.intro _ ⟨bj rfl, aB [] rfl, rfl, rfl⟩))
theorem co (F : Nat) (a1 : Bool) (H : cI F a1 = some (Res.ok ())) : ACalls Tryz.prog 22 [B a1] [] (Ret (.tup []) []) := qn F a1 _ H
theorem bX (F : Nat) (a1 : Bool) (e : Int) (H : cI F a1 = some (Res.pan e)) : ACalls Tryz.prog 22 [B a1] [] (fun ae A' => ae = .pan ((fun e => cg (.iface 58 (.agg #[.int .i64 e]))) e) ∧ A' = []) := qn F a1 _ H
set_option maxRecDepth 100000 in
set_option maxHeartbeats 1000000 in
theorem ep (F : Nat) (o1 : Nat) (a2 : List UInt8) (a3 : List (List UInt8)) (t4 : Nat) (a5 : Int) (a6 : List (Int × (List UInt8) × (List UInt8) × List ((List UInt8) × List UInt8))) (t7 : Nat) (a8 : List UInt8) (r9 : Bool) (r10 : List UInt8) (H : fh F a2 a3 a5 a6 a8 = some (r9, r10)) : ACalls Tryz.prog 48 [.pt o1 0, S a8] [.obj o1 [S a2, .sk t4 a3.length, i64 a5, slE (ab Enc.int (ab Enc.str (ab Enc.str (Enc.sl (ab Enc.str Enc.str))))) a6 (some t7)], .stk t4 (Enc.str.fl a3), .tok t7 43] (fun e A' => e = .ret (B r9) ∧ A' = [.obj o1 [S r10, .sk t4 a3.length, i64 a5, slE (ab Enc.int (ab Enc.str (ab Enc.str (Enc.sl (ab Enc.str Enc.str))))) a6 (some t7)], .stk t4 (Enc.str.fl a3), .tok t7 43]) := by
 unfold fh at H
 refine ap Tryz.func48 rfl rfl ?_;show AW _ _ 21 _ _ _;refine af <| aa ?_;show AR _ _ _ _ _ [0] _;refine za rfl <| ag <| af ?_;obtain ⟨x11, e12, H⟩ := bL H;refine aa ?_;show AR _ _ _ _ _ [0, 1, 2, 3, 4, 5, 6, 7, 8, 9, 10] _;refine zS rfl (ah (av := .pt _ _) rfl) <| zS rfl (ar rfl) <| zS rfl (an (n := 0) (by kernel_rfl) rfl) <| zR rfl (ao (i := 0) ai rfl rfl rfl rfl) <| zm rfl <| am rfl rfl (aA rfl yW rfl (show ACalls _ _ _ [] (Ret (.tup [S x11.1, B x11.2]) []) from by subst e12; exact lR a2 a8) ?_);refine zS rfl (ah (av := .tup _) rfl) <| zS rfl (az (av := .v _) rfl rfl) <| zS rfl (az (av := .v _) rfl rfl) <| za rfl <| za rfl <| ag <| af <| aa ?_;show AR _ _ _ _ _ [0, 1, 2, 3, 4] _;refine zS rfl (ah (av := .pt _ _) rfl) <| zm rfl <| zS rfl (ar rfl) <| zS rfl (an (n := 0) (by kernel_rfl) rfl) <| s0 rfl rfl (aq (i := 0) (c := .v _) (by kernel_rfl) rfl rfl rfl rfl (ac rfl)) <| ag <| af <| aa ?_;show AR _ _ _ _ _ [0, 1] _;refine zm rfl <| za rfl <| ag <| aG ?_;obtain ⟨rfl, rfl⟩ := dx H;exact And.intro rfl (Exists.intro _ (Exists.intro _ ⟨aF rfl (.refl _), aB [0, 0, 0] rfl, rfl, rfl⟩))
set_option maxRecDepth 100000 in
set_option maxHeartbeats 1000000 in
theorem sT (F : Nat) (o1 : Nat) (a2 : List UInt8) (a3 : List (List UInt8)) (t4 : Nat) (a5 : Int) (a6 : List (Int × (List UInt8) × (List UInt8) × List ((List UInt8) × List UInt8))) (t7 : Nat) (a8 : List UInt8) (rv : Res ((List UInt8) × (List UInt8))) (H : iM F a2 a3 a5 a6 a8 = some rv) : ACalls Tryz.prog 49 [.pt o1 0, S a8] [.obj o1 [S a2, .sk t4 a3.length, i64 a5, slE (ab Enc.int (ab Enc.str (ab Enc.str (Enc.sl (ab Enc.str Enc.str))))) a6 (some t7)], .stk t4 (Enc.str.fl a3), .tok t7 43] (jw (fun (r : (List UInt8) × (List UInt8)) => (fun e A' => e = .ret (S r.1) ∧ A' = [.obj o1 [S r.2, .sk t4 a3.length, i64 a5, slE (ab Enc.int (ab Enc.str (ab Enc.str (Enc.sl (ab Enc.str Enc.str))))) a6 (some t7)], .stk t4 (Enc.str.fl a3), .tok t7 43])) (fun e => cg (.iface 58 (.agg #[.int .i64 e]))) rv) := by
 unfold iM at H
 refine ap Tryz.func49 rfl rfl ?_;show AW _ _ 25 _ _ _;refine af <| aa ?_;show AR _ _ _ _ _ [0] _;refine za rfl <| ag <| af ?_;obtain ⟨g11, H⟩ := aM H;obtain ⟨x12, e13, H⟩ := bL H;refine aa ?_;show AR _ _ _ _ _ [0, 1, 2, 3, 4, 5, 6, 7, 8, 9, 10, 11, 12] _;refine zS rfl (ah (av := .pt _ _) rfl) <| zS rfl (ar rfl) <| zS rfl (an (n := 0) (by kernel_rfl) rfl) <| zR rfl (ao (i := 0) ai rfl rfl rfl rfl) <| zm rfl <| am rfl rfl (aA rfl yV rfl (show ACalls _ _ _ [] (Ret (.tup [S x12.1, S x12.2.1, B x12.2.2]) []) from by subst e13; exact lib_Cut a2 a8 (mW g11)) ?_);refine zS rfl (ah (av := .tup _) rfl) <| zS rfl (az (av := .v _) rfl rfl) <| zS rfl (az (av := .v _) rfl rfl) <| zS rfl (az (av := .v _) rfl rfl) <| za rfl <| za rfl <| za rfl <| ag <| af ?_
 rcases Or.symm (cr H) with ⟨p16, e15, H⟩ | ⟨x14, e15, H⟩
 ·subst H;refine aa ?_;show AR _ _ _ _ _ [0, 1] _;refine zm rfl <| am rfl rfl (bb (c := cg (.iface 58 (.agg #[.int .i64 p16]))) [] rfl bW rfl (bX F x12.2.2 p16 e15) rfl ?_);exact And.intro rfl (Exists.intro [] ⟨ba _, rfl, rfl⟩)
 refine aa ?_;show AR _ _ _ _ _ [0, 1] _;refine zm rfl <| am rfl rfl (aA rfl bW rfl (co F x12.2.2 e15) ?_);refine ag <| af <| aa ?_;show AR _ _ _ _ _ [0, 1, 2, 3, 4] _;refine zS rfl (ah (av := .pt _ _) rfl) <| zm rfl <| zS rfl (ar rfl) <| zS rfl (an (n := 0) (by kernel_rfl) rfl) <| s0 rfl rfl (aq (i := 0) (c := .v _) (by kernel_rfl) rfl rfl rfl rfl (ac rfl)) <| ag <| af <| aa ?_;show AR _ _ _ _ _ [0, 1] _;refine zm rfl <| za rfl <| ag <| aG ?_;obtain rfl := ak H;exact And.intro rfl (Exists.intro _ (Exists.intro _ ⟨aF rfl (.refl _), aB [0, 0, 0] rfl, rfl, rfl⟩))
theorem ji (F : Nat) (o1 : Nat) (a2 : List UInt8) (a3 : List (List UInt8)) (t4 : Nat) (a5 : Int) (a6 : List (Int × (List UInt8) × (List UInt8) × List ((List UInt8) × List UInt8))) (t7 : Nat) (a8 : List UInt8) (r9 : List UInt8) (r10 : List UInt8) (H : iM F a2 a3 a5 a6 a8 = some (Res.ok (r9, r10))) : ACalls Tryz.prog 49 [.pt o1 0, S a8] [.obj o1 [S a2, .sk t4 a3.length, i64 a5, slE (ab Enc.int (ab Enc.str (ab Enc.str (Enc.sl (ab Enc.str Enc.str))))) a6 (some t7)], .stk t4 (Enc.str.fl a3), .tok t7 43] (fun e A' => e = .ret (S r9) ∧ A' = [.obj o1 [S r10, .sk t4 a3.length, i64 a5, slE (ab Enc.int (ab Enc.str (ab Enc.str (Enc.sl (ab Enc.str Enc.str))))) a6 (some t7)], .stk t4 (Enc.str.fl a3), .tok t7 43]) := sT F o1 a2 a3 t4 a5 a6 t7 a8 _ H
theorem hH (F : Nat) (o1 : Nat) (a2 : List UInt8) (a3 : List (List UInt8)) (t4 : Nat) (a5 : Int) (a6 : List (Int × (List UInt8) × (List UInt8) × List ((List UInt8) × List UInt8))) (t7 : Nat) (a8 : List UInt8) (e : Int) (H : iM F a2 a3 a5 a6 a8 = some (Res.pan e)) : ACalls Tryz.prog 49 [.pt o1 0, S a8] [.obj o1 [S a2, .sk t4 a3.length, i64 a5, slE (ab Enc.int (ab Enc.str (ab Enc.str (Enc.sl (ab Enc.str Enc.str))))) a6 (some t7)], .stk t4 (Enc.str.fl a3), .tok t7 43] (fun ae A' => ae = .pan ((fun e => cg (.iface 58 (.agg #[.int .i64 e]))) e) ∧ A' = []) := sT F o1 a2 a3 t4 a5 a6 t7 a8 _ H
set_option maxRecDepth 100000 in
set_option maxHeartbeats 1000000 in
theorem qo (F : Nat) (o1 : Nat) (a2 : List UInt8) (a3 : List (List UInt8)) (t4 : Nat) (a5 : Int) (a6 : List (Int × (List UInt8) × (List UInt8) × List ((List UInt8) × List UInt8))) (t7 : Nat) (r8 : Bool) (r9 : List UInt8) (H : kR F a2 a3 a5 a6 = some (r8, r9)) : ACalls Tryz.prog 51 [.pt o1 0] [.obj o1 [S a2, .sk t4 a3.length, i64 a5, slE (ab Enc.int (ab Enc.str (ab Enc.str (Enc.sl (ab Enc.str Enc.str))))) a6 (some t7)], .stk t4 (Enc.str.fl a3), .tok t7 43] (fun e A' => e = .ret (B r8) ∧ A' = [.obj o1 [S r9, .sk t4 a3.length, i64 a5, slE (ab Enc.int (ab Enc.str (ab Enc.str (Enc.sl (ab Enc.str Enc.str))))) a6 (some t7)], .stk t4 (Enc.str.fl a3), .tok t7 43]) := by
 unfold kR at H
 refine ap Tryz.func51 rfl rfl ?_;show AW _ _ 24 _ _ _;refine af <| aa ?_;show AR _ _ _ _ _ [0] _;refine za rfl <| ag <| af <| aa ?_;show AR _ _ _ _ _ [0, 1, 2, 3, 4, 5] _;refine zS rfl (ah (av := .pt _ _) rfl) <| zS rfl (ar rfl) <| zS rfl (an (n := 0) (by kernel_rfl) rfl) <| zR rfl (ao (i := 0) ai rfl rfl rfl rfl) <| zS rfl (bu ai rfl) <| za rfl <| ag <| af ?_;obtain ⟨g10, H⟩ := aM H;obtain ⟨g11, H⟩ := aM H;obtain ⟨x12, e13, H⟩ := bL H;refine aa ?_;show AR _ _ _ _ _ [0, 1, 2, 3, 4, 5, 6, 7, 8] _;refine zS rfl (ah (av := .pt _ _) rfl) <| zS rfl (ah (av := .pt _ _) rfl) <| zS rfl (ar rfl) <| zS rfl (an (n := 0) (by kernel_rfl) rfl) <| zR rfl (ao (i := 0) ai rfl rfl rfl rfl) <| am rfl rfl (aA rfl yU rfl (show ACalls _ _ _ [] (Ret (S x12) []) from by subst e13; exact uD a2 ([9, 10, 13, 32] : List UInt8) (mW g10) g11) ?_);refine zS rfl (ar rfl) <| zS rfl (an (n := 0) (by kernel_rfl) rfl) <| s0 rfl rfl (aq (i := 0) (c := .v _) (by kernel_rfl) rfl rfl rfl rfl (ac rfl)) <| ag <| af <| aa ?_;show AR _ _ _ _ _ [0, 1, 2, 3, 4, 5, 6, 7] _
 refine zS rfl (ah (av := .pt _ _) rfl) <| zS rfl (ar rfl) <| zS rfl (an (n := 0) (by kernel_rfl) rfl) <| zR rfl (ao (i := 0) ai rfl rfl rfl rfl) <| zS rfl (bu ai rfl) <| zm rfl <| zS rfl (cf rfl rfl) <| za rfl <| ag <| aG ?_;obtain ⟨rfl, rfl⟩ := dx H;exact And.intro rfl (Exists.intro _ (Exists.intro _ ⟨aF rfl (.refl _), aB [0, 0, 0] rfl, rfl, rfl⟩))
set_option maxRecDepth 100000 in
set_option maxHeartbeats 1000000 in
theorem sY (F : Nat) (o1 : Nat) (a2 : List UInt8) (a3 : List (List UInt8)) (t4 : Nat) (a5 : Int) (a6 : List (Int × (List UInt8) × (List UInt8) × List ((List UInt8) × List UInt8))) (t7 : Nat) (rv : Res ((List UInt8) × (List UInt8))) (H : lV F a2 a3 a5 a6 = some rv) : ACalls Tryz.prog 50 [.pt o1 0] [.obj o1 [S a2, .sk t4 a3.length, i64 a5, slE (ab Enc.int (ab Enc.str (ab Enc.str (Enc.sl (ab Enc.str Enc.str))))) a6 (some t7)], .stk t4 (Enc.str.fl a3), .tok t7 43] (jw (fun (r : (List UInt8) × (List UInt8)) => (fun e A' => e = .ret (S r.1) ∧ A' = [.obj o1 [S r.2, .sk t4 a3.length, i64 a5, slE (ab Enc.int (ab Enc.str (ab Enc.str (Enc.sl (ab Enc.str Enc.str))))) a6 (some t7)], .stk t4 (Enc.str.fl a3), .tok t7 43])) (fun e => cg (.iface 58 (.agg #[.int .i64 e]))) rv) := by
 unfold lV at H
 refine ap Tryz.func50 rfl rfl ?_;show AW _ _ 43 _ _ _;refine af <| aa ?_;show AR _ _ _ _ _ [0] _;refine za rfl <| ag <| af <| aa ?_;show AR _ _ _ _ _ [0] _;refine za rfl <| ag <| bM (X := Int) (fun y21 => ⟨[(0, .pt o1 0), (3, i64 y21)], [], [.obj o1 [S a2, .sk t4 a3.length, i64 a5, slE (ab Enc.int (ab Enc.str (ab Enc.str (Enc.sl (ab Enc.str Enc.str))))) a6 (some t7)], .stk t4 (Enc.str.fl a3), .tok t7 43]⟩) (fun y21 => jB F a2 y21 = some rv) ?_ ?_
 ·refine aU <| dp (X := Nat × Int) (fun (n12, y10) => ⟨[(0, .pt o1 0), (3, i64 y10)], [], [.obj o1 [S a2, .sk t4 a3.length, i64 a5, slE (ab Enc.int (ab Enc.str (ab Enc.str (Enc.sl (ab Enc.str Enc.str))))) a6 (some t7)], .stk t4 (Enc.str.fl a3), .tok t7 43]⟩) (fun (n12, y10) => lb F a2 n12 y10 = some rv) (fun (n12, y10) => n12) (F, 0) H (be [0, 0, 0] (.cons (.refl _) (.cons (.refl _) (.nil _))) rfl) ?_;rintro ⟨n12, y10⟩ H;obtain ⟨n12, rfl, H⟩ := fA H;replace H : lc F a2 (lb F a2 n12) y10 = some rv := H
  unfold lc at H
  refine af <| af ?_;obtain ⟨g14, H⟩ := cP H;obtain ⟨x15, e16, H⟩ := bL H;obtain ⟨x17, e18, H⟩ := bL H;refine aa ?_;show AR _ _ _ _ _ [0, 1, 2, 3, 4, 5, 6, 7, 8, 9, 10, 11, 12, 13, 14, 15, 16] _;refine zm rfl <| zS rfl (ah (av := .pt _ _) rfl) <| zS rfl (ar rfl) <| zS rfl (an (n := 0) (by kernel_rfl) rfl) <| zR rfl (ao (i := 0) ai rfl rfl rfl rfl) <| zS rfl (bu ai rfl) <| zS rfl (cf rfl rfl) <| zm rfl <| aW (l := []) 21 (B ((decide (y10 < (a2.length : Int))) && (decide (0 ≤ x17)))) (fun K => ?_) ?_
  ·rcases aj (decide (y10 < (a2.length : Int))) with h13 | h13
   ·refine zU h13 rfl (ah (av := .pt _ _) rfl) <| zU h13 rfl (ar rfl) <| zU h13 rfl (an (n := 0) (by kernel_rfl) rfl) <| zT h13 rfl (cn rfl rfl (ao (i := 0) ai rfl rfl rfl rfl) ?_);refine zM h13 rfl <| zU h13 rfl (bo ai rfl rfl (g14 h13) e16) <| zT h13 rfl (aA rfl qh rfl (show ACalls _ _ _ [] (Ret (i64 x17) []) from by subst e18; exact eW xmla_k1 x15) ?_);refine zU h13 rfl (fy rfl rfl) <| zS rfl (aD (av := .v _) rfl h13 rfl) ?_;exact K _ 8 _ (ay (cz h13)) rfl rfl
   ·refine zF h13 rfl <| zF h13 rfl <| zF h13 rfl <| zF h13 rfl <| zF h13 rfl <| zF h13 rfl <| zF h13 rfl <| zF h13 rfl <| zS rfl (aE (av := .v _) rfl h13 rfl) ?_;exact K _ 8 _ (ay (cA h13)) rfl rfl
  refine ag <| ax rfl (fun c19 => ?_) (fun c19 => ?_)
  ·replace H := aX c19 H;refine aC <| aU ?_;obtain ⟨g20, H⟩ := aM H;refine aa ?_;show AR _ _ _ _ _ [0, 1, 2] _;refine zm rfl <| zS rfl (dl rfl rfl g20) <| za rfl <| ag ?_;exact Exists.intro (n12, y10 + 1) ⟨H, Nat.lt_succ_self _, be [0, 0, 0] (.cons (.refl _) (.cons (.refl _) (.nil _))) rfl⟩
  ·replace H := aY c19 H;refine cB ?_;exact Exists.intro y10 ⟨H, be [0, 0, 0] (.cons (.refl _) (.cons (.refl _) (.nil _))) rfl⟩
 rintro y21 H;replace H : jB F a2 y21 = some rv := H
 unfold jB at H
 refine af ?_;obtain ⟨g23, H⟩ := aM H;obtain ⟨x24, e25, H⟩ := bL H;refine aa ?_;show AR _ _ _ _ _ [0, 1, 2, 3, 4, 5, 6] _;refine zS rfl (ah (av := .pt _ _) rfl) <| zS rfl (ar rfl) <| zS rfl (an (n := 0) (by kernel_rfl) rfl) <| zR rfl (ao (i := 0) ai rfl rfl rfl rfl) <| zm rfl <| zS rfl (ls ai rfl rfl g23 e25) <| za rfl <| ag <| af ?_;obtain ⟨x26, e27, H⟩ := bU H
 rcases Or.symm (cr H) with ⟨p30, e29, H⟩ | ⟨x28, e29, H⟩
 ·subst H;refine aa ?_;show AR _ _ _ _ _ [0, 1, 2] _;refine zm rfl <| am rfl rfl (aA rfl tH rfl (tc F x24 x26 e27) ?_);refine am rfl rfl (bb (c := cg (.iface 58 (.agg #[.int .i64 p30]))) [] rfl bW rfl (bX F x26 p30 e29) rfl ?_);exact And.intro rfl (Exists.intro [] ⟨ba _, rfl, rfl⟩)
 refine aa ?_;show AR _ _ _ _ _ [0, 1, 2] _;refine zm rfl <| am rfl rfl (aA rfl tH rfl (tc F x24 x26 e27) ?_);refine am rfl rfl (aA rfl bW rfl (co F x26 e29) ?_);refine ag <| af ?_;obtain ⟨g31, H⟩ := aM H;obtain ⟨x32, e33, H⟩ := bL H;refine aa ?_;show AR _ _ _ _ _ [0, 1, 2, 3, 4, 5, 6, 7, 8, 9] _;refine zS rfl (ah (av := .pt _ _) rfl) <| zS rfl (ah (av := .pt _ _) rfl) <| zS rfl (ar rfl) <| zS rfl (an (n := 0) (by kernel_rfl) rfl) <| zR rfl (ao (i := 0) ai rfl rfl rfl rfl) <| zm rfl <| zS rfl (eF ai rfl rfl g31 e33) <| zS rfl (ar rfl) <| zS rfl (an (n := 0) (by kernel_rfl) rfl) <| s0 rfl rfl (aq (i := 0) (c := .v _) (by kernel_rfl) rfl rfl rfl rfl (ac rfl)) <| ag <| af <| aa ?_;show AR _ _ _ _ _ [0, 1] _;refine zm rfl <| za rfl <| ag <| aG ?_;obtain rfl := ak H;exact And.intro rfl (Exists.intro _ (Exists.intro _ ⟨aF rfl (.refl _), aB [0, 0, 0] rfl, rfl, rfl⟩))
theorem mD (F : Nat) (o1 : Nat) (a2 : List UInt8) (a3 : List (List UInt8)) (t4 : Nat) (a5 : Int) (a6 : List (Int × (List UInt8) × (List UInt8) × List ((List UInt8) × List UInt8))) (t7 : Nat) (r8 : List UInt8) (r9 : List UInt8) (H : lV F a2 a3 a5 a6 = some (Res.ok (r8, r9))) : ACalls Tryz.prog 50 [.pt o1 0] [.obj o1 [S a2, .sk t4 a3.length, i64 a5, slE (ab Enc.int (ab Enc.str (ab Enc.str (Enc.sl (ab Enc.str Enc.str))))) a6 (some t7)], .stk t4 (Enc.str.fl a3), .tok t7 43] (fun e A' => e = .ret (S r8) ∧ A' = [.obj o1 [S r9, .sk t4 a3.length, i64 a5, slE (ab Enc.int (ab Enc.str (ab Enc.str (Enc.sl (ab Enc.str Enc.str))))) a6 (some t7)], .stk t4 (Enc.str.fl a3), .tok t7 43]) := sY F o1 a2 a3 t4 a5 a6 t7 _ H
theorem lN (F : Nat) (o1 : Nat) (a2 : List UInt8) (a3 : List (List UInt8)) (t4 : Nat) (a5 : Int) (a6 : List (Int × (List UInt8) × (List UInt8) × List ((List UInt8) × List UInt8))) (t7 : Nat) (e : Int) (H : lV F a2 a3 a5 a6 = some (Res.pan e)) : ACalls Tryz.prog 50 [.pt o1 0] [.obj o1 [S a2, .sk t4 a3.length, i64 a5, slE (ab Enc.int (ab Enc.str (ab Enc.str (Enc.sl (ab Enc.str Enc.str))))) a6 (some t7)], .stk t4 (Enc.str.fl a3), .tok t7 43] (fun ae A' => ae = .pan ((fun e => cg (.iface 58 (.agg #[.int .i64 e]))) e) ∧ A' = []) := sY F o1 a2 a3 t4 a5 a6 t7 _ H
set_option maxRecDepth 100000 in
set_option maxHeartbeats 1000000 in
theorem qq (F : Nat) (a1 : List UInt8) (rv : Res ((List UInt8))) (H : iX F a1 = some rv) : ACalls Tryz.prog 46 [S a1] [] (jw (fun (r : (List UInt8)) => (Ret (S r) [])) (fun e => cg (.iface 58 (.agg #[.int .i64 e]))) rv) := by
 unfold iX at H
 refine ap Tryz.func46 rfl rfl ?_;show AW _ _ 14 _ _ _;refine af <| aa ?_;show AR _ _ _ _ _ [0] _;refine za rfl <| ag <| af ?_;obtain ⟨x3, x4, e5, H⟩ := cF H;refine aa ?_;show AR _ _ _ _ _ [0, 1, 2, 3, 4, 5, 6] _;refine zm rfl <| am rfl rfl (aA rfl yX rfl (uu F a1 x3 x4 e5) ?_);refine zS rfl (ah (av := .tup _) rfl) <| zS rfl (az (av := .v _) rfl rfl) <| zS rfl (az (av := .v _) rfl rfl) <| za rfl <| za rfl <| ag <| af ?_
 rcases Or.symm (cr H) with ⟨p8, e7, H⟩ | ⟨x6, e7, H⟩
 ·subst H;refine aa ?_;show AR _ _ _ _ _ [0, 1, 2] _;refine zm rfl <| zS rfl (bJ rfl rfl) <| am rfl rfl (bb (c := cg (.iface 58 (.agg #[.int .i64 p8]))) [] rfl bW rfl (bX F (decide (x4 = 0)) p8 e7) rfl ?_);exact And.intro rfl (Exists.intro [] ⟨ba _, rfl, rfl⟩)
 refine aa ?_;show AR _ _ _ _ _ [0, 1, 2] _;refine zm rfl <| zS rfl (bJ rfl rfl) <| am rfl rfl (aA rfl bW rfl (co F (decide (x4 = 0)) e7) ?_);refine ag <| af <| aa ?_;show AR _ _ _ _ _ [0, 1] _;refine zm rfl <| za rfl <| ag <| aG ?_;obtain rfl := ak H;exact And.intro rfl (Exists.intro _ (Exists.intro _ ⟨aF rfl (.refl _), aB [] rfl, rfl, rfl⟩))
theorem nq (F : Nat) (a1 : List UInt8) (r2 : List UInt8) (H : iX F a1 = some (Res.ok r2)) : ACalls Tryz.prog 46 [S a1] [] (Ret (S r2) []) := qq F a1 _ H
theorem mN (F : Nat) (a1 : List UInt8) (e : Int) (H : iX F a1 = some (Res.pan e)) : ACalls Tryz.prog 46 [S a1] [] (fun ae A' => ae = .pan ((fun e => cg (.iface 58 (.agg #[.int .i64 e]))) e) ∧ A' = []) := qq F a1 _ H
set_option maxRecDepth 100000 in
set_option maxHeartbeats 1000000 in
theorem sU (F : Nat) (o1 : Nat) (a2 : List UInt8) (a3 : List (List UInt8)) (t4 : Nat) (a5 : Int) (a6 : List (Int × (List UInt8) × (List UInt8) × List ((List UInt8) × List UInt8))) (t7 : Nat) (a8 : List UInt8) (r9 : List (Int × (List UInt8) × (List UInt8) × List ((List UInt8) × List UInt8))) (H : og F a2 a3 a5 a6 a8 = some r9) : ACalls Tryz.prog 47 [.pt o1 0, S a8] [.obj o1 [S a2, .sk t4 a3.length, i64 a5, slE (ab Enc.int (ab Enc.str (ab Enc.str (Enc.sl (ab Enc.str Enc.str))))) a6 (some t7)], .stk t4 (Enc.str.fl a3), .tok t7 43] (fun e A' => e = .ret (.tup []) ∧ ∃ t10, A' = [.obj o1 [S a2, .sk t4 a3.length, i64 a5, slE (ab Enc.int (ab Enc.str (ab Enc.str (Enc.sl (ab Enc.str Enc.str))))) r9 (some t10)], .stk t4 (Enc.str.fl a3), .tok t10 43]) := by
 unfold og at H
 refine ap Tryz.func47 rfl rfl ?_;show AW _ _ 17 _ _ _;refine af <| aa ?_;show AR _ _ _ _ _ [0, 1] _;refine zm rfl <| zS rfl (nb rfl rfl) <| ag <| ax rfl (fun c11 => ?_) (fun c11 => ?_)
 ·replace H := aX c11 H;obtain ⟨g13, H⟩ := aM H;obtain ⟨x14, e15, H⟩ := bL H;refine aa ?_;show AR _ _ _ _ _ [0, 1, 2, 3, 4, 5, 6, 7, 8, 9, 10, 11] _;refine zS rfl (ah (av := .pt _ _) rfl) <| zS rfl (ah (av := .pt _ _) rfl) <| zS rfl (ar rfl) <| zS rfl (an (n := 3) (by kernel_rfl) rfl) <| zR rfl (ao (i := 0) aO rfl rfl rfl rfl) <| zm rfl <| zS rfl (cK (zs := [.int .i64 0, .string ⟨#[]⟩, .string ⟨#[]⟩, .slice none 0 0]) (ps := [(0, 1), (1, 1), (2, 1), (3, 1)]) (cs := [i64 2, S ([] : List UInt8), S a8, eH]) (by kernel_rfl) rfl rfl) <| zR rfl (jH (ds := [i64 2, S ([] : List UInt8), S a8, slE (ab Enc.str Enc.str) ([] : List ((List UInt8) × List UInt8)) none]) 12 (.cons (.refl _) (.cons (.refl _) (.cons (.refl _) (.cons (.nil _) (.nil))))) (hc := rfl) <| dA (E := (ab Enc.int (ab Enc.str (ab Enc.str (Enc.sl (ab Enc.str Enc.str)))))) (bytes := 64) (zs := [.int .i64 0, .string ⟨#[]⟩, .string ⟨#[]⟩, .slice none 0 0]) (l := ([(2, ([] : List UInt8), a8, ([] : List ((List UInt8) × List UInt8)))] : List (Int × (List UInt8) × (List UInt8) × List ((List UInt8) × List UInt8)))) aO (by kernel_rfl) (by kernel_rfl) rfl rfl rfl rfl rfl) <| zX rfl (kr (E := (ab Enc.int (ab Enc.str (ab Enc.str (Enc.sl (ab Enc.str Enc.str)))))) (bytes := 64) 2 aO aO rfl (by kernel_rfl) rfl rfl rfl rfl g13 e15) ?_;rintro _ _ ⟨t12, rfl, rfl⟩
  refine zS rfl (ar rfl) <| zS rfl (an (n := 3) (by kernel_rfl) rfl) <| s0 rfl rfl (aq (i := 0) (c := slE _ _ _) (by kernel_rfl) rfl rfl rfl rfl (ac rfl)) <| ag ?_;obtain rfl := ak H;exact And.intro rfl (Exists.intro _ (Exists.intro _ ⟨bj rfl, aB [0, 0, 0] rfl, rfl, t12, rfl⟩))
 ·replace H := aY c11 H;refine aC ?_;obtain rfl := ak H;exact And.intro rfl (Exists.intro _ (Exists.intro _ ⟨bj rfl, aB [0, 0, 0] rfl, rfl, t7, rfl⟩))
set_option maxRecDepth 100000 in
set_option maxHeartbeats 1000000 in
theorem sW (F : Nat) (o1 : Nat) (a2 : List UInt8) (a3 : List (List UInt8)) (t4 : Nat) (a5 : Int) (a6 : List (Int × (List UInt8) × (List UInt8) × List ((List UInt8) × List UInt8))) (t7 : Nat) (a8 : List UInt8) (rv : Res ((List (Int × (List UInt8) × (List UInt8) × List ((List UInt8) × List UInt8))) × (List (List UInt8)))) (H : lU F a2 a3 a5 a6 a8 = some rv) : ACalls Tryz.prog 52 [.pt o1 0, S a8] [.obj o1 [S a2, .sk t4 a3.length, i64 a5, slE (ab Enc.int (ab Enc.str (ab Enc.str (Enc.sl (ab Enc.str Enc.str))))) a6 (some t7)], .stk t4 (Enc.str.fl a3), .tok t7 43] (jw (fun (r : (List (Int × (List UInt8) × (List UInt8) × List ((List UInt8) × List UInt8))) × (List (List UInt8))) => (fun e A' => e = .ret (.tup []) ∧ ∃ t10 t12, A' = [.obj o1 [S a2, .sk t10 r.2.length, i64 a5, slE (ab Enc.int (ab Enc.str (ab Enc.str (Enc.sl (ab Enc.str Enc.str))))) r.1 (some t12)], .stk t10 (Enc.str.fl r.2), .tok t12 43])) (fun e => cg (.iface 58 (.agg #[.int .i64 e]))) rv) := by
 unfold lU at H
 refine ap Tryz.func52 rfl rfl ?_;show AW _ _ 45 _ _ _;refine af ?_;obtain ⟨g13, H⟩ := aM H;refine aa ?_;show AR _ _ _ _ _ [0, 1, 2, 3, 4, 5, 6] _;refine zS rfl (ah (av := .pt _ _) rfl) <| zS rfl (ar rfl) <| zS rfl (an (n := 1) (by kernel_rfl) rfl) <| zR rfl (ao (i := 0) au rfl rfl rfl rfl) <| zS rfl (fe au rfl) <| zS rfl (lL rfl rfl g13) <| za rfl <| ag <| af ?_;obtain ⟨g15, H⟩ := cP H;obtain ⟨g16, H⟩ := cP H;obtain ⟨x17, e18, H⟩ := bL H
 rcases Or.symm (cr H) with ⟨p21, e20, H⟩ | ⟨x19, e20, H⟩
 ·subst H;refine aa ?_;show AR _ _ _ _ _ [0, 1, 2, 3, 4, 5, 6, 7, 8, 9, 10, 11, 12, 13] _;refine zm rfl <| zS rfl (fy rfl rfl) <| zm rfl <| aW (l := [13]) 23 (B ((decide (0 ≤ (a3.length : Int) - 1)) && (decide (x17 = a8)))) (fun K => ?_) ?_
  ·rcases aj (decide (0 ≤ (a3.length : Int) - 1)) with h14 | h14
   ·refine zU h14 rfl (ah (av := .pt _ _) rfl) <| zU h14 rfl (ar rfl) <| zU h14 rfl (an (n := 1) (by kernel_rfl) rfl) <| zT h14 rfl (cn rfl rfl (ao (i := 0) au rfl rfl rfl rfl) ?_);refine zM h14 rfl <| zU h14 rfl (la au (by kernel_rfl) rfl rfl (g15 h14)) <| zT h14 rfl (cn rfl rfl (oS (E := Enc.str) 1 ai rfl rfl rfl rfl (g16 h14) e18 rfl) ?_);refine zM h14 rfl <| zU h14 rfl (eo rfl rfl) <| zS rfl (aD (av := .v _) rfl h14 rfl) ?_;exact K _ 9 _ (ay (cz h14)) rfl rfl
   ·refine zF h14 rfl <| zF h14 rfl <| zF h14 rfl <| zF h14 rfl <| zF h14 rfl <| zF h14 rfl <| zF h14 rfl <| zF h14 rfl <| zF h14 rfl <| zS rfl (aE (av := .v _) rfl h14 rfl) ?_;exact K _ 9 _ (ay (cA h14)) rfl rfl
  refine am rfl rfl (bb (c := cg (.iface 58 (.agg #[.int .i64 p21]))) [] rfl bW rfl (bX F ((decide (0 ≤ (a3.length : Int) - 1)) && (decide (x17 = a8))) p21 e20) rfl ?_);exact And.intro rfl (Exists.intro [] ⟨ba _, rfl, rfl⟩)
 refine aa ?_;show AR _ _ _ _ _ [0, 1, 2, 3, 4, 5, 6, 7, 8, 9, 10, 11, 12, 13] _;refine zm rfl <| zS rfl (fy rfl rfl) <| zm rfl <| aW (l := [13]) 23 (B ((decide (0 ≤ (a3.length : Int) - 1)) && (decide (x17 = a8)))) (fun K => ?_) ?_
 ·rcases aj (decide (0 ≤ (a3.length : Int) - 1)) with h14 | h14
  ·refine zU h14 rfl (ah (av := .pt _ _) rfl) <| zU h14 rfl (ar rfl) <| zU h14 rfl (an (n := 1) (by kernel_rfl) rfl) <| zT h14 rfl (cn rfl rfl (ao (i := 0) au rfl rfl rfl rfl) ?_);refine zM h14 rfl <| zU h14 rfl (la au (by kernel_rfl) rfl rfl (g15 h14)) <| zT h14 rfl (cn rfl rfl (oS (E := Enc.str) 1 ai rfl rfl rfl rfl (g16 h14) e18 rfl) ?_);refine zM h14 rfl <| zU h14 rfl (eo rfl rfl) <| zS rfl (aD (av := .v _) rfl h14 rfl) ?_;exact K _ 9 _ (ay (cz h14)) rfl rfl
  ·refine zF h14 rfl <| zF h14 rfl <| zF h14 rfl <| zF h14 rfl <| zF h14 rfl <| zF h14 rfl <| zF h14 rfl <| zF h14 rfl <| zF h14 rfl <| zS rfl (aE (av := .v _) rfl h14 rfl) ?_;exact K _ 9 _ (ay (cA h14)) rfl rfl
 refine am rfl rfl (aA rfl bW rfl (co F ((decide (0 ≤ (a3.length : Int) - 1)) && (decide (x17 = a8))) e20) ?_);refine ag <| af ?_;obtain ⟨g22, H⟩ := aM H;obtain ⟨x23, e24, H⟩ := bL H;refine aa ?_;show AR _ _ _ _ _ [0, 1, 2, 3, 4, 5, 6, 7, 8, 9] _;refine zS rfl (ah (av := .pt _ _) rfl) <| zS rfl (ah (av := .pt _ _) rfl) <| zS rfl (ar rfl) <| zS rfl (an (n := 1) (by kernel_rfl) rfl) <| zR rfl (ao (i := 0) au rfl rfl rfl rfl) <| zm rfl <| zR rfl (rL (E := Enc.str) 1 au (by kernel_rfl) rfl rfl rfl rfl g22 e24) <| zS rfl (ar rfl) <| zS rfl (an (n := 1) (by kernel_rfl) rfl) <| s0 rfl rfl (aq (i := 0) (c := .sk _ _) (by kernel_rfl) rfl rfl rfl rfl (ac rfl)) <| ag ?_;obtain ⟨g26, H⟩ := aM H;obtain ⟨x27, e28, H⟩ := bL H;refine aa ?_;show AR _ _ _ _ _ [0, 1, 2, 3, 4, 5, 6, 7, 8, 9, 10, 11] _
 refine zS rfl (ah (av := .pt _ _) rfl) <| zS rfl (ah (av := .pt _ _) rfl) <| zS rfl (ar rfl) <| zS rfl (an (n := 3) (by kernel_rfl) rfl) <| zR rfl (ao (i := 0) aO rfl rfl rfl rfl) <| zm rfl <| zS rfl (cK (zs := [.int .i64 0, .string ⟨#[]⟩, .string ⟨#[]⟩, .slice none 0 0]) (ps := [(0, 1), (1, 1), (2, 1), (3, 1)]) (cs := [i64 1, S a8, S ([] : List UInt8), eH]) (by kernel_rfl) rfl rfl) <| zR rfl (jH (ds := [i64 1, S a8, S ([] : List UInt8), slE (ab Enc.str Enc.str) ([] : List ((List UInt8) × List UInt8)) none]) 40 (.cons (.refl _) (.cons (.refl _) (.cons (.refl _) (.cons (.nil _) (.nil))))) (hc := rfl) <| dA (E := (ab Enc.int (ab Enc.str (ab Enc.str (Enc.sl (ab Enc.str Enc.str)))))) (bytes := 64) (zs := [.int .i64 0, .string ⟨#[]⟩, .string ⟨#[]⟩, .slice none 0 0]) (l := ([(1, a8, ([] : List UInt8), ([] : List ((List UInt8) × List UInt8)))] : List (Int × (List UInt8) × (List UInt8) × List ((List UInt8) × List UInt8)))) aO (by kernel_rfl) (by kernel_rfl) rfl rfl rfl rfl rfl) <| zX rfl (kr (E := (ab Enc.int (ab Enc.str (ab Enc.str (Enc.sl (ab Enc.str Enc.str)))))) (bytes := 64) 2 aO aO rfl (by kernel_rfl) rfl rfl rfl rfl g26 e28) ?_;rintro _ _ ⟨t25, rfl, rfl⟩;refine zS rfl (ar rfl) <| zS rfl (an (n := 3) (by kernel_rfl) rfl) <| s0 rfl rfl (aq (i := 0) (c := slE _ _ _) (by kernel_rfl) rfl rfl rfl rfl (ac rfl)) <| ag ?_
 obtain rfl := ak H;exact And.intro rfl (Exists.intro _ (Exists.intro _ ⟨bj rfl, aB [0, 0, 0] rfl, rfl, t4, t25, rfl⟩))
theorem pf (F : Nat) (o1 : Nat) (a2 : List UInt8) (a3 : List (List UInt8)) (t4 : Nat) (a5 : Int) (a6 : List (Int × (List UInt8) × (List UInt8) × List ((List UInt8) × List UInt8))) (t7 : Nat) (a8 : List UInt8) (r11 : List (Int × (List UInt8) × (List UInt8) × List ((List UInt8) × List UInt8))) (r9 : List (List UInt8)) (H : lU F a2 a3 a5 a6 a8 = some (Res.ok (r11, r9))) : ACalls Tryz.prog 52 [.pt o1 0, S a8] [.obj o1 [S a2, .sk t4 a3.length, i64 a5, slE (ab Enc.int (ab Enc.str (ab Enc.str (Enc.sl (ab Enc.str Enc.str))))) a6 (some t7)], .stk t4 (Enc.str.fl a3), .tok t7 43] (fun e A' => e = .ret (.tup []) ∧ ∃ t10 t12, A' = [.obj o1 [S a2, .sk t10 r9.length, i64 a5, slE (ab Enc.int (ab Enc.str (ab Enc.str (Enc.sl (ab Enc.str Enc.str))))) r11 (some t12)], .stk t10 (Enc.str.fl r9), .tok t12 43]) := sW F o1 a2 a3 t4 a5 a6 t7 a8 _ H
theorem ow (F : Nat) (o1 : Nat) (a2 : List UInt8) (a3 : List (List UInt8)) (t4 : Nat) (a5 : Int) (a6 : List (Int × (List UInt8) × (List UInt8) × List ((List UInt8) × List UInt8))) (t7 : Nat) (a8 : List UInt8) (e : Int) (H : lU F a2 a3 a5 a6 a8 = some (Res.pan e)) : ACalls Tryz.prog 52 [.pt o1 0, S a8] [.obj o1 [S a2, .sk t4 a3.length, i64 a5, slE (ab Enc.int (ab Enc.str (ab Enc.str (Enc.sl (ab Enc.str Enc.str))))) a6 (some t7)], .stk t4 (Enc.str.fl a3), .tok t7 43] (fun ae A' => ae = .pan ((fun e => cg (.iface 58 (.agg #[.int .i64 e]))) e) ∧ A' = []) := sW F o1 a2 a3 t4 a5 a6 t7 a8 _ H
set_option maxRecDepth 100000 in
set_option maxHeartbeats 1000000 in
theorem rF (F : Nat) (o1 : Nat) (a2 : List UInt8) (a3 : List (List UInt8)) (t4 : Nat) (a5 : Int) (a6 : List (Int × (List UInt8) × (List UInt8) × List ((List UInt8) × List UInt8))) (t7 : Nat) (rv : Res (Bool × (List UInt8) × (List (Int × (List UInt8) × (List UInt8) × List ((List UInt8) × List UInt8))))) (H : jp F a2 a3 a5 a6 = some rv) : ACalls Tryz.prog 31 [.pt o1 0] [.obj o1 [S a2, .sk t4 a3.length, i64 a5, slE (ab Enc.int (ab Enc.str (ab Enc.str (Enc.sl (ab Enc.str Enc.str))))) a6 (some t7)], .stk t4 (Enc.str.fl a3), .tok t7 43] (jw (fun (r : Bool × (List UInt8) × (List (Int × (List UInt8) × (List UInt8) × List ((List UInt8) × List UInt8)))) => (fun e A' => e = .ret (B r.1) ∧ ∃ t11, A' = [.obj o1 [S r.2.1, .sk t4 a3.length, i64 a5, slE (ab Enc.int (ab Enc.str (ab Enc.str (Enc.sl (ab Enc.str Enc.str))))) r.2.2 (some t11)], .stk t4 (Enc.str.fl a3), .tok t11 43])) (fun e => cg (.iface 58 (.agg #[.int .i64 e]))) rv) := by
 unfold jp at H
 refine ap Tryz.func31 rfl rfl ?_;show AW _ _ 50 _ _ _;refine af <| aa ?_;show AR _ _ _ _ _ [0] _;refine za rfl <| ag <| af ?_;obtain ⟨x12, e13, H⟩ := bL H;refine aa ?_;show AR _ _ _ _ _ [0, 1, 2, 3, 4, 5] _;refine zS rfl (ah (av := .pt _ _) rfl) <| zS rfl (ar rfl) <| zS rfl (an (n := 0) (by kernel_rfl) rfl) <| zR rfl (ao (i := 0) ai rfl rfl rfl rfl) <| am rfl rfl (aA rfl qh rfl (show ACalls _ _ _ [] (Ret (i64 x12) []) from by subst e13; exact eW a2 60) ?_);refine za rfl <| ag <| bM (X := Int) (fun y15 => ⟨[(0, .pt o1 0), (3, i64 y15)], [], [.obj o1 [S a2, .sk t4 a3.length, i64 a5, slE (ab Enc.int (ab Enc.str (ab Enc.str (Enc.sl (ab Enc.str Enc.str))))) a6 (some t7)], .stk t4 (Enc.str.fl a3), .tok t7 43]⟩) (fun y15 => fH F a2 a3 a5 a6 y15 = some rv) ?_ ?_
 ·refine af <| aa ?_;show AR _ _ _ _ _ [0, 1] _;refine zm rfl <| zS rfl (cf rfl rfl) <| ag <| ax rfl (fun c14 => ?_) (fun c14 => ?_)
  ·replace H := aX c14 H;refine aa ?_;show AR _ _ _ _ _ [0, 1, 2, 3, 4, 5] _;refine zS rfl (ah (av := .pt _ _) rfl) <| zS rfl (ar rfl) <| zS rfl (an (n := 0) (by kernel_rfl) rfl) <| zR rfl (ao (i := 0) ai rfl rfl rfl rfl) <| zS rfl (bu ai rfl) <| za rfl <| ag ?_;exact Exists.intro (a2.length : Int) ⟨H, be [0, 0, 0] (.cons (.refl _) (.cons (.refl _) (.nil _))) rfl⟩
  ·replace H := aY c14 H;refine aC ?_;exact Exists.intro x12 ⟨H, be [0, 0, 0] (.cons (.refl _) (.cons (.refl _) (.nil _))) rfl⟩
 rintro y15 H;replace H : fH F a2 a3 a5 a6 y15 = some rv := H
 unfold fH at H
 refine af <| af <| aa ?_;show AR _ _ _ _ _ [0, 1] _;refine zm rfl <| zS rfl (bJ rfl rfl) <| ag <| ax rfl (fun c17 => ?_) (fun c17 => ?_)
 ·replace H := aX c17 H;refine af <| aa ?_;show AR _ _ _ _ _ [0] _;refine za rfl <| ag <| aG ?_;obtain rfl := ak H;exact And.intro rfl (Exists.intro _ (Exists.intro _ ⟨aF rfl (.refl _), aB [0, 0, 0] rfl, rfl, t7, rfl⟩))
 ·replace H := aY c17 H;refine aC <| af ?_;obtain ⟨g18, H⟩ := aM H;obtain ⟨x19, e20, H⟩ := bL H;refine aa ?_;show AR _ _ _ _ _ [0, 1, 2, 3, 4, 5, 6] _;refine zS rfl (ah (av := .pt _ _) rfl) <| zS rfl (ar rfl) <| zS rfl (an (n := 0) (by kernel_rfl) rfl) <| zR rfl (ao (i := 0) ai rfl rfl rfl rfl) <| zm rfl <| zS rfl (ls ai rfl rfl g18 e20) <| za rfl <| ag <| af ?_;obtain ⟨g21, H⟩ := aM H;obtain ⟨x22, e23, H⟩ := bL H;refine aa ?_;show AR _ _ _ _ _ [0, 1, 2, 3, 4, 5, 6, 7, 8, 9] _;refine zS rfl (ah (av := .pt _ _) rfl) <| zS rfl (ah (av := .pt _ _) rfl) <| zS rfl (ar rfl) <| zS rfl (an (n := 0) (by kernel_rfl) rfl) <| zR rfl (ao (i := 0) ai rfl rfl rfl rfl) <| zm rfl <| zS rfl (eF ai rfl rfl g21 e23) <| zS rfl (ar rfl) <| zS rfl (an (n := 0) (by kernel_rfl) rfl) <| s0 rfl rfl (aq (i := 0) (c := .v _) (by kernel_rfl) rfl rfl rfl rfl (ac rfl)) <| ag <| af ?_
  rcases Or.symm (cr H) with ⟨p26, e25, H⟩ | ⟨x24, e25, H⟩
  ·subst H;refine aa ?_;show AR _ _ _ _ _ [0, 1, 2] _;refine zm rfl <| am rfl rfl (bb (c := cg (.iface 58 (.agg #[.int .i64 p26]))) [] rfl nT rfl (mN F x19 p26 e25) rfl ?_);exact And.intro rfl (Exists.intro [] ⟨ba _, rfl, rfl⟩)
  refine aa ?_;show AR _ _ _ _ _ [0, 1, 2] _;refine zm rfl <| am rfl rfl (aA rfl nT rfl (nq F x19 x24 e25) ?_);refine za rfl <| ag <| af <| af <| aa ?_;show AR _ _ _ _ _ [0, 1, 2, 3, 4, 5] _;refine zS rfl (ah (av := .pt _ _) rfl) <| zS rfl (ar rfl) <| zS rfl (an (n := 1) (by kernel_rfl) rfl) <| zR rfl (ao (i := 0) au rfl rfl rfl rfl) <| zS rfl (fe au rfl) <| zS rfl (bJ rfl rfl) <| ag <| ax rfl (fun c27 => ?_) (fun c27 => ?_)
  ·replace H := aX c27 H;refine af ?_;obtain ⟨x28, e29, H⟩ := bU H
   rcases Or.symm (cr H) with ⟨p32, e31, H⟩ | ⟨x30, e31, H⟩
   ·subst H;refine aa ?_;show AR _ _ _ _ _ [0, 1, 2, 3] _;refine zm rfl <| am rfl rfl (aA rfl tX rfl (oL F x19 x28 e29) ?_);refine zS rfl (eo rfl rfl) <| am rfl rfl (bb (c := cg (.iface 58 (.agg #[.int .i64 p32]))) [] rfl bW rfl (bX F (decide (x28 = ([] : List UInt8))) p32 e31) rfl ?_);exact And.intro rfl (Exists.intro [] ⟨ba _, rfl, rfl⟩)
   refine aa ?_;show AR _ _ _ _ _ [0, 1, 2, 3] _;refine zm rfl <| am rfl rfl (aA rfl tX rfl (oL F x19 x28 e29) ?_);refine zS rfl (eo rfl rfl) <| am rfl rfl (aA rfl bW rfl (co F (decide (x28 = ([] : List UInt8))) e31) ?_);refine ag <| af <| aa ?_;show AR _ _ _ _ _ [0] _;refine za rfl <| ag <| aG ?_;obtain rfl := ak H;exact And.intro rfl (Exists.intro _ (Exists.intro _ ⟨aF rfl (.refl _), aB [0, 0, 0] rfl, rfl, t7, rfl⟩))
  ·replace H := aY c27 H;refine aC <| af ?_;obtain ⟨x33, e34, H⟩ := bU H;refine aa ?_;show AR _ _ _ _ _ [0, 1, 2] _;refine zS rfl (ah (av := .pt _ _) rfl) <| zm rfl <| am rfl rfl (aQ [0, 0, 0] rfl tM rfl (sU F o1 x22 a3 t4 a5 a6 t7 x24 x33 e34) rfl (fun c A' h => by cases h.1) ?_)
   rintro av A' ⟨h, t35, rfl⟩; cases h
   refine ag <| af <| aa ?_;show AR _ _ _ _ _ [0] _;refine za rfl <| ag <| aG ?_;obtain rfl := ak H;exact And.intro rfl (Exists.intro _ (Exists.intro _ ⟨aF rfl (.refl _), aB [0, 0, 0] rfl, rfl, t35, rfl⟩))
theorem so (F : Nat) (o1 : Nat) (a2 : List UInt8) (a3 : List (List UInt8)) (t4 : Nat) (a5 : Int) (a6 : List (Int × (List UInt8) × (List UInt8) × List ((List UInt8) × List UInt8))) (t7 : Nat) (r8 : Bool) (r9 : List UInt8) (r10 : List (Int × (List UInt8) × (List UInt8) × List ((List UInt8) × List UInt8))) (H : jp F a2 a3 a5 a6 = some (Res.ok (r8, r9, r10))) : ACalls Tryz.prog 31 [.pt o1 0] [.obj o1 [S a2, .sk t4 a3.length, i64 a5, slE (ab Enc.int (ab Enc.str (ab Enc.str (Enc.sl (ab Enc.str Enc.str))))) a6 (some t7)], .stk t4 (Enc.str.fl a3), .tok t7 43] (fun e A' => e = .ret (B r8) ∧ ∃ t11, A' = [.obj o1 [S r9, .sk t4 a3.length, i64 a5, slE (ab Enc.int (ab Enc.str (ab Enc.str (Enc.sl (ab Enc.str Enc.str))))) r10 (some t11)], .stk t4 (Enc.str.fl a3), .tok t11 43]) := rF F o1 a2 a3 t4 a5 a6 t7 _ H
theorem rl (F : Nat) (o1 : Nat) (a2 : List UInt8) (a3 : List (List UInt8)) (t4 : Nat) (a5 : Int) (a6 : List (Int × (List UInt8) × (List UInt8) × List ((List UInt8) × List UInt8))) (t7 : Nat) (e : Int) (H : jp F a2 a3 a5 a6 = some (Res.pan e)) : ACalls Tryz.prog 31 [.pt o1 0] [.obj o1 [S a2, .sk t4 a3.length, i64 a5, slE (ab Enc.int (ab Enc.str (ab Enc.str (Enc.sl (ab Enc.str Enc.str))))) a6 (some t7)], .stk t4 (Enc.str.fl a3), .tok t7 43] (fun ae A' => ae = .pan ((fun e => cg (.iface 58 (.agg #[.int .i64 e]))) e) ∧ A' = []) := rF F o1 a2 a3 t4 a5 a6 t7 _ H
set_option maxRecDepth 100000 in
set_option maxHeartbeats 1000000 in
theorem ph (F : Nat) (o1 : Nat) (a2 : List UInt8) (a3 : List (List UInt8)) (t4 : Nat) (a5 : Int) (a6 : List (Int × (List UInt8) × (List UInt8) × List ((List UInt8) × List UInt8))) (t7 : Nat) (rv : Res (Bool × (List UInt8))) (H : jC F a2 a3 a5 a6 = some rv) : ACalls Tryz.prog 32 [.pt o1 0] [.obj o1 [S a2, .sk t4 a3.length, i64 a5, slE (ab Enc.int (ab Enc.str (ab Enc.str (Enc.sl (ab Enc.str Enc.str))))) a6 (some t7)], .stk t4 (Enc.str.fl a3), .tok t7 43] (jw (fun (r : Bool × (List UInt8)) => (fun e A' => e = .ret (B r.1) ∧ A' = [.obj o1 [S r.2, .sk t4 a3.length, i64 a5, slE (ab Enc.int (ab Enc.str (ab Enc.str (Enc.sl (ab Enc.str Enc.str))))) a6 (some t7)], .stk t4 (Enc.str.fl a3), .tok t7 43])) (fun e => cg (.iface 58 (.agg #[.int .i64 e]))) rv) := by
 unfold jC at H
 refine ap Tryz.func32 rfl rfl ?_;show AW _ _ 8 _ _ _;refine af <| aa ?_;show AR _ _ _ _ _ [0] _;refine za rfl <| ag <| af <| af ?_;obtain ⟨x10, x11, e12, H⟩ := cF H;refine aa ?_;show AR _ _ _ _ _ [0, 1, 2] _;refine zS rfl (ah (av := .pt _ _) rfl) <| am rfl rfl (aQ [0, 0, 0] rfl eu rfl (ep F o1 a2 a3 t4 a5 a6 t7 ([60, 33, 45, 45] : List UInt8) x10 x11 e12) rfl (fun c A' h => by cases h.1) ?_)
 rintro av A' ⟨h, rfl⟩; cases h
 refine zS rfl (bB rfl) <| ag <| ax rfl (fun c13 => ?_) (fun c13 => ?_)
 ·replace H := aX c13 H;refine af <| aa ?_;show AR _ _ _ _ _ [0] _;refine za rfl <| ag <| aG ?_;obtain rfl := ak H;exact And.intro rfl (Exists.intro _ (Exists.intro _ ⟨aF rfl (.refl _), aB [0, 0, 0] rfl, rfl, rfl⟩))
 ·replace H := aY c13 H;refine aC <| af ?_
  rcases Or.symm (cr H) with ⟨p16, e15, H⟩ | ⟨x14, e15, H⟩
  ·subst H;refine aa ?_;show AR _ _ _ _ _ [0, 1] _;refine zS rfl (ah (av := .pt _ _) rfl) <| am rfl rfl (bb (c := cg (.iface 58 (.agg #[.int .i64 p16]))) [0, 0, 0] rfl gr rfl (hH F o1 x11 a3 t4 a5 a6 t7 ([45, 45, 62] : List UInt8) p16 e15) rfl ?_);exact And.intro rfl (Exists.intro [] ⟨ba _, rfl, rfl⟩)
  refine aa ?_;show AR _ _ _ _ _ [0, 1] _;refine zS rfl (ah (av := .pt _ _) rfl) <| am rfl rfl (aQ [0, 0, 0] rfl gr rfl (ji F o1 x11 a3 t4 a5 a6 t7 ([45, 45, 62] : List UInt8) x14.1 x14.2 e15) rfl (fun c A' h => by cases h.1) ?_)
  rintro av A' ⟨h, rfl⟩; cases h
  refine ag <| af <| aa ?_;show AR _ _ _ _ _ [0] _;refine za rfl <| ag <| aG ?_;obtain rfl := ak H;exact And.intro rfl (Exists.intro _ (Exists.intro _ ⟨aF rfl (.refl _), aB [0, 0, 0] rfl, rfl, rfl⟩))
theorem qQ (F : Nat) (o1 : Nat) (a2 : List UInt8) (a3 : List (List UInt8)) (t4 : Nat) (a5 : Int) (a6 : List (Int × (List UInt8) × (List UInt8) × List ((List UInt8) × List UInt8))) (t7 : Nat) (r8 : Bool) (r9 : List UInt8) (H : jC F a2 a3 a5 a6 = some (Res.ok (r8, r9))) : ACalls Tryz.prog 32 [.pt o1 0] [.obj o1 [S a2, .sk t4 a3.length, i64 a5, slE (ab Enc.int (ab Enc.str (ab Enc.str (Enc.sl (ab Enc.str Enc.str))))) a6 (some t7)], .stk t4 (Enc.str.fl a3), .tok t7 43] (fun e A' => e = .ret (B r8) ∧ A' = [.obj o1 [S r9, .sk t4 a3.length, i64 a5, slE (ab Enc.int (ab Enc.str (ab Enc.str (Enc.sl (ab Enc.str Enc.str))))) a6 (some t7)], .stk t4 (Enc.str.fl a3), .tok t7 43]) := ph F o1 a2 a3 t4 a5 a6 t7 _ H
theorem pT (F : Nat) (o1 : Nat) (a2 : List UInt8) (a3 : List (List UInt8)) (t4 : Nat) (a5 : Int) (a6 : List (Int × (List UInt8) × (List UInt8) × List ((List UInt8) × List UInt8))) (t7 : Nat) (e : Int) (H : jC F a2 a3 a5 a6 = some (Res.pan e)) : ACalls Tryz.prog 32 [.pt o1 0] [.obj o1 [S a2, .sk t4 a3.length, i64 a5, slE (ab Enc.int (ab Enc.str (ab Enc.str (Enc.sl (ab Enc.str Enc.str))))) a6 (some t7)], .stk t4 (Enc.str.fl a3), .tok t7 43] (fun ae A' => ae = .pan ((fun e => cg (.iface 58 (.agg #[.int .i64 e]))) e) ∧ A' = []) := ph F o1 a2 a3 t4 a5 a6 t7 _ H
set_option maxRecDepth 100000 in
set_option maxHeartbeats 1000000 in
theorem vN (F : Nat) (o1 : Nat) (a2 : List UInt8) (a3 : List (List UInt8)) (t4 : Nat) (a5 : Int) (a6 : List (Int × (List UInt8) × (List UInt8) × List ((List UInt8) × List UInt8))) (t7 : Nat) (rv : Res (Bool × (List UInt8))) (H : qL F a2 a3 a5 a6 = some rv) : ACalls Tryz.prog 33 [.pt o1 0] [.obj o1 [S a2, .sk t4 a3.length, i64 a5, slE (ab Enc.int (ab Enc.str (ab Enc.str (Enc.sl (ab Enc.str Enc.str))))) a6 (some t7)], .stk t4 (Enc.str.fl a3), .tok t7 43] (jw (fun (r : Bool × (List UInt8)) => (fun e A' => e = .ret (B r.1) ∧ A' = [.obj o1 [S r.2, .sk t4 a3.length, i64 a5, slE (ab Enc.int (ab Enc.str (ab Enc.str (Enc.sl (ab Enc.str Enc.str))))) a6 (some t7)], .stk t4 (Enc.str.fl a3), .tok t7 43])) (fun e => cg (.iface 58 (.agg #[.int .i64 e]))) rv) := by
 unfold qL at H
 refine ap Tryz.func33 rfl rfl ?_;show AW _ _ 8 _ _ _;refine af <| aa ?_;show AR _ _ _ _ _ [0] _;refine za rfl <| ag <| af <| af ?_;obtain ⟨x10, x11, e12, H⟩ := cF H;refine aa ?_;show AR _ _ _ _ _ [0, 1, 2] _;refine zS rfl (ah (av := .pt _ _) rfl) <| am rfl rfl (aQ [0, 0, 0] rfl eu rfl (ep F o1 a2 a3 t4 a5 a6 t7 ([60, 63] : List UInt8) x10 x11 e12) rfl (fun c A' h => by cases h.1) ?_)
 rintro av A' ⟨h, rfl⟩; cases h
 refine zS rfl (bB rfl) <| ag <| ax rfl (fun c13 => ?_) (fun c13 => ?_)
 ·replace H := aX c13 H;refine af <| aa ?_;show AR _ _ _ _ _ [0] _;refine za rfl <| ag <| aG ?_;obtain rfl := ak H;exact And.intro rfl (Exists.intro _ (Exists.intro _ ⟨aF rfl (.refl _), aB [0, 0, 0] rfl, rfl, rfl⟩))
 ·replace H := aY c13 H;refine aC <| af ?_
  rcases Or.symm (cr H) with ⟨p16, e15, H⟩ | ⟨x14, e15, H⟩
  ·subst H;refine aa ?_;show AR _ _ _ _ _ [0, 1] _;refine zS rfl (ah (av := .pt _ _) rfl) <| am rfl rfl (bb (c := cg (.iface 58 (.agg #[.int .i64 p16]))) [0, 0, 0] rfl gr rfl (hH F o1 x11 a3 t4 a5 a6 t7 ([63, 62] : List UInt8) p16 e15) rfl ?_);exact And.intro rfl (Exists.intro [] ⟨ba _, rfl, rfl⟩)
  refine aa ?_;show AR _ _ _ _ _ [0, 1] _;refine zS rfl (ah (av := .pt _ _) rfl) <| am rfl rfl (aQ [0, 0, 0] rfl gr rfl (ji F o1 x11 a3 t4 a5 a6 t7 ([63, 62] : List UInt8) x14.1 x14.2 e15) rfl (fun c A' h => by cases h.1) ?_)
  rintro av A' ⟨h, rfl⟩; cases h
  refine ag <| af <| aa ?_;show AR _ _ _ _ _ [0] _;refine za rfl <| ag <| aG ?_;obtain rfl := ak H;exact And.intro rfl (Exists.intro _ (Exists.intro _ ⟨aF rfl (.refl _), aB [0, 0, 0] rfl, rfl, rfl⟩))
theorem vi (F : Nat) (o1 : Nat) (a2 : List UInt8) (a3 : List (List UInt8)) (t4 : Nat) (a5 : Int) (a6 : List (Int × (List UInt8) × (List UInt8) × List ((List UInt8) × List UInt8))) (t7 : Nat) (r8 : Bool) (r9 : List UInt8) (H : qL F a2 a3 a5 a6 = some (Res.ok (r8, r9))) : ACalls Tryz.prog 33 [.pt o1 0] [.obj o1 [S a2, .sk t4 a3.length, i64 a5, slE (ab Enc.int (ab Enc.str (ab Enc.str (Enc.sl (ab Enc.str Enc.str))))) a6 (some t7)], .stk t4 (Enc.str.fl a3), .tok t7 43] (fun e A' => e = .ret (B r8) ∧ A' = [.obj o1 [S r9, .sk t4 a3.length, i64 a5, slE (ab Enc.int (ab Enc.str (ab Enc.str (Enc.sl (ab Enc.str Enc.str))))) a6 (some t7)], .stk t4 (Enc.str.fl a3), .tok t7 43]) := vN F o1 a2 a3 t4 a5 a6 t7 _ H
theorem uo (F : Nat) (o1 : Nat) (a2 : List UInt8) (a3 : List (List UInt8)) (t4 : Nat) (a5 : Int) (a6 : List (Int × (List UInt8) × (List UInt8) × List ((List UInt8) × List UInt8))) (t7 : Nat) (e : Int) (H : qL F a2 a3 a5 a6 = some (Res.pan e)) : ACalls Tryz.prog 33 [.pt o1 0] [.obj o1 [S a2, .sk t4 a3.length, i64 a5, slE (ab Enc.int (ab Enc.str (ab Enc.str (Enc.sl (ab Enc.str Enc.str))))) a6 (some t7)], .stk t4 (Enc.str.fl a3), .tok t7 43] (fun ae A' => ae = .pan ((fun e => cg (.iface 58 (.agg #[.int .i64 e]))) e) ∧ A' = []) := vN F o1 a2 a3 t4 a5 a6 t7 _ H
set_option maxRecDepth 100000 in
set_option maxHeartbeats 1000000 in
theorem sZ (F : Nat) (o1 : Nat) (a2 : List UInt8) (a3 : List (List UInt8)) (t4 : Nat) (a5 : Int) (a6 : List (Int × (List UInt8) × (List UInt8) × List ((List UInt8) × List UInt8))) (t7 : Nat) (rv : Res (Bool × (List UInt8) × (List (Int × (List UInt8) × (List UInt8) × List ((List UInt8) × List UInt8))))) (H : lW F a2 a3 a5 a6 = some rv) : ACalls Tryz.prog 34 [.pt o1 0] [.obj o1 [S a2, .sk t4 a3.length, i64 a5, slE (ab Enc.int (ab Enc.str (ab Enc.str (Enc.sl (ab Enc.str Enc.str))))) a6 (some t7)], .stk t4 (Enc.str.fl a3), .tok t7 43] (jw (fun (r : Bool × (List UInt8) × (List (Int × (List UInt8) × (List UInt8) × List ((List UInt8) × List UInt8)))) => (fun e A' => e = .ret (B r.1) ∧ ∃ t11, A' = [.obj o1 [S r.2.1, .sk t4 a3.length, i64 a5, slE (ab Enc.int (ab Enc.str (ab Enc.str (Enc.sl (ab Enc.str Enc.str))))) r.2.2 (some t11)], .stk t4 (Enc.str.fl a3), .tok t11 43])) (fun e => cg (.iface 58 (.agg #[.int .i64 e]))) rv) := by
 unfold lW at H
 refine ap Tryz.func34 rfl rfl ?_;show AW _ _ 19 _ _ _;refine af <| aa ?_;show AR _ _ _ _ _ [0] _;refine za rfl <| ag <| af <| af ?_;obtain ⟨x12, x13, e14, H⟩ := cF H;refine aa ?_;show AR _ _ _ _ _ [0, 1, 2] _;refine zS rfl (ah (av := .pt _ _) rfl) <| am rfl rfl (aQ [0, 0, 0] rfl eu rfl (ep F o1 a2 a3 t4 a5 a6 t7 ([60, 33, 91, 67, 68, 65, 84, 65, 91] : List UInt8) x12 x13 e14) rfl (fun c A' h => by cases h.1) ?_)
 rintro av A' ⟨h, rfl⟩; cases h
 refine zS rfl (bB rfl) <| ag <| ax rfl (fun c15 => ?_) (fun c15 => ?_)
 ·replace H := aX c15 H;refine af <| aa ?_;show AR _ _ _ _ _ [0] _;refine za rfl <| ag <| aG ?_;obtain rfl := ak H;exact And.intro rfl (Exists.intro _ (Exists.intro _ ⟨aF rfl (.refl _), aB [0, 0, 0] rfl, rfl, t7, rfl⟩))
 ·replace H := aY c15 H;refine aC <| af ?_
  rcases Or.symm (cr H) with ⟨p18, e17, H⟩ | ⟨x16, e17, H⟩
  ·subst H;refine aa ?_;show AR _ _ _ _ _ [0, 1, 2] _;refine zS rfl (ah (av := .pt _ _) rfl) <| am rfl rfl (bb (c := cg (.iface 58 (.agg #[.int .i64 p18]))) [0, 0, 0] rfl gr rfl (hH F o1 x13 a3 t4 a5 a6 t7 ([93, 93, 62] : List UInt8) p18 e17) rfl ?_);exact And.intro rfl (Exists.intro [] ⟨ba _, rfl, rfl⟩)
  refine aa ?_;show AR _ _ _ _ _ [0, 1, 2] _;refine zS rfl (ah (av := .pt _ _) rfl) <| am rfl rfl (aQ [0, 0, 0] rfl gr rfl (ji F o1 x13 a3 t4 a5 a6 t7 ([93, 93, 62] : List UInt8) x16.1 x16.2 e17) rfl (fun c A' h => by cases h.1) ?_)
  rintro av A' ⟨h, rfl⟩; cases h
  refine za rfl <| ag <| af ?_
  rcases Or.symm (cr H) with ⟨p21, e20, H⟩ | ⟨x19, e20, H⟩
  ·subst H;refine aa ?_;show AR _ _ _ _ _ [0, 1, 2, 3, 4, 5, 6] _;refine zS rfl (ah (av := .pt _ _) rfl) <| zS rfl (ar rfl) <| zS rfl (an (n := 1) (by kernel_rfl) rfl) <| zR rfl (ao (i := 0) au rfl rfl rfl rfl) <| zS rfl (fe au rfl) <| zS rfl (gn rfl rfl) <| am rfl rfl (bb (c := cg (.iface 58 (.agg #[.int .i64 p21]))) [] rfl bW rfl (bX F (decide (0 < (a3.length : Int))) p21 e20) rfl ?_);exact And.intro rfl (Exists.intro [] ⟨ba _, rfl, rfl⟩)
  refine aa ?_;show AR _ _ _ _ _ [0, 1, 2, 3, 4, 5, 6] _;refine zS rfl (ah (av := .pt _ _) rfl) <| zS rfl (ar rfl) <| zS rfl (an (n := 1) (by kernel_rfl) rfl) <| zR rfl (ao (i := 0) au rfl rfl rfl rfl) <| zS rfl (fe au rfl) <| zS rfl (gn rfl rfl) <| am rfl rfl (aA rfl bW rfl (co F (decide (0 < (a3.length : Int))) e20) ?_);refine ag <| af ?_;obtain ⟨x22, e23, H⟩ := bU H;refine aa ?_;show AR _ _ _ _ _ [0, 1, 2] _;refine zS rfl (ah (av := .pt _ _) rfl) <| zm rfl <| am rfl rfl (aQ [0, 0, 0] rfl tM rfl (sU F o1 x16.2 a3 t4 a5 a6 t7 x16.1 x22 e23) rfl (fun c A' h => by cases h.1) ?_)
  rintro av A' ⟨h, t24, rfl⟩; cases h
  refine ag <| af <| aa ?_;show AR _ _ _ _ _ [0] _;refine za rfl <| ag <| aG ?_;obtain rfl := ak H;exact And.intro rfl (Exists.intro _ (Exists.intro _ ⟨aF rfl (.refl _), aB [0, 0, 0] rfl, rfl, t24, rfl⟩))
theorem um (F : Nat) (o1 : Nat) (a2 : List UInt8) (a3 : List (List UInt8)) (t4 : Nat) (a5 : Int) (a6 : List (Int × (List UInt8) × (List UInt8) × List ((List UInt8) × List UInt8))) (t7 : Nat) (r8 : Bool) (r9 : List UInt8) (r10 : List (Int × (List UInt8) × (List UInt8) × List ((List UInt8) × List UInt8))) (H : lW F a2 a3 a5 a6 = some (Res.ok (r8, r9, r10))) : ACalls Tryz.prog 34 [.pt o1 0] [.obj o1 [S a2, .sk t4 a3.length, i64 a5, slE (ab Enc.int (ab Enc.str (ab Enc.str (Enc.sl (ab Enc.str Enc.str))))) a6 (some t7)], .stk t4 (Enc.str.fl a3), .tok t7 43] (fun e A' => e = .ret (B r8) ∧ ∃ t11, A' = [.obj o1 [S r9, .sk t4 a3.length, i64 a5, slE (ab Enc.int (ab Enc.str (ab Enc.str (Enc.sl (ab Enc.str Enc.str))))) r10 (some t11)], .stk t4 (Enc.str.fl a3), .tok t11 43]) := sZ F o1 a2 a3 t4 a5 a6 t7 _ H
theorem sp (F : Nat) (o1 : Nat) (a2 : List UInt8) (a3 : List (List UInt8)) (t4 : Nat) (a5 : Int) (a6 : List (Int × (List UInt8) × (List UInt8) × List ((List UInt8) × List UInt8))) (t7 : Nat) (e : Int) (H : lW F a2 a3 a5 a6 = some (Res.pan e)) : ACalls Tryz.prog 34 [.pt o1 0] [.obj o1 [S a2, .sk t4 a3.length, i64 a5, slE (ab Enc.int (ab Enc.str (ab Enc.str (Enc.sl (ab Enc.str Enc.str))))) a6 (some t7)], .stk t4 (Enc.str.fl a3), .tok t7 43] (fun ae A' => ae = .pan ((fun e => cg (.iface 58 (.agg #[.int .i64 e]))) e) ∧ A' = []) := sZ F o1 a2 a3 t4 a5 a6 t7 _ H
set_option maxRecDepth 100000 in
set_option maxHeartbeats 1000000 in
theorem vM (F : Nat) (o1 : Nat) (a2 : List UInt8) (a3 : List (List UInt8)) (t4 : Nat) (a5 : Int) (a6 : List (Int × (List UInt8) × (List UInt8) × List ((List UInt8) × List UInt8))) (t7 : Nat) (rv : Res (Bool × (List UInt8))) (H : qK F a2 a3 a5 a6 = some rv) : ACalls Tryz.prog 35 [.pt o1 0] [.obj o1 [S a2, .sk t4 a3.length, i64 a5, slE (ab Enc.int (ab Enc.str (ab Enc.str (Enc.sl (ab Enc.str Enc.str))))) a6 (some t7)], .stk t4 (Enc.str.fl a3), .tok t7 43] (jw (fun (r : Bool × (List UInt8)) => (fun e A' => e = .ret (B r.1) ∧ A' = [.obj o1 [S r.2, .sk t4 a3.length, i64 a5, slE (ab Enc.int (ab Enc.str (ab Enc.str (Enc.sl (ab Enc.str Enc.str))))) a6 (some t7)], .stk t4 (Enc.str.fl a3), .tok t7 43])) (fun e => cg (.iface 58 (.agg #[.int .i64 e]))) rv) := by
 unfold qK at H
 refine ap Tryz.func35 rfl rfl ?_;show AW _ _ 8 _ _ _;refine af <| aa ?_;show AR _ _ _ _ _ [0] _;refine za rfl <| ag <| af <| af ?_;obtain ⟨x10, x11, e12, H⟩ := cF H;refine aa ?_;show AR _ _ _ _ _ [0, 1, 2] _;refine zS rfl (ah (av := .pt _ _) rfl) <| am rfl rfl (aQ [0, 0, 0] rfl eu rfl (ep F o1 a2 a3 t4 a5 a6 t7 ([60, 33] : List UInt8) x10 x11 e12) rfl (fun c A' h => by cases h.1) ?_)
 rintro av A' ⟨h, rfl⟩; cases h
 refine zS rfl (bB rfl) <| ag <| ax rfl (fun c13 => ?_) (fun c13 => ?_)
 ·replace H := aX c13 H;refine af <| aa ?_;show AR _ _ _ _ _ [0] _;refine za rfl <| ag <| aG ?_;obtain rfl := ak H;exact And.intro rfl (Exists.intro _ (Exists.intro _ ⟨aF rfl (.refl _), aB [0, 0, 0] rfl, rfl, rfl⟩))
 ·replace H := aY c13 H;refine aC <| af ?_
  rcases Or.symm (cr H) with ⟨p16, e15, H⟩ | ⟨x14, e15, H⟩
  ·subst H;refine aa ?_;show AR _ _ _ _ _ [0, 1] _;refine zS rfl (ah (av := .pt _ _) rfl) <| am rfl rfl (bb (c := cg (.iface 58 (.agg #[.int .i64 p16]))) [0, 0, 0] rfl gr rfl (hH F o1 x11 a3 t4 a5 a6 t7 ([62] : List UInt8) p16 e15) rfl ?_);exact And.intro rfl (Exists.intro [] ⟨ba _, rfl, rfl⟩)
  refine aa ?_;show AR _ _ _ _ _ [0, 1] _;refine zS rfl (ah (av := .pt _ _) rfl) <| am rfl rfl (aQ [0, 0, 0] rfl gr rfl (ji F o1 x11 a3 t4 a5 a6 t7 ([62] : List UInt8) x14.1 x14.2 e15) rfl (fun c A' h => by cases h.1) ?_)
  rintro av A' ⟨h, rfl⟩; cases h
  refine ag <| af <| aa ?_;show AR _ _ _ _ _ [0] _;refine za rfl <| ag <| aG ?_;obtain rfl := ak H;exact And.intro rfl (Exists.intro _ (Exists.intro _ ⟨aF rfl (.refl _), aB [0, 0, 0] rfl, rfl, rfl⟩))
theorem vh (F : Nat) (o1 : Nat) (a2 : List UInt8) (a3 : List (List UInt8)) (t4 : Nat) (a5 : Int) (a6 : List (Int × (List UInt8) × (List UInt8) × List ((List UInt8) × List UInt8))) (t7 : Nat) (r8 : Bool) (r9 : List UInt8) (H : qK F a2 a3 a5 a6 = some (Res.ok (r8, r9))) : ACalls Tryz.prog 35 [.pt o1 0] [.obj o1 [S a2, .sk t4 a3.length, i64 a5, slE (ab Enc.int (ab Enc.str (ab Enc.str (Enc.sl (ab Enc.str Enc.str))))) a6 (some t7)], .stk t4 (Enc.str.fl a3), .tok t7 43] (fun e A' => e = .ret (B r8) ∧ A' = [.obj o1 [S r9, .sk t4 a3.length, i64 a5, slE (ab Enc.int (ab Enc.str (ab Enc.str (Enc.sl (ab Enc.str Enc.str))))) a6 (some t7)], .stk t4 (Enc.str.fl a3), .tok t7 43]) := vM F o1 a2 a3 t4 a5 a6 t7 _ H
theorem ul (F : Nat) (o1 : Nat) (a2 : List UInt8) (a3 : List (List UInt8)) (t4 : Nat) (a5 : Int) (a6 : List (Int × (List UInt8) × (List UInt8) × List ((List UInt8) × List UInt8))) (t7 : Nat) (e : Int) (H : qK F a2 a3 a5 a6 = some (Res.pan e)) : ACalls Tryz.prog 35 [.pt o1 0] [.obj o1 [S a2, .sk t4 a3.length, i64 a5, slE (ab Enc.int (ab Enc.str (ab Enc.str (Enc.sl (ab Enc.str Enc.str))))) a6 (some t7)], .stk t4 (Enc.str.fl a3), .tok t7 43] (fun ae A' => ae = .pan ((fun e => cg (.iface 58 (.agg #[.int .i64 e]))) e) ∧ A' = []) := vM F o1 a2 a3 t4 a5 a6 t7 _ H
set_option maxRecDepth 100000 in
set_option maxHeartbeats 1000000 in
theorem qp (F : Nat) (o1 : Nat) (a2 : List UInt8) (a3 : List (List UInt8)) (t4 : Nat) (a5 : Int) (a6 : List (Int × (List UInt8) × (List UInt8) × List ((List UInt8) × List UInt8))) (t7 : Nat) (rv : Res (Bool × (List UInt8) × (List (Int × (List UInt8) × (List UInt8) × List ((List UInt8) × List UInt8))) × (List (List UInt8)))) (H : iW F a2 a3 a5 a6 = some rv) : ACalls Tryz.prog 36 [.pt o1 0] [.obj o1 [S a2, .sk t4 a3.length, i64 a5, slE (ab Enc.int (ab Enc.str (ab Enc.str (Enc.sl (ab Enc.str Enc.str))))) a6 (some t7)], .stk t4 (Enc.str.fl a3), .tok t7 43] (jw (fun (r : Bool × (List UInt8) × (List (Int × (List UInt8) × (List UInt8) × List ((List UInt8) × List UInt8))) × (List (List UInt8))) => (fun e A' => e = .ret (B r.1) ∧ ∃ t11 t13, A' = [.obj o1 [S r.2.1, .sk t11 r.2.2.2.length, i64 a5, slE (ab Enc.int (ab Enc.str (ab Enc.str (Enc.sl (ab Enc.str Enc.str))))) r.2.2.1 (some t13)], .stk t11 (Enc.str.fl r.2.2.2), .tok t13 43])) (fun e => cg (.iface 58 (.agg #[.int .i64 e]))) rv) := by
 unfold iW at H
 refine ap Tryz.func36 rfl rfl ?_;show AW _ _ 17 _ _ _;refine af <| aa ?_;show AR _ _ _ _ _ [0] _;refine za rfl <| ag <| af <| af ?_;obtain ⟨x14, x15, e16, H⟩ := cF H;refine aa ?_;show AR _ _ _ _ _ [0, 1, 2] _;refine zS rfl (ah (av := .pt _ _) rfl) <| am rfl rfl (aQ [0, 0, 0] rfl eu rfl (ep F o1 a2 a3 t4 a5 a6 t7 ([60, 47] : List UInt8) x14 x15 e16) rfl (fun c A' h => by cases h.1) ?_)
 rintro av A' ⟨h, rfl⟩; cases h
 refine zS rfl (bB rfl) <| ag <| ax rfl (fun c17 => ?_) (fun c17 => ?_)
 ·replace H := aX c17 H;refine af <| aa ?_;show AR _ _ _ _ _ [0] _;refine za rfl <| ag <| aG ?_;obtain rfl := ak H;exact And.intro rfl (Exists.intro _ (Exists.intro _ ⟨aF rfl (.refl _), aB [0, 0, 0] rfl, rfl, t4, t7, rfl⟩))
 ·replace H := aY c17 H;refine aC <| af ?_
  rcases Or.symm (cr H) with ⟨p20, e19, H⟩ | ⟨x18, e19, H⟩
  ·subst H;refine aa ?_;show AR _ _ _ _ _ [0, 1, 2] _;refine zS rfl (ah (av := .pt _ _) rfl) <| am rfl rfl (bb (c := cg (.iface 58 (.agg #[.int .i64 p20]))) [0, 0, 0] rfl kW rfl (lN F o1 x15 a3 t4 a5 a6 t7 p20 e19) rfl ?_);exact And.intro rfl (Exists.intro [] ⟨ba _, rfl, rfl⟩)
  refine aa ?_;show AR _ _ _ _ _ [0, 1, 2] _;refine zS rfl (ah (av := .pt _ _) rfl) <| am rfl rfl (aQ [0, 0, 0] rfl kW rfl (mD F o1 x15 a3 t4 a5 a6 t7 x18.1 x18.2 e19) rfl (fun c A' h => by cases h.1) ?_)
  rintro av A' ⟨h, rfl⟩; cases h
  refine za rfl <| ag <| af ?_;obtain ⟨x21, x22, e23, H⟩ := cF H;refine aa ?_;show AR _ _ _ _ _ [0, 1] _;refine zS rfl (ah (av := .pt _ _) rfl) <| am rfl rfl (aQ [0, 0, 0] rfl tL rfl (qo F o1 x18.2 a3 t4 a5 a6 t7 x21 x22 e23) rfl (fun c A' h => by cases h.1) ?_)
  rintro av A' ⟨h, rfl⟩; cases h
  refine ag <| af ?_;obtain ⟨x24, x25, e26, H⟩ := cF H
  rcases Or.symm (cr H) with ⟨p29, e28, H⟩ | ⟨x27, e28, H⟩
  ·subst H;refine aa ?_;show AR _ _ _ _ _ [0, 1, 2] _;refine zS rfl (ah (av := .pt _ _) rfl) <| am rfl rfl (aQ [0, 0, 0] rfl eu rfl (ep F o1 x22 a3 t4 a5 a6 t7 ([62] : List UInt8) x24 x25 e26) rfl (fun c A' h => by cases h.1) ?_)
   rintro av A' ⟨h, rfl⟩; cases h
   refine am rfl rfl (bb (c := cg (.iface 58 (.agg #[.int .i64 p29]))) [] rfl bW rfl (bX F x24 p29 e28) rfl ?_);exact And.intro rfl (Exists.intro [] ⟨ba _, rfl, rfl⟩)
  refine aa ?_;show AR _ _ _ _ _ [0, 1, 2] _;refine zS rfl (ah (av := .pt _ _) rfl) <| am rfl rfl (aQ [0, 0, 0] rfl eu rfl (ep F o1 x22 a3 t4 a5 a6 t7 ([62] : List UInt8) x24 x25 e26) rfl (fun c A' h => by cases h.1) ?_)
  rintro av A' ⟨h, rfl⟩; cases h
  refine am rfl rfl (aA rfl bW rfl (co F x24 e28) ?_);refine ag <| af ?_
  rcases Or.symm (cr H) with ⟨p32, e31, H⟩ | ⟨x30, e31, H⟩
  ·subst H;refine aa ?_;show AR _ _ _ _ _ [0, 1, 2] _;refine zS rfl (ah (av := .pt _ _) rfl) <| zm rfl <| am rfl rfl (bb (c := cg (.iface 58 (.agg #[.int .i64 p32]))) [0, 0, 0] rfl nS rfl (ow F o1 x25 a3 t4 a5 a6 t7 x18.1 p32 e31) rfl ?_);exact And.intro rfl (Exists.intro [] ⟨ba _, rfl, rfl⟩)
  refine aa ?_;show AR _ _ _ _ _ [0, 1, 2] _;refine zS rfl (ah (av := .pt _ _) rfl) <| zm rfl <| am rfl rfl (aQ [0, 0, 0] rfl nS rfl (pf F o1 x25 a3 t4 a5 a6 t7 x18.1 x30.1 x30.2 e31) rfl (fun c A' h => by cases h.1) ?_)
  rintro av A' ⟨h, t33, t34, rfl⟩; cases h
  refine ag <| af <| aa ?_;show AR _ _ _ _ _ [0] _;refine za rfl <| ag <| aG ?_;obtain rfl := ak H;exact And.intro rfl (Exists.intro _ (Exists.intro _ ⟨aF rfl (.refl _), aB [0, 0, 0] rfl, rfl, t33, t34, rfl⟩))
theorem rm (F : Nat) (o1 : Nat) (a2 : List UInt8) (a3 : List (List UInt8)) (t4 : Nat) (a5 : Int) (a6 : List (Int × (List UInt8) × (List UInt8) × List ((List UInt8) × List UInt8))) (t7 : Nat) (r8 : Bool) (r9 : List UInt8) (r12 : List (Int × (List UInt8) × (List UInt8) × List ((List UInt8) × List UInt8))) (r10 : List (List UInt8)) (H : iW F a2 a3 a5 a6 = some (Res.ok (r8, r9, r12, r10))) : ACalls Tryz.prog 36 [.pt o1 0] [.obj o1 [S a2, .sk t4 a3.length, i64 a5, slE (ab Enc.int (ab Enc.str (ab Enc.str (Enc.sl (ab Enc.str Enc.str))))) a6 (some t7)], .stk t4 (Enc.str.fl a3), .tok t7 43] (fun e A' => e = .ret (B r8) ∧ ∃ t11 t13, A' = [.obj o1 [S r9, .sk t11 r10.length, i64 a5, slE (ab Enc.int (ab Enc.str (ab Enc.str (Enc.sl (ab Enc.str Enc.str))))) r12 (some t13)], .stk t11 (Enc.str.fl r10), .tok t13 43]) := qp F o1 a2 a3 t4 a5 a6 t7 _ H
theorem qO (F : Nat) (o1 : Nat) (a2 : List UInt8) (a3 : List (List UInt8)) (t4 : Nat) (a5 : Int) (a6 : List (Int × (List UInt8) × (List UInt8) × List ((List UInt8) × List UInt8))) (t7 : Nat) (e : Int) (H : iW F a2 a3 a5 a6 = some (Res.pan e)) : ACalls Tryz.prog 36 [.pt o1 0] [.obj o1 [S a2, .sk t4 a3.length, i64 a5, slE (ab Enc.int (ab Enc.str (ab Enc.str (Enc.sl (ab Enc.str Enc.str))))) a6 (some t7)], .stk t4 (Enc.str.fl a3), .tok t7 43] (fun ae A' => ae = .pan ((fun e => cg (.iface 58 (.agg #[.int .i64 e]))) e) ∧ A' = []) := qp F o1 a2 a3 t4 a5 a6 t7 _ H
set_option maxRecDepth 100000 in
set_option maxHeartbeats 1000000 in
theorem ta (F : Nat) (o1 : Nat) (a2 : List UInt8) (a3 : List (List UInt8)) (t4 : Nat) (a5 : Int) (a6 : List (Int × (List UInt8) × (List UInt8) × List ((List UInt8) × List UInt8))) (t7 : Nat) (rv : Res ((List UInt8) × (List UInt8) × (List UInt8))) (H : mY F a2 a3 a5 a6 = some rv) : ACalls Tryz.prog 53 [.pt o1 0] [.obj o1 [S a2, .sk t4 a3.length, i64 a5, slE (ab Enc.int (ab Enc.str (ab Enc.str (Enc.sl (ab Enc.str Enc.str))))) a6 (some t7)], .stk t4 (Enc.str.fl a3), .tok t7 43] (jw (fun (r : (List UInt8) × (List UInt8) × (List UInt8)) => (fun e A' => e = .ret (.agg [S r.1, S r.2.1]) ∧ A' = [.obj o1 [S r.2.2, .sk t4 a3.length, i64 a5, slE (ab Enc.int (ab Enc.str (ab Enc.str (Enc.sl (ab Enc.str Enc.str))))) a6 (some t7)], .stk t4 (Enc.str.fl a3), .tok t7 43])) (fun e => cg (.iface 58 (.agg #[.int .i64 e]))) rv) := by
 unfold mY at H
 refine ap Tryz.func53 rfl rfl ?_;show AW _ _ 26 _ _ _;refine af <| aa ?_;show AR _ _ _ _ _ [0] _;refine zX rfl (bg (zs := [.string ⟨#[]⟩, .string ⟨#[]⟩]) (by kernel_rfl)) ?_;rintro _ _ ⟨o11, rfl, rfl⟩;refine ag <| af ?_
 rcases Or.symm (cr H) with ⟨p14, e13, H⟩ | ⟨x12, e13, H⟩
 ·subst H;refine aa ?_;show AR _ _ _ _ _ [0, 1, 2, 3, 4] _;refine zS rfl (ah (av := .pt _ _) rfl) <| am rfl rfl (bb (c := cg (.iface 58 (.agg #[.int .i64 p14]))) [1, 1, 1] rfl kW rfl (lN F o1 a2 a3 t4 a5 a6 t7 p14 e13) rfl ?_);exact And.intro rfl (Exists.intro [] ⟨ba _, rfl, rfl⟩)
 refine aa ?_;show AR _ _ _ _ _ [0, 1, 2, 3, 4] _;refine zS rfl (ah (av := .pt _ _) rfl) <| am rfl rfl (aQ [1, 1, 1] rfl kW rfl (mD F o1 a2 a3 t4 a5 a6 t7 x12.1 x12.2 e13) rfl (fun c A' h => by cases h.1) ?_)
 rintro av A' ⟨h, rfl⟩; cases h
 refine zS rfl (cK (zs := [.string ⟨#[]⟩, .string ⟨#[]⟩]) (ps := [(0, 1), (1, 1)]) (cs := [S x12.1, S ([] : List UInt8)]) (by kernel_rfl) rfl rfl) <| zX rfl (bg (zs := [.string ⟨#[]⟩, .string ⟨#[]⟩]) (by kernel_rfl)) ?_;rintro _ _ ⟨o15, rfl, rfl⟩;refine s0 rfl rfl (aV (i := 0) (vs := [S x12.1, S ([] : List UInt8)]) (by kernel_rfl) rfl rfl (by simp [bz, slE]) rfl (ac rfl)) <| ag <| af <| aa ?_;show AR _ _ _ _ _ [0] _;refine za rfl <| ag <| bM (X := (List UInt8) × (List UInt8)) (fun (y26, y27) => ⟨[(0, .pt o1 0), (2, .pt o11 0), (3, .pt o15 0), (4, S y26)], [], [.obj o1 [S y27, .sk t4 a3.length, i64 a5, slE (ab Enc.int (ab Enc.str (ab Enc.str (Enc.sl (ab Enc.str Enc.str))))) a6 (some t7)], .obj o15 [S x12.1, S ([] : List UInt8)], .obj o11 [S ([] : List UInt8), S ([] : List UInt8)], .stk t4 (Enc.str.fl a3), .tok t7 43]⟩) (fun (y26, y27) => iA F a3 a5 a6 x12 y26 y27 = some rv) ?_ ?_
 ·refine af ?_;obtain ⟨x16, x17, e18, H⟩ := cF H;refine aa ?_;show AR _ _ _ _ _ [0, 1, 2] _;refine zS rfl (ah (av := .pt _ _) rfl) <| am rfl rfl (aQ [1, 1, 1] rfl eu rfl (ep F o1 x12.2 a3 t4 a5 a6 t7 ([61, 34] : List UInt8) x16 x17 e18) rfl (fun c A' h => by cases h.1) ?_)
  rintro av A' ⟨h, rfl⟩; cases h
  refine zS rfl (bB rfl) <| ag <| ax rfl (fun c19 => ?_) (fun c19 => ?_)
  ·replace H := aX c19 H;refine af ?_;obtain ⟨x20, x21, e22, H⟩ := cF H
   rcases Or.symm (cr H) with ⟨p25, e24, H⟩ | ⟨x23, e24, H⟩
   ·subst H;refine aa ?_;show AR _ _ _ _ _ [0, 1, 2] _;refine zS rfl (ah (av := .pt _ _) rfl) <| am rfl rfl (aQ [0, 0, 0] rfl eu rfl (ep F o1 x17 a3 t4 a5 a6 t7 ([61, 39] : List UInt8) x20 x21 e22) rfl (fun c A' h => by cases h.1) ?_)
    rintro av A' ⟨h, rfl⟩; cases h
    refine am rfl rfl (bb (c := cg (.iface 58 (.agg #[.int .i64 p25]))) [] rfl bW rfl (bX F x20 p25 e24) rfl ?_);exact And.intro rfl (Exists.intro [] ⟨ba _, rfl, rfl⟩)
   refine aa ?_;show AR _ _ _ _ _ [0, 1, 2] _;refine zS rfl (ah (av := .pt _ _) rfl) <| am rfl rfl (aQ [0, 0, 0] rfl eu rfl (ep F o1 x17 a3 t4 a5 a6 t7 ([61, 39] : List UInt8) x20 x21 e22) rfl (fun c A' h => by cases h.1) ?_)
   rintro av A' ⟨h, rfl⟩; cases h
   refine am rfl rfl (aA rfl bW rfl (co F x20 e24) ?_);refine ag <| aa ?_;show AR _ _ _ _ _ [0] _;refine za rfl <| ag ?_;exact Exists.intro (([39] : List UInt8), x21) ⟨H, be [0, 2, 2, 0, 0] (.cons (.refl _) (.cons (.refl _) (.cons (.refl _) (.cons (.refl _) (.nil _))))) rfl⟩
  ·replace H := aY c19 H;refine aC ?_;exact Exists.intro (([34] : List UInt8), x17) ⟨H, be [0, 2, 2, 0, 0] (.cons (.refl _) (.cons (.refl _) (.cons (.refl _) (.cons (.refl _) (.nil _))))) rfl⟩
 rintro ⟨y26, y27⟩ H;replace H : iA F a3 a5 a6 x12 y26 y27 = some rv := H
 unfold iA at H
 refine af ?_
 rcases Or.symm (cr H) with ⟨p31, e30, H⟩ | ⟨x29, e30, H⟩
 ·subst H;refine aa ?_;show AR _ _ _ _ _ [0, 1, 2, 3] _;refine zS rfl (ah (av := .pt _ _) rfl) <| zm rfl <| am rfl rfl (bb (c := cg (.iface 58 (.agg #[.int .i64 p31]))) [0, 2, 2] rfl gr rfl (hH F o1 y27 a3 t4 a5 a6 t7 y26 p31 e30) rfl ?_);exact And.intro rfl (Exists.intro [] ⟨ba _, rfl, rfl⟩)
 refine aa ?_;show AR _ _ _ _ _ [0, 1, 2, 3] _;refine zS rfl (ah (av := .pt _ _) rfl) <| zm rfl <| am rfl rfl (aQ [0, 2, 2] rfl gr rfl (ji F o1 y27 a3 t4 a5 a6 t7 y26 x29.1 x29.2 e30) rfl (fun c A' h => by cases h.1) ?_)
 rintro av A' ⟨h, rfl⟩; cases h
 refine za rfl <| ag <| af ?_;obtain ⟨g32, H⟩ := aM H;obtain ⟨x33, e34, H⟩ := bL H
 rcases Or.symm (cr H) with ⟨p37, e36, H⟩ | ⟨x35, e36, H⟩
 ·subst H;refine aa ?_;show AR _ _ _ _ _ [0, 1, 2, 3] _;refine zm rfl <| am rfl rfl (aA rfl qi rfl (show ACalls _ _ _ [] (Ret (B x33) []) from by subst e34; exact gO x29.1 ([60] : List UInt8) (mW g32)) ?_);refine zS rfl (bB rfl) <| am rfl rfl (bb (c := cg (.iface 58 (.agg #[.int .i64 p37]))) [] rfl bW rfl (bX F (!x33) p37 e36) rfl ?_);exact And.intro rfl (Exists.intro [] ⟨ba _, rfl, rfl⟩)
 refine aa ?_;show AR _ _ _ _ _ [0, 1, 2, 3] _;refine zm rfl <| am rfl rfl (aA rfl qi rfl (show ACalls _ _ _ [] (Ret (B x33) []) from by subst e34; exact gO x29.1 ([60] : List UInt8) (mW g32)) ?_);refine zS rfl (bB rfl) <| am rfl rfl (aA rfl bW rfl (co F (!x33) e36) ?_);refine ag <| af ?_
 rcases Or.symm (cr H) with ⟨p40, e39, H⟩ | ⟨x38, e39, H⟩
 ·subst H;refine aa ?_;show AR _ _ _ _ _ [0, 1, 2, 3] _;refine zm rfl <| am rfl rfl (bb (c := cg (.iface 58 (.agg #[.int .i64 p40]))) [] rfl nT rfl (mN F x29.1 p40 e39) rfl ?_);exact And.intro rfl (Exists.intro [] ⟨ba _, rfl, rfl⟩)
 refine aa ?_;show AR _ _ _ _ _ [0, 1, 2, 3] _;refine zm rfl <| am rfl rfl (aA rfl nT rfl (nq F x29.1 x38 e39) ?_);refine zS rfl (an (n := 1) (by kernel_rfl) rfl) <| s0 rfl rfl (aq (i := 3) (c := .v _) (by kernel_rfl) rfl rfl rfl rfl (ac rfl)) <| ag <| af <| aa ?_;show AR _ _ _ _ _ [0, 1] _;refine zR rfl (dZ (i := 3) (n := 2) Tryz.underlying94 rfl (by kernel_rfl) rfl rfl (ac rfl)) <| s0 rfl rfl (aV (i := 4) (vs := [S x12.1, S x38]) (by kernel_rfl) rfl rfl (by simp [bz, slE]) rfl (ac rfl)) <| ag <| aG ?_;obtain rfl := ak H;exact And.intro rfl (Exists.intro _ (Exists.intro _ ⟨dk (lH rfl (CellV.agg (off := 0) (cs := [S x12.1, S x38]) (n := 2) 4 Tryz.underlying94 rfl (by kernel_rfl) rfl rfl (ac rfl))), aB [0, 0, 0] rfl, rfl, rfl⟩))
theorem un (F : Nat) (o1 : Nat) (a2 : List UInt8) (a3 : List (List UInt8)) (t4 : Nat) (a5 : Int) (a6 : List (Int × (List UInt8) × (List UInt8) × List ((List UInt8) × List UInt8))) (t7 : Nat) (r8 : List UInt8) (r9 : List UInt8) (r10 : List UInt8) (H : mY F a2 a3 a5 a6 = some (Res.ok (r8, r9, r10))) : ACalls Tryz.prog 53 [.pt o1 0] [.obj o1 [S a2, .sk t4 a3.length, i64 a5, slE (ab Enc.int (ab Enc.str (ab Enc.str (Enc.sl (ab Enc.str Enc.str))))) a6 (some t7)], .stk t4 (Enc.str.fl a3), .tok t7 43] (fun e A' => e = .ret (.agg [S r8, S r9]) ∧ A' = [.obj o1 [S r10, .sk t4 a3.length, i64 a5, slE (ab Enc.int (ab Enc.str (ab Enc.str (Enc.sl (ab Enc.str Enc.str))))) a6 (some t7)], .stk t4 (Enc.str.fl a3), .tok t7 43]) := ta F o1 a2 a3 t4 a5 a6 t7 _ H
theorem sq (F : Nat) (o1 : Nat) (a2 : List UInt8) (a3 : List (List UInt8)) (t4 : Nat) (a5 : Int) (a6 : List (Int × (List UInt8) × (List UInt8) × List ((List UInt8) × List UInt8))) (t7 : Nat) (e : Int) (H : mY F a2 a3 a5 a6 = some (Res.pan e)) : ACalls Tryz.prog 53 [.pt o1 0] [.obj o1 [S a2, .sk t4 a3.length, i64 a5, slE (ab Enc.int (ab Enc.str (ab Enc.str (Enc.sl (ab Enc.str Enc.str))))) a6 (some t7)], .stk t4 (Enc.str.fl a3), .tok t7 43] (fun ae A' => ae = .pan ((fun e => cg (.iface 58 (.agg #[.int .i64 e]))) e) ∧ A' = []) := ta F o1 a2 a3 t4 a5 a6 t7 _ H
set_option maxRecDepth 100000 in
set_option maxHeartbeats 1000000 in
theorem wG (F : Nat) (a1 : List UInt8) (a2 : List UInt8) (o3 : Nat) (a4 : List UInt8) (a5 : List UInt8) (r6 : Bool) (H : pz F a1 a2 a4 a5 = some r6) : ACalls Tryz.prog 55 [.agg [S a1, S a2], .pt o3 0] [.obj o3 [S a4, S a5]] (fun e A' => e = .ret (B r6) ∧ A' = [.obj o3 [S a4, S a5]]) := by
 unfold pz at H
 refine ap Tryz.func55 rfl rfl ?_;show AW _ _ 9 _ _ _;refine af <| aa ?_;show AR _ _ _ _ _ [0, 1] _;refine zR rfl (dS rfl (.inr ⟨_, rfl⟩)) <| za rfl <| ag <| af <| aa ?_;show AR _ _ _ _ _ [0, 1, 2, 3, 4, 5] _;refine zS rfl (an (n := 0) (by kernel_rfl) rfl) <| zR rfl (ao (i := 0) ai rfl rfl rfl rfl) <| zS rfl (aP (n := 0) (by kernel_rfl) rfl (ac rfl)) <| zS rfl (aL ai rfl rfl) <| zS rfl (eo rfl rfl) <| za rfl <| ag <| aG ?_;obtain rfl := ak H;exact And.intro rfl (Exists.intro _ (Exists.intro _ ⟨aF rfl (.refl _), aB [0] rfl, rfl, rfl⟩))
set_option maxRecDepth 100000 in
set_option maxHeartbeats 1000000 in
theorem rn (F : Nat) (a1 : List ((List UInt8) × List UInt8)) (q2 : Option Nat) (o3 : Nat) (a4 : List UInt8) (a5 : List UInt8) (r6 : Int) (H : kI F a1 a4 a5 = some r6) : ACalls Tryz.prog 65 [slE (ab Enc.str Enc.str) a1 q2, .fn (.func 55) [] [.pt o3 0]] [.obj o3 [S a4, S a5]] (fun e A' => e = .ret (i64 r6) ∧ A' = [.obj o3 [S a4, S a5]]) := by
 unfold kI at H
 refine ap Tryz.func65 rfl rfl ?_;show AW _ _ 19 _ _ _;refine af <| aa ?_;show AR _ _ _ _ _ [0] _;refine za rfl <| ag <| bM (X := Unit) (fun _ => ⟨[], [], [.obj o3 [S a4, S a5]]⟩) (fun _ => ij = some r6) ?_ ?_
 ·refine af <| aa ?_;show AR _ _ _ _ _ [0, 1, 2] _;refine zS rfl (ah (av := slE _ _ _) rfl) <| zS rfl (bE cq rfl) <| zm rfl <| ag <| aU <| dp (X := Nat × Int) (fun (n9, y7) => ⟨[(0, slE (ab Enc.str Enc.str) a1 q2), (1, .fn (.func 55) [] [.pt o3 0]), (7, i64 (a1.length : Int)), (8, i64 y7)], [], [.obj o3 [S a4, S a5]]⟩) (fun (n9, y7) => eJ F a1 a4 a5 n9 y7 = some r6) (fun (n9, y7) => n9) (F, 0) H (be [0] (.cons (.refl _) (.cons (.refl _) (.cons (.refl _) (.cons (.refl _) (.nil _))))) rfl) ?_;rintro ⟨n9, y7⟩ H;obtain ⟨n9, rfl, H⟩ := fA H;replace H : fU F a1 a4 a5 (eJ F a1 a4 a5 n9) y7 = some r6 := H
  unfold fU at H
  refine af <| aa ?_;show AR _ _ _ _ _ [0] _;refine zS rfl (cf rfl rfl) <| ag <| af <| ax rfl (fun c10 => ?_) (fun c10 => ?_)
  ·replace H := aX c10 H;refine aC <| af <| aU <| af <| aa ?_;show AR _ _ _ _ _ [0, 1] _;refine zm rfl <| za rfl <| ag <| af ?_;obtain ⟨g11, H⟩ := aM H;obtain ⟨x12, e13, H⟩ := bL H;obtain ⟨x14, e15, H⟩ := bU H;refine aa ?_;show AR _ _ _ _ _ [0, 1, 2, 3, 4, 5] _;refine zS rfl (ah (av := .fn _ _ _) rfl) <| zS rfl (ah (av := slE _ _ _) rfl) <| zm rfl <| zS rfl (dH (E := (ab Enc.str Enc.str)) cq (by kernel_rfl) rfl rfl g11 e13) <| zS rfl (ca Tryz.underlying94 rfl (n := 2) (by kernel_rfl) rfl (ac rfl)) <| am rfl rfl (fp [0] rfl (.inl rfl) yZ rfl (wG F x12.1 x12.2 o3 a4 a5 x14 e15) rfl (fun c A' h => by cases h.1) ?_)
   rintro av A' ⟨h, rfl⟩; cases h
   refine ag <| ax rfl (fun c16 => ?_) (fun c16 => ?_)
   ·replace H := aX c16 H;refine af <| aa ?_;show AR _ _ _ _ _ [0, 1] _;refine zm rfl <| za rfl <| ag <| aG ?_;obtain rfl := ak H;exact And.intro rfl (Exists.intro _ (Exists.intro _ ⟨aF rfl (.refl _), aB [0] rfl, rfl, rfl⟩))
   ·replace H := aY c16 H;refine aC ?_;obtain ⟨g17, H⟩ := aM H;refine aa ?_;show AR _ _ _ _ _ [0, 1] _;refine zS rfl (dl rfl rfl g17) <| zm rfl <| ag ?_;exact Exists.intro (n9, y7 + 1) ⟨H, Nat.lt_succ_self _, be [0] (.cons (.refl _) (.cons (.refl _) (.cons (.refl _) (.cons (.refl _) (.nil _))))) rfl⟩
  ·replace H := aY c10 H;refine cB ?_;exact Exists.intro () ⟨H, be [0] (.nil _) rfl⟩
 rintro _ H;replace H : ij = some r6 := H
 unfold ij at H
 refine af <| aa ?_;show AR _ _ _ _ _ [0] _;refine za rfl <| ag <| aG ?_;obtain rfl := ak H;exact And.intro rfl (Exists.intro _ (Exists.intro _ ⟨aF rfl (.refl _), aB [0] rfl, rfl, rfl⟩))
set_option maxRecDepth 100000 in
set_option maxHeartbeats 1000000 in
theorem lA (F : Nat) (a1 : List ((List UInt8) × List UInt8)) (q2 : Option Nat) (o3 : Nat) (a4 : List UInt8) (a5 : List UInt8) (r6 : Bool) (H : fV F a1 a4 a5 = some r6) : ACalls Tryz.prog 54 [slE (ab Enc.str Enc.str) a1 q2, .fn (.func 55) [] [.pt o3 0]] [.obj o3 [S a4, S a5]] (fun e A' => e = .ret (B r6) ∧ A' = [.obj o3 [S a4, S a5]]) := by
 unfold fV at H
 refine ap Tryz.func54 rfl rfl ?_;show AW _ _ 9 _ _ _;refine af <| aa ?_;show AR _ _ _ _ _ [0] _;refine za rfl <| ag <| af ?_;obtain ⟨x7, e8, H⟩ := bU H;refine aa ?_;show AR _ _ _ _ _ [0, 1, 2, 3, 4] _;refine zS rfl (ah (av := slE _ _ _) rfl) <| zS rfl (ah (av := .fn _ _ _) rfl) <| am rfl rfl (aQ [0] rfl yT rfl (rn F a1 q2 o3 a4 a5 x7 e8) rfl (fun c A' h => by cases h.1) ?_)
 rintro av A' ⟨h, rfl⟩; cases h
 refine zS rfl (fy rfl rfl) <| za rfl <| ag <| aG ?_;obtain rfl := ak H;exact And.intro rfl (Exists.intro _ (Exists.intro _ ⟨aF rfl (.refl _), aB [0] rfl, rfl, rfl⟩))
set_option maxRecDepth 100000 in
set_option maxHeartbeats 1000000 in
theorem pg (F : Nat) (o1 : Nat) (a2 : List UInt8) (a3 : List (List UInt8)) (t4 : Nat) (a5 : Int) (a6 : List (Int × (List UInt8) × (List UInt8) × List ((List UInt8) × List UInt8))) (t7 : Nat) (rv : Res (Bool × (List UInt8) × Int × (List (Int × (List UInt8) × (List UInt8) × List ((List UInt8) × List UInt8))) × (List (List UInt8)))) (H : iz F a2 a3 a5 a6 = some rv) : ACalls Tryz.prog 37 [.pt o1 0] [.obj o1 [S a2, .sk t4 a3.length, i64 a5, slE (ab Enc.int (ab Enc.str (ab Enc.str (Enc.sl (ab Enc.str Enc.str))))) a6 (some t7)], .stk t4 (Enc.str.fl a3), .tok t7 43] (jw (fun (r : Bool × (List UInt8) × Int × (List (Int × (List UInt8) × (List UInt8) × List ((List UInt8) × List UInt8))) × (List (List UInt8))) => (fun e A' => e = .ret (B r.1) ∧ ∃ t11 t14, A' = [.obj o1 [S r.2.1, .sk t11 r.2.2.2.2.length, i64 r.2.2.1, slE (ab Enc.int (ab Enc.str (ab Enc.str (Enc.sl (ab Enc.str Enc.str))))) r.2.2.2.1 (some t14)], .stk t11 (Enc.str.fl r.2.2.2.2), .tok t14 43])) (fun e => cg (.iface 58 (.agg #[.int .i64 e]))) rv) := by
 unfold iz at H
 refine ap Tryz.func37 rfl rfl ?_;show AW _ _ 88 _ _ _;refine af <| aa ?_;show AR _ _ _ _ _ [0] _;refine za rfl <| ag <| af <| af ?_;obtain ⟨x15, x16, e17, H⟩ := cF H;refine aa ?_;show AR _ _ _ _ _ [0, 1, 2] _;refine zS rfl (ah (av := .pt _ _) rfl) <| am rfl rfl (aQ [0, 0, 0] rfl eu rfl (ep F o1 a2 a3 t4 a5 a6 t7 ([60] : List UInt8) x15 x16 e17) rfl (fun c A' h => by cases h.1) ?_)
 rintro av A' ⟨h, rfl⟩; cases h
 refine zS rfl (bB rfl) <| ag <| ax rfl (fun c18 => ?_) (fun c18 => ?_)
 ·replace H := aX c18 H;refine af <| aa ?_;show AR _ _ _ _ _ [0] _;refine za rfl <| ag <| aG ?_;obtain rfl := ak H;exact And.intro rfl (Exists.intro _ (Exists.intro _ ⟨aF rfl (.refl _), aB [0, 0, 0] rfl, rfl, t4, t7, rfl⟩))
 ·replace H := aY c18 H;refine aC <| af ?_
  rcases Or.symm (cr H) with ⟨p21, e20, H⟩ | ⟨x19, e20, H⟩
  ·subst H;refine aa ?_;show AR _ _ _ _ _ [0, 1, 2, 3, 4] _;refine zS rfl (ah (av := .pt _ _) rfl) <| am rfl rfl (bb (c := cg (.iface 58 (.agg #[.int .i64 p21]))) [0, 0, 0] rfl kW rfl (lN F o1 x16 a3 t4 a5 a6 t7 p21 e20) rfl ?_);exact And.intro rfl (Exists.intro [] ⟨ba _, rfl, rfl⟩)
  refine aa ?_;show AR _ _ _ _ _ [0, 1, 2, 3, 4] _;refine zS rfl (ah (av := .pt _ _) rfl) <| am rfl rfl (aQ [0, 0, 0] rfl kW rfl (mD F o1 x16 a3 t4 a5 a6 t7 x19.1 x19.2 e20) rfl (fun c A' h => by cases h.1) ?_)
  rintro av A' ⟨h, rfl⟩; cases h
  refine zS rfl (cK (zs := [.int .i64 0, .string ⟨#[]⟩, .string ⟨#[]⟩, .slice none 0 0]) (ps := [(0, 1), (1, 1), (2, 1), (3, 1)]) (cs := [i64 0, S x19.1, S ([] : List UInt8), eH]) (by kernel_rfl) rfl rfl) <| zX rfl (bg (zs := [.int .i64 0, .string ⟨#[]⟩, .string ⟨#[]⟩, .slice none 0 0]) (by kernel_rfl)) ?_;rintro _ _ ⟨o22, rfl, rfl⟩;refine s0 rfl rfl (aV (i := 0) (vs := [i64 0, S x19.1, S ([] : List UInt8), eH]) (by kernel_rfl) rfl rfl (by simp [bz, slE]) rfl (ac rfl)) <| ag ?_
  refine jo 0 3 2 94 rfl rfl fun t23 => ?_
  show AW _ _ _ _ _ ⟨_, _, [.tok t23 94, .obj o22 [i64 0, S x19.1, S ([] : List UInt8), slE (ab Enc.str Enc.str) [] (some t23)], .obj o1 [S x19.2, .sk t4 a3.length, i64 a5, slE (ab Enc.int (ab Enc.str (ab Enc.str (Enc.sl (ab Enc.str Enc.str))))) a6 (some t7)], .stk t4 (Enc.str.fl a3), .tok t7 43]⟩;refine af <| aa ?_;show AR _ _ _ _ _ [0] _;refine za rfl <| ag <| bM (X := Bool × (List UInt8) × (List ((List UInt8) × List UInt8)) × Nat) (fun (y56, y57, y58, t59) => ⟨[(0, .pt o1 0), (3, .pt o22 0), (4, B y56)], [], [.obj o1 [S y57, .sk t4 a3.length, i64 a5, slE (ab Enc.int (ab Enc.str (ab Enc.str (Enc.sl (ab Enc.str Enc.str))))) a6 (some t7)], .obj o22 [i64 0, S x19.1, S ([] : List UInt8), slE (ab Enc.str Enc.str) y58 (some t59)], .stk t4 (Enc.str.fl a3), .tok t7 43, .tok t59 94]⟩) (fun (y56, y57, y58, t59) => eU F a3 a5 a6 x19 y56 y57 y58 = some rv) ?_ ?_
  ·refine aU <| dp (X := Nat × (List ((List UInt8) × List UInt8)) × Nat × (List UInt8)) (fun (n28, y24, t25, y26) => ⟨[(0, .pt o1 0), (3, .pt o22 0), (4, B false)], [], [.obj o22 [i64 0, S x19.1, S ([] : List UInt8), slE (ab Enc.str Enc.str) y24 (some t25)], .obj o1 [S y26, .sk t4 a3.length, i64 a5, slE (ab Enc.int (ab Enc.str (ab Enc.str (Enc.sl (ab Enc.str Enc.str))))) a6 (some t7)], .stk t4 (Enc.str.fl a3), .tok t25 94, .tok t7 43]⟩) (fun (n28, y24, t25, y26) => gX F a3 a5 a6 x19 n28 (y24, y26) = some rv) (fun (n28, y24, t25, y26) => n28) (F, [], t23, x19.2) H (be [1, 1, 1, 0, 0] (.cons (.refl _) (.cons (.refl _) (.cons (.refl _) (.nil _)))) rfl) ?_;rintro ⟨n28, y24, t25, y26⟩ H;obtain ⟨n28, rfl, H⟩ := fA H;replace H : gY F a3 a5 a6 x19 (gX F a3 a5 a6 x19 n28) y24 y26 = some rv := H
   unfold gY at H
   refine aU <| af ?_;obtain ⟨x29, x30, e31, H⟩ := cF H;refine aa ?_;show AR _ _ _ _ _ [0, 1, 2] _;refine zS rfl (ah (av := .pt _ _) rfl) <| am rfl rfl (aQ [1, 1, 2] rfl tL rfl (qo F o1 y26 a3 t4 a5 a6 t7 x29 x30 e31) rfl (fun c A' h => by cases h.1) ?_)
   rintro av A' ⟨h, rfl⟩; cases h
   refine za rfl <| ag <| af <| af ?_;obtain ⟨x32, x33, e34, H⟩ := cF H;refine aa ?_;show AR _ _ _ _ _ [0, 1] _;refine zS rfl (ah (av := .pt _ _) rfl) <| am rfl rfl (aQ [0, 0, 0] rfl eu rfl (ep F o1 x30 a3 t4 a5 a6 t7 ([62] : List UInt8) x32 x33 e34) rfl (fun c A' h => by cases h.1) ?_)
   rintro av A' ⟨h, rfl⟩; cases h
   refine ag <| ax rfl (fun c35 => ?_) (fun c35 => ?_)
   ·replace H := aX c35 H;refine cB ?_;exact Exists.intro (false, x33, y24, t25) ⟨H, be [0, 2, 0, 0, 0] (.cons (.refl _) (.cons (.refl _) (.cons (.refl _) (.nil _)))) rfl⟩
   ·replace H := aY c35 H;refine aC <| af <| af ?_;obtain ⟨x36, x37, e38, H⟩ := cF H;refine aa ?_;show AR _ _ _ _ _ [0, 1] _;refine zS rfl (ah (av := .pt _ _) rfl) <| am rfl rfl (aQ [0, 0, 0] rfl eu rfl (ep F o1 x33 a3 t4 a5 a6 t7 ([47, 62] : List UInt8) x36 x37 e38) rfl (fun c A' h => by cases h.1) ?_)
    rintro av A' ⟨h, rfl⟩; cases h
    refine ag <| ax rfl (fun c39 => ?_) (fun c39 => ?_)
    ·replace H := aX c39 H;refine af <| aa ?_;show AR _ _ _ _ _ [0] _;refine za rfl <| ag <| cB ?_;exact Exists.intro (true, x37, y24, t25) ⟨H, be [0, 2, 0, 0, 0] (.cons (.refl _) (.cons (.refl _) (.cons (.refl _) (.nil _)))) rfl⟩
    ·replace H := aY c39 H;refine aC <| af ?_
     rcases Or.symm (cr H) with ⟨p42, e41, H⟩ | ⟨x40, e41, H⟩
     ·subst H;refine aa ?_;show AR _ _ _ _ _ [0, 1] _;refine zm rfl <| am rfl rfl (bb (c := cg (.iface 58 (.agg #[.int .i64 p42]))) [] rfl bW rfl (bX F x29 p42 e41) rfl ?_);exact And.intro rfl (Exists.intro [] ⟨ba _, rfl, rfl⟩)
     refine aa ?_;show AR _ _ _ _ _ [0, 1] _;refine zm rfl <| am rfl rfl (aA rfl bW rfl (co F x29 e41) ?_);refine ag <| af ?_
     rcases Or.symm (cr H) with ⟨p45, e44, H⟩ | ⟨x43, e44, H⟩
     ·subst H;refine aa ?_;show AR _ _ _ _ _ [0, 1, 2, 3] _;refine zS rfl (ah (av := .pt _ _) rfl) <| am rfl rfl (bb (c := cg (.iface 58 (.agg #[.int .i64 p45]))) [0, 0, 0] rfl tK rfl (sq F o1 x37 a3 t4 a5 a6 t7 p45 e44) rfl ?_);exact And.intro rfl (Exists.intro [] ⟨ba _, rfl, rfl⟩)
     refine aa ?_;show AR _ _ _ _ _ [0, 1, 2, 3] _;refine zS rfl (ah (av := .pt _ _) rfl) <| am rfl rfl (aQ [0, 0, 0] rfl tK rfl (un F o1 x37 a3 t4 a5 a6 t7 x43.1 x43.2.1 x43.2.2 e44) rfl (fun c A' h => by cases h.1) ?_)
     rintro av A' ⟨h, rfl⟩; cases h
     refine zX rfl (bg (zs := [.string ⟨#[]⟩, .string ⟨#[]⟩]) (by kernel_rfl)) ?_;rintro _ _ ⟨o46, rfl, rfl⟩;refine s0 rfl rfl (aV (i := 0) (vs := [S x43.1, S x43.2.1]) (by kernel_rfl) rfl rfl (by simp [bz, slE]) rfl (ac rfl)) <| ag <| af ?_;obtain ⟨x47, e48, H⟩ := bU H
     rcases Or.symm (cr H) with ⟨p51, e50, H⟩ | ⟨x49, e50, H⟩
     ·subst H;refine aa ?_;show AR _ _ _ _ _ [0, 1, 2, 3, 4, 5] _;refine zS rfl (an (n := 3) (by kernel_rfl) rfl) <| zR rfl (ao (i := 4) cq rfl rfl rfl rfl) <| zS rfl (fP rfl rfl) <| am rfl rfl (aQ [0] rfl tJ rfl (lA F y24 (some t25) o46 x43.1 x43.2.1 x47 e48) rfl (fun c A' h => by cases h.1) ?_)
      rintro av A' ⟨h, rfl⟩; cases h
      refine zS rfl (bB rfl) <| am rfl rfl (bb (c := cg (.iface 58 (.agg #[.int .i64 p51]))) [] rfl bW rfl (bX F (!x47) p51 e50) rfl ?_);exact And.intro rfl (Exists.intro [] ⟨ba _, rfl, rfl⟩)
     refine aa ?_;show AR _ _ _ _ _ [0, 1, 2, 3, 4, 5] _;refine zS rfl (an (n := 3) (by kernel_rfl) rfl) <| zR rfl (ao (i := 4) cq rfl rfl rfl rfl) <| zS rfl (fP rfl rfl) <| am rfl rfl (aQ [0] rfl tJ rfl (lA F y24 (some t25) o46 x43.1 x43.2.1 x47 e48) rfl (fun c A' h => by cases h.1) ?_)
     rintro av A' ⟨h, rfl⟩; cases h
     refine zS rfl (bB rfl) <| am rfl rfl (aA rfl bW rfl (co F (!x47) e50) ?_);refine ag ?_;obtain ⟨g53, H⟩ := aM H;obtain ⟨x54, e55, H⟩ := bL H;refine aa ?_;show AR _ _ _ _ _ [0, 1, 2, 3, 4, 5, 6] _;refine zS rfl (an (n := 3) (by kernel_rfl) rfl) <| zR rfl (ao (i := 4) cq rfl rfl rfl rfl) <| zR rfl (dZ (i := 0) (n := 2) Tryz.underlying94 rfl (by kernel_rfl) rfl rfl (ac rfl)) <| zR rfl (dA (E := (ab Enc.str Enc.str)) (bytes := 32) (zs := [.string ⟨#[]⟩, .string ⟨#[]⟩]) (l := ([(x43.1, x43.2.1)] : List ((List UInt8) × List UInt8))) cq (by kernel_rfl) (by kernel_rfl) rfl rfl rfl rfl rfl) <| zX rfl (kr (E := (ab Enc.str Enc.str)) (bytes := 32) 5 cq cq rfl (by kernel_rfl) rfl rfl rfl rfl g53 e55) ?_;rintro _ _ ⟨t52, rfl, rfl⟩;refine zS rfl (an (n := 3) (by kernel_rfl) rfl) <| s0 rfl rfl (aq (i := 4) (c := slE _ _ _) (by kernel_rfl) rfl rfl rfl rfl (ac rfl)) <| ag ?_;exact Exists.intro (n28, x54, t52, x43.2.2) ⟨H, Nat.lt_succ_self _, be [4, 1, 1, 2, 1] (.cons (.refl _) (.cons (.refl _) (.cons (.refl _) (.nil _)))) rfl⟩
  rintro ⟨y56, y57, y58, t59⟩ H;replace H : eU F a3 a5 a6 x19 y56 y57 y58 = some rv := H
  unfold eU at H
  refine bM (X := Int) (fun y66 => ⟨[(0, .pt o1 0), (3, .pt o22 0), (4, B y56)], [], [.obj o1 [S y57, .sk t4 a3.length, i64 y66, slE (ab Enc.int (ab Enc.str (ab Enc.str (Enc.sl (ab Enc.str Enc.str))))) a6 (some t7)], .obj o22 [i64 0, S x19.1, S ([] : List UInt8), slE (ab Enc.str Enc.str) y58 (some t59)], .stk t4 (Enc.str.fl a3), .tok t7 43, .tok t59 94]⟩) (fun y66 => eV F a3 a6 x19 y56 y57 y58 y66 = some rv) ?_ ?_
  ·refine af <| aa ?_;show AR _ _ _ _ _ [0, 1, 2, 3, 4, 5] _;refine zS rfl (ah (av := .pt _ _) rfl) <| zS rfl (ar rfl) <| zS rfl (an (n := 1) (by kernel_rfl) rfl) <| zR rfl (ao (i := 0) au rfl rfl rfl rfl) <| zS rfl (fe au rfl) <| zS rfl (bJ rfl rfl) <| ag <| ax rfl (fun c61 => ?_) (fun c61 => ?_)
   ·replace H := aX c61 H;refine af ?_;obtain ⟨g62, H⟩ := aM H;refine aa ?_;show AR _ _ _ _ _ [0, 1, 2, 3, 4, 5, 6, 7] _;refine zS rfl (ah (av := .pt _ _) rfl) <| zS rfl (ar rfl) <| zS rfl (an (n := 2) (by kernel_rfl) rfl) <| zR rfl (ao (i := 0) aK rfl rfl rfl rfl) <| zS rfl (dl rfl rfl g62) <| zS rfl (ar rfl) <| zS rfl (an (n := 2) (by kernel_rfl) rfl) <| s0 rfl rfl (aq (i := 0) (c := .v _) (by kernel_rfl) rfl rfl rfl rfl (ac rfl)) <| ag ?_
    rcases Or.symm (cr H) with ⟨p65, e64, H⟩ | ⟨x63, e64, H⟩
    ·subst H;refine aa ?_;show AR _ _ _ _ _ [0, 1, 2, 3, 4, 5] _;refine zS rfl (ah (av := .pt _ _) rfl) <| zS rfl (ar rfl) <| zS rfl (an (n := 2) (by kernel_rfl) rfl) <| zR rfl (ao (i := 0) aK rfl rfl rfl rfl) <| zS rfl (bJ rfl rfl) <| am rfl rfl (bb (c := cg (.iface 58 (.agg #[.int .i64 p65]))) [] rfl bW rfl (bX F (decide (a5 + 1 = 1)) p65 e64) rfl ?_);exact And.intro rfl (Exists.intro [] ⟨ba _, rfl, rfl⟩)
    refine aa ?_;show AR _ _ _ _ _ [0, 1, 2, 3, 4, 5] _;refine zS rfl (ah (av := .pt _ _) rfl) <| zS rfl (ar rfl) <| zS rfl (an (n := 2) (by kernel_rfl) rfl) <| zR rfl (ao (i := 0) aK rfl rfl rfl rfl) <| zS rfl (bJ rfl rfl) <| am rfl rfl (aA rfl bW rfl (co F (decide (a5 + 1 = 1)) e64) ?_);refine ag ?_;exact Exists.intro (a5 + 1) ⟨H, be [0, 0, 0, 0, 0] (.cons (.refl _) (.cons (.refl _) (.cons (.refl _) (.nil _)))) rfl⟩
   ·replace H := aY c61 H;refine aC ?_;exact Exists.intro a5 ⟨H, be [0, 0, 0, 0, 0] (.cons (.refl _) (.cons (.refl _) (.cons (.refl _) (.nil _)))) rfl⟩
  rintro y66 H;replace H : eV F a3 a6 x19 y56 y57 y58 y66 = some rv := H
  unfold eV at H
  refine bM (X := Nat × (List (List UInt8))) (fun (t78, y79) => ⟨[(0, .pt o1 0), (3, .pt o22 0), (4, B y56)], [], [.obj o1 [S y57, .sk t78 y79.length, i64 y66, slE (ab Enc.int (ab Enc.str (ab Enc.str (Enc.sl (ab Enc.str Enc.str))))) a6 (some t7)], .obj o22 [i64 0, S x19.1, S ([] : List UInt8), slE (ab Enc.str Enc.str) y58 (some t59)], .stk t78 (Enc.str.fl y79), .tok t7 43, .tok t59 94]⟩) (fun (t78, y79) => gV F a6 x19 y56 y57 y58 y66 y79 = some rv) ?_ ?_
  ·refine bM (X := Nat × (List (List UInt8))) (fun (t74, y75) => ⟨[(0, .pt o1 0), (3, .pt o22 0), (4, B y56)], [], [.obj o1 [S y57, .sk t74 y75.length, i64 y66, slE (ab Enc.int (ab Enc.str (ab Enc.str (Enc.sl (ab Enc.str Enc.str))))) a6 (some t7)], .obj o22 [i64 0, S x19.1, S ([] : List UInt8), slE (ab Enc.str Enc.str) y58 (some t59)], .stk t74 (Enc.str.fl y75), .tok t7 43, .tok t59 94]⟩) (fun (t74, y75) => gS F a6 x19 y56 y57 y58 y66 y75 = some rv) ?_ ?_
   ·obtain ⟨g68, H⟩ := aM H;obtain ⟨x69, e70, H⟩ := bL H;refine cx (by kernel_rfl) ?_;show AI _ _ _ _ _ 12 (Array.replicate 12 false) _;refine zk 0 rfl (ah (av := .pt _ _) rfl) ?_;show AI _ _ _ _ _ _ #[true, false, false, false, false, false, false, false, false, false, false, false] _;refine zk 1 rfl (ah (av := .pt _ _) rfl) ?_;show AI _ _ _ _ _ _ #[true, true, false, false, false, false, false, false, false, false, false, false] _;refine zk 2 rfl (ar rfl) ?_;show AI _ _ _ _ _ _ #[true, true, true, false, false, false, false, false, false, false, false, false] _;refine zk 3 rfl (an (n := 1) (by kernel_rfl) rfl) ?_;show AI _ _ _ _ _ _ #[true, true, true, true, false, false, false, false, false, false, false, false] _;refine zk 5 rfl (an (n := 1) (by kernel_rfl) rfl) ?_;show AI _ _ _ _ _ _ #[true, true, true, true, false, true, false, false, false, false, false, false] _;refine AI.two (i := 4) (j := 6) (by kernel_rfl) rfl rfl rfl rfl ?_ ?_
    ·refine bx rfl (ao (i := 0) au rfl rfl rfl rfl) ?_;show AI _ _ _ _ _ _ #[true, true, true, true, true, true, false, false, false, false, false, false] _;refine cm (i := 6) (by kernel_rfl) rfl rfl <| bx rfl (ao (i := 1) ai rfl rfl rfl rfl) ?_;show AI _ _ _ _ _ _ #[true, true, true, true, true, true, true, false, false, false, false, false] _;refine cm (i := 7) (by kernel_rfl) rfl rfl <| bx rfl (cR (E := Enc.str) (bytes := 16) (xs := [.tmp 60]) (l := ([x19.1] : List (List UInt8))) au (by kernel_rfl) rfl rfl (by decide) rfl rfl) ?_;show AI _ _ _ _ _ _ #[true, true, true, true, true, true, true, true, false, false, false, false] _;refine cm (i := 8) (by kernel_rfl) rfl rfl <| AIO.opx rfl (kL (E := Enc.str) (bytes := 16) 2 au au rfl (by kernel_rfl) rfl rfl rfl rfl rfl rfl rfl g68 e70) ?_;rintro _ _ ⟨t71, rfl, rfl⟩;show AI _ _ _ _ _ _ #[true, true, true, true, true, true, true, true, true, false, false, false] _;refine zk 9 rfl (ar rfl) ?_;show AI _ _ _ _ _ _ #[true, true, true, true, true, true, true, true, true, true, false, false] _;refine zk 10 rfl (an (n := 1) (by kernel_rfl) rfl) ?_;show AI _ _ _ _ _ _ #[true, true, true, true, true, true, true, true, true, true, true, false] _;refine cm (i := 11) (by kernel_rfl) rfl rfl <| AIO.op0 (aq (i := 0) (c := .sk _ _) (by kernel_rfl) rfl rfl rfl rfl (ac rfl)) ?_
     show AI _ _ _ _ _ _ #[true, true, true, true, true, true, true, true, true, true, true, true] _;refine cV rfl ?_;exact Exists.intro (t71, x69) ⟨H, be [0, 0, 0, 0, 0] (.cons (.refl _) (.cons (.refl _) (.cons (.refl _) (.nil _)))) rfl⟩
    ·refine bx rfl (ao (i := 1) ai rfl rfl rfl rfl) ?_;show AI _ _ _ _ _ _ #[true, true, true, true, false, true, true, false, false, false, false, false] _;refine AI.two (i := 4) (j := 7) (by kernel_rfl) rfl rfl rfl rfl ?_ ?_
     ·refine bx rfl (ao (i := 0) au rfl rfl rfl rfl) ?_;show AI _ _ _ _ _ _ #[true, true, true, true, true, true, true, false, false, false, false, false] _;refine cm (i := 7) (by kernel_rfl) rfl rfl <| bx rfl (cR (E := Enc.str) (bytes := 16) (xs := [.tmp 60]) (l := ([x19.1] : List (List UInt8))) au (by kernel_rfl) rfl rfl (by decide) rfl rfl) ?_;show AI _ _ _ _ _ _ #[true, true, true, true, true, true, true, true, false, false, false, false] _;refine cm (i := 8) (by kernel_rfl) rfl rfl <| AIO.opx rfl (kL (E := Enc.str) (bytes := 16) 2 au au rfl (by kernel_rfl) rfl rfl rfl rfl rfl rfl rfl g68 e70) ?_;rintro _ _ ⟨t72, rfl, rfl⟩;show AI _ _ _ _ _ _ #[true, true, true, true, true, true, true, true, true, false, false, false] _;refine zk 9 rfl (ar rfl) ?_;show AI _ _ _ _ _ _ #[true, true, true, true, true, true, true, true, true, true, false, false] _;refine zk 10 rfl (an (n := 1) (by kernel_rfl) rfl) ?_;show AI _ _ _ _ _ _ #[true, true, true, true, true, true, true, true, true, true, true, false] _;refine cm (i := 11) (by kernel_rfl) rfl rfl <| AIO.op0 (aq (i := 0) (c := .sk _ _) (by kernel_rfl) rfl rfl rfl rfl (ac rfl)) ?_;show AI _ _ _ _ _ _ #[true, true, true, true, true, true, true, true, true, true, true, true] _;refine cV rfl ?_;exact Exists.intro (t72, x69) ⟨H, be [0, 0, 0, 0, 0] (.cons (.refl _) (.cons (.refl _) (.cons (.refl _) (.nil _)))) rfl⟩
     ·refine bx rfl (cR (E := Enc.str) (bytes := 16) (xs := [.tmp 60]) (l := ([x19.1] : List (List UInt8))) au (by kernel_rfl) rfl rfl (by decide) rfl rfl) ?_;show AI _ _ _ _ _ _ #[true, true, true, true, false, true, true, true, false, false, false, false] _;refine cm (i := 4) (by kernel_rfl) rfl rfl <| bx rfl (ao (i := 0) au rfl rfl rfl rfl) ?_;show AI _ _ _ _ _ _ #[true, true, true, true, true, true, true, true, false, false, false, false] _;refine cm (i := 8) (by kernel_rfl) rfl rfl <| AIO.opx rfl (kL (E := Enc.str) (bytes := 16) 2 au au rfl (by kernel_rfl) rfl rfl rfl rfl rfl rfl rfl g68 e70) ?_;rintro _ _ ⟨t73, rfl, rfl⟩;show AI _ _ _ _ _ _ #[true, true, true, true, true, true, true, true, true, false, false, false] _;refine zk 9 rfl (ar rfl) ?_;show AI _ _ _ _ _ _ #[true, true, true, true, true, true, true, true, true, true, false, false] _;refine zk 10 rfl (an (n := 1) (by kernel_rfl) rfl) ?_;show AI _ _ _ _ _ _ #[true, true, true, true, true, true, true, true, true, true, true, false] _;refine cm (i := 11) (by kernel_rfl) rfl rfl <| AIO.op0 (aq (i := 0) (c := .sk _ _) (by kernel_rfl) rfl rfl rfl rfl (ac rfl)) ?_;show AI _ _ _ _ _ _ #[true, true, true, true, true, true, true, true, true, true, true, true] _;refine cV rfl ?_;exact Exists.intro (t73, x69) ⟨H, be [0, 0, 0, 0, 0] (.cons (.refl _) (.cons (.refl _) (.cons (.refl _) (.nil _)))) rfl⟩
   rintro ⟨t74, y75⟩ H;replace H : gS F a6 x19 y56 y57 y58 y66 y75 = some rv := H
   unfold gS at H
   refine af <| aa ?_;show AR _ _ _ _ _ [0, 1, 2, 3, 4, 5] _;refine zS rfl (ah (av := .pt _ _) rfl) <| zS rfl (ar rfl) <| zS rfl (an (n := 1) (by kernel_rfl) rfl) <| zR rfl (ao (i := 0) au rfl rfl rfl rfl) <| zS rfl (fe au rfl) <| zS rfl (gn rfl rfl) <| ag <| ax rfl (fun c77 => ?_) (fun c77 => ?_)
   ·replace H := aX c77 H;obtain rfl := ak H;refine aa ?_;show AR _ _ _ _ _ [0, 1, 2] _;refine zS rfl (cK (zs := [.int .i64 0]) (ps := [(0, 1)]) (cs := [i64 5]) (by kernel_rfl) rfl rfl) <| zS rfl (bf (a := .agg _) Tryz.underlying58 rfl rfl) <| am rfl rfl (AO.panicT (c := cg (.iface 58 (.agg #[.int .i64 5]))) rfl rfl ?_);exact And.intro rfl (Exists.intro [] ⟨ba _, rfl, rfl⟩)
   ·replace H := aY c77 H;refine aC ?_;exact Exists.intro (t74, y75) ⟨H, be [0, 0, 0, 0, 0] (.cons (.refl _) (.cons (.refl _) (.cons (.refl _) (.nil _)))) rfl⟩
  rintro ⟨t78, y79⟩ H;replace H : gV F a6 x19 y56 y57 y58 y66 y79 = some rv := H
  unfold gV at H
  refine bM (X := (List (Int × (List UInt8) × (List UInt8) × List ((List UInt8) × List UInt8))) × Nat) (fun (y87, t88) => ⟨[(0, .pt o1 0), (3, .pt o22 0), (4, B y56)], [], [.obj o1 [S y57, .sk t78 y79.length, i64 y66, slE (ab Enc.int (ab Enc.str (ab Enc.str (Enc.sl (ab Enc.str Enc.str))))) y87 (some t88)], .obj o22 [i64 0, S x19.1, S ([] : List UInt8), slE (ab Enc.str Enc.str) y58 (some t59)], .stk t78 (Enc.str.fl y79), .tok t88 43, .tok t59 94]⟩) (fun (y87, t88) => gW F x19 y56 y57 y66 y79 y87 = some rv) ?_ ?_
  ·obtain ⟨g82, H⟩ := aM H;obtain ⟨x83, e84, H⟩ := bL H;refine cx (by kernel_rfl) ?_;show AI _ _ _ _ _ 11 (Array.replicate 11 false) _;refine zk 0 rfl (ah (av := .pt _ _) rfl) ?_;show AI _ _ _ _ _ _ #[true, false, false, false, false, false, false, false, false, false, false] _;refine zk 1 rfl (ah (av := .pt _ _) rfl) ?_;show AI _ _ _ _ _ _ #[true, true, false, false, false, false, false, false, false, false, false] _;refine zk 2 rfl (ar rfl) ?_;show AI _ _ _ _ _ _ #[true, true, true, false, false, false, false, false, false, false, false] _;refine zk 3 rfl (an (n := 3) (by kernel_rfl) rfl) ?_;show AI _ _ _ _ _ _ #[true, true, true, true, false, false, false, false, false, false, false] _;refine AI.two (i := 4) (j := 5) (by kernel_rfl) rfl rfl rfl rfl ?_ ?_
   ·refine bx rfl (ao (i := 0) aO rfl rfl rfl rfl) ?_;show AI _ _ _ _ _ _ #[true, true, true, true, true, false, false, false, false, false, false] _;refine cm (i := 5) (by kernel_rfl) rfl rfl <| bx rfl (dZ (i := 1) (n := 4) Tryz.underlying43 rfl (by kernel_rfl) rfl rfl (ac rfl)) ?_;show AI _ _ _ _ _ _ #[true, true, true, true, true, true, false, false, false, false, false] _;refine cm (i := 6) (by kernel_rfl) rfl rfl <| bx rfl (jH (ds := [i64 0, S x19.1, S ([] : List UInt8), slE (ab Enc.str Enc.str) y58 none]) 78 (.cons (.refl _) (.cons (.refl _) (.cons (.refl _) (.cons (.tok _ _ _) (.nil))))) (hc := rfl) <| dA (E := (ab Enc.int (ab Enc.str (ab Enc.str (Enc.sl (ab Enc.str Enc.str)))))) (bytes := 64) (zs := [.int .i64 0, .string ⟨#[]⟩, .string ⟨#[]⟩, .slice none 0 0]) (l := ([(0, x19.1, ([] : List UInt8), y58)] : List (Int × (List UInt8) × (List UInt8) × List ((List UInt8) × List UInt8)))) aO (by kernel_rfl) (by kernel_rfl) rfl rfl rfl rfl rfl) ?_;show AI _ _ _ _ _ _ #[true, true, true, true, true, true, true, false, false, false, false] _;refine cm (i := 7) (by kernel_rfl) rfl rfl <| AIO.opx rfl (kr (E := (ab Enc.int (ab Enc.str (ab Enc.str (Enc.sl (ab Enc.str Enc.str)))))) (bytes := 64) 3 aO aO rfl (by kernel_rfl) rfl rfl rfl rfl g82 e84) ?_;rintro _ _ ⟨t81, rfl, rfl⟩;show AI _ _ _ _ _ _ #[true, true, true, true, true, true, true, true, false, false, false] _
    refine zk 8 rfl (ar rfl) ?_;show AI _ _ _ _ _ _ #[true, true, true, true, true, true, true, true, true, false, false] _;refine zk 9 rfl (an (n := 3) (by kernel_rfl) rfl) ?_;show AI _ _ _ _ _ _ #[true, true, true, true, true, true, true, true, true, true, false] _;refine cm (i := 10) (by kernel_rfl) rfl rfl <| AIO.op0 (aq (i := 0) (c := slE _ _ _) (by kernel_rfl) rfl rfl rfl rfl (ac rfl)) ?_;show AI _ _ _ _ _ _ #[true, true, true, true, true, true, true, true, true, true, true] _;refine cV rfl ?_;exact Exists.intro (x83, t81) ⟨H, be [0, 0, 0, 0, 0] (.cons (.refl _) (.cons (.refl _) (.cons (.refl _) (.nil _)))) rfl⟩
   ·refine bx rfl (dZ (i := 1) (n := 4) Tryz.underlying43 rfl (by kernel_rfl) rfl rfl (ac rfl)) ?_;show AI _ _ _ _ _ _ #[true, true, true, true, false, true, false, false, false, false, false] _;refine AI.two (i := 4) (j := 6) (by kernel_rfl) rfl rfl rfl rfl ?_ ?_
    ·refine bx rfl (ao (i := 0) aO rfl rfl rfl rfl) ?_;show AI _ _ _ _ _ _ #[true, true, true, true, true, true, false, false, false, false, false] _;refine cm (i := 6) (by kernel_rfl) rfl rfl <| bx rfl (jH (ds := [i64 0, S x19.1, S ([] : List UInt8), slE (ab Enc.str Enc.str) y58 none]) 78 (.cons (.refl _) (.cons (.refl _) (.cons (.refl _) (.cons (.tok _ _ _) (.nil))))) (hc := rfl) <| dA (E := (ab Enc.int (ab Enc.str (ab Enc.str (Enc.sl (ab Enc.str Enc.str)))))) (bytes := 64) (zs := [.int .i64 0, .string ⟨#[]⟩, .string ⟨#[]⟩, .slice none 0 0]) (l := ([(0, x19.1, ([] : List UInt8), y58)] : List (Int × (List UInt8) × (List UInt8) × List ((List UInt8) × List UInt8)))) aO (by kernel_rfl) (by kernel_rfl) rfl rfl rfl rfl rfl) ?_;show AI _ _ _ _ _ _ #[true, true, true, true, true, true, true, false, false, false, false] _;refine cm (i := 7) (by kernel_rfl) rfl rfl <| AIO.opx rfl (kr (E := (ab Enc.int (ab Enc.str (ab Enc.str (Enc.sl (ab Enc.str Enc.str)))))) (bytes := 64) 3 aO aO rfl (by kernel_rfl) rfl rfl rfl rfl g82 e84) ?_;rintro _ _ ⟨t85, rfl, rfl⟩;show AI _ _ _ _ _ _ #[true, true, true, true, true, true, true, true, false, false, false] _;refine zk 8 rfl (ar rfl) ?_;show AI _ _ _ _ _ _ #[true, true, true, true, true, true, true, true, true, false, false] _;refine zk 9 rfl (an (n := 3) (by kernel_rfl) rfl) ?_
     show AI _ _ _ _ _ _ #[true, true, true, true, true, true, true, true, true, true, false] _;refine cm (i := 10) (by kernel_rfl) rfl rfl <| AIO.op0 (aq (i := 0) (c := slE _ _ _) (by kernel_rfl) rfl rfl rfl rfl (ac rfl)) ?_;show AI _ _ _ _ _ _ #[true, true, true, true, true, true, true, true, true, true, true] _;refine cV rfl ?_;exact Exists.intro (x83, t85) ⟨H, be [0, 0, 0, 0, 0] (.cons (.refl _) (.cons (.refl _) (.cons (.refl _) (.nil _)))) rfl⟩
    ·refine bx rfl (jH (ds := [i64 0, S x19.1, S ([] : List UInt8), slE (ab Enc.str Enc.str) y58 none]) 78 (.cons (.refl _) (.cons (.refl _) (.cons (.refl _) (.cons (.tok _ _ _) (.nil))))) (hc := rfl) <| dA (E := (ab Enc.int (ab Enc.str (ab Enc.str (Enc.sl (ab Enc.str Enc.str)))))) (bytes := 64) (zs := [.int .i64 0, .string ⟨#[]⟩, .string ⟨#[]⟩, .slice none 0 0]) (l := ([(0, x19.1, ([] : List UInt8), y58)] : List (Int × (List UInt8) × (List UInt8) × List ((List UInt8) × List UInt8)))) aO (by kernel_rfl) (by kernel_rfl) rfl rfl rfl rfl rfl) ?_;show AI _ _ _ _ _ _ #[true, true, true, true, false, true, true, false, false, false, false] _;refine cm (i := 4) (by kernel_rfl) rfl rfl <| bx rfl (ao (i := 0) aO rfl rfl rfl rfl) ?_;show AI _ _ _ _ _ _ #[true, true, true, true, true, true, true, false, false, false, false] _;refine cm (i := 7) (by kernel_rfl) rfl rfl <| AIO.opx rfl (kr (E := (ab Enc.int (ab Enc.str (ab Enc.str (Enc.sl (ab Enc.str Enc.str)))))) (bytes := 64) 3 aO aO rfl (by kernel_rfl) rfl rfl rfl rfl g82 e84) ?_;rintro _ _ ⟨t86, rfl, rfl⟩;show AI _ _ _ _ _ _ #[true, true, true, true, true, true, true, true, false, false, false] _;refine zk 8 rfl (ar rfl) ?_;show AI _ _ _ _ _ _ #[true, true, true, true, true, true, true, true, true, false, false] _;refine zk 9 rfl (an (n := 3) (by kernel_rfl) rfl) ?_
     show AI _ _ _ _ _ _ #[true, true, true, true, true, true, true, true, true, true, false] _;refine cm (i := 10) (by kernel_rfl) rfl rfl <| AIO.op0 (aq (i := 0) (c := slE _ _ _) (by kernel_rfl) rfl rfl rfl rfl (ac rfl)) ?_;show AI _ _ _ _ _ _ #[true, true, true, true, true, true, true, true, true, true, true] _;refine cV rfl ?_;exact Exists.intro (x83, t86) ⟨H, be [0, 0, 0, 0, 0] (.cons (.refl _) (.cons (.refl _) (.cons (.refl _) (.nil _)))) rfl⟩
  rintro ⟨y87, t88⟩ H;replace H : gW F x19 y56 y57 y66 y79 y87 = some rv := H
  unfold gW at H
  refine bM (X := Nat × (List (List UInt8)) × (List (Int × (List UInt8) × (List UInt8) × List ((List UInt8) × List UInt8))) × Nat) (fun (t96, y97, y98, t99) => ⟨[], [], [.obj o1 [S y57, .sk t96 y97.length, i64 y66, slE (ab Enc.int (ab Enc.str (ab Enc.str (Enc.sl (ab Enc.str Enc.str))))) y98 (some t99)], .stk t96 (Enc.str.fl y97), .tok t99 43]⟩) (fun (t96, y97, y98, t99) => gd y57 y66 y97 y98 = some rv) ?_ ?_
  ·refine af <| aa ?_;show AR _ _ _ _ _ [0] _;refine zm rfl <| ag <| ax rfl (fun c90 => ?_) (fun c90 => ?_)
   ·replace H := aX c90 H
    rcases Or.symm (cr H) with ⟨p93, e92, H⟩ | ⟨x91, e92, H⟩
    ·subst H;refine aa ?_;show AR _ _ _ _ _ [0, 1, 2, 3] _;refine zS rfl (ah (av := .pt _ _) rfl) <| zS rfl (an (n := 1) (by kernel_rfl) rfl) <| zR rfl (ao (i := 1) ai rfl rfl rfl rfl) <| am rfl rfl (bb (c := cg (.iface 58 (.agg #[.int .i64 p93]))) [0, 1, 1] rfl nS rfl (ow F o1 y57 y79 t78 y66 y87 t88 x19.1 p93 e92) rfl ?_);exact And.intro rfl (Exists.intro [] ⟨ba _, rfl, rfl⟩)
    refine aa ?_;show AR _ _ _ _ _ [0, 1, 2, 3] _;refine zS rfl (ah (av := .pt _ _) rfl) <| zS rfl (an (n := 1) (by kernel_rfl) rfl) <| zR rfl (ao (i := 1) ai rfl rfl rfl rfl) <| am rfl rfl (aQ [0, 1, 1] rfl nS rfl (pf F o1 y57 y79 t78 y66 y87 t88 x19.1 x91.1 x91.2 e92) rfl (fun c A' h => by cases h.1) ?_)
    rintro av A' ⟨h, t94, t95, rfl⟩; cases h
    refine ag ?_;exact Exists.intro (t94, x91.2, x91.1, t95) ⟨H, be [0, 0, 0] (.nil _) rfl⟩
   ·replace H := aY c90 H;refine aC ?_;exact Exists.intro (t78, y79, y87, t88) ⟨H, be [0, 1, 1] (.nil _) rfl⟩
  rintro ⟨t96, y97, y98, t99⟩ H;replace H : gd y57 y66 y97 y98 = some rv := H
  unfold gd at H
  refine af <| aa ?_;show AR _ _ _ _ _ [0] _;refine za rfl <| ag <| aG ?_;obtain rfl := ak H;exact And.intro rfl (Exists.intro _ (Exists.intro _ ⟨aF rfl (.refl _), aB [0, 0, 0] rfl, rfl, t96, t99, rfl⟩))
theorem qP (F : Nat) (o1 : Nat) (a2 : List UInt8) (a3 : List (List UInt8)) (t4 : Nat) (a5 : Int) (a6 : List (Int × (List UInt8) × (List UInt8) × List ((List UInt8) × List UInt8))) (t7 : Nat) (r8 : Bool) (r9 : List UInt8) (r12 : Int) (r13 : List (Int × (List UInt8) × (List UInt8) × List ((List UInt8) × List UInt8))) (r10 : List (List UInt8)) (H : iz F a2 a3 a5 a6 = some (Res.ok (r8, r9, r12, r13, r10))) : ACalls Tryz.prog 37 [.pt o1 0] [.obj o1 [S a2, .sk t4 a3.length, i64 a5, slE (ab Enc.int (ab Enc.str (ab Enc.str (Enc.sl (ab Enc.str Enc.str))))) a6 (some t7)], .stk t4 (Enc.str.fl a3), .tok t7 43] (fun e A' => e = .ret (B r8) ∧ ∃ t11 t14, A' = [.obj o1 [S r9, .sk t11 r10.length, i64 r12, slE (ab Enc.int (ab Enc.str (ab Enc.str (Enc.sl (ab Enc.str Enc.str))))) r13 (some t14)], .stk t11 (Enc.str.fl r10), .tok t14 43]) := pg F o1 a2 a3 t4 a5 a6 t7 _ H
theorem pS (F : Nat) (o1 : Nat) (a2 : List UInt8) (a3 : List (List UInt8)) (t4 : Nat) (a5 : Int) (a6 : List (Int × (List UInt8) × (List UInt8) × List ((List UInt8) × List UInt8))) (t7 : Nat) (e : Int) (H : iz F a2 a3 a5 a6 = some (Res.pan e)) : ACalls Tryz.prog 37 [.pt o1 0] [.obj o1 [S a2, .sk t4 a3.length, i64 a5, slE (ab Enc.int (ab Enc.str (ab Enc.str (Enc.sl (ab Enc.str Enc.str))))) a6 (some t7)], .stk t4 (Enc.str.fl a3), .tok t7 43] (fun ae A' => ae = .pan ((fun e => cg (.iface 58 (.agg #[.int .i64 e]))) e) ∧ A' = []) := pg F o1 a2 a3 t4 a5 a6 t7 _ H
abbrev _root_.Go.Av.dL := @Tryz.underlying80
abbrev _root_.Go.Av.cL := @Tryz.underlying81
set_option maxRecDepth 100000 in
set_option maxHeartbeats 1000000 in
theorem sV (F : Nat) (o1 : Nat) (a2 : List UInt8) (a3 : List (List UInt8)) (t4 : Nat) (a5 : Int) (a6 : List (Int × (List UInt8) × (List UInt8) × List ((List UInt8) × List UInt8))) (t7 : Nat) (rv : Res ((List UInt8) × Int × (List (Int × (List UInt8) × (List UInt8) × List ((List UInt8) × List UInt8))) × (List (List UInt8)))) (H : mX F a2 a3 a5 a6 = some rv) : ACalls Tryz.prog 21 [.pt o1 0] [.obj o1 [S a2, .sk t4 a3.length, i64 a5, slE (ab Enc.int (ab Enc.str (ab Enc.str (Enc.sl (ab Enc.str Enc.str))))) a6 (some t7)], .stk t4 (Enc.str.fl a3), .tok t7 43] (jw (fun (r : (List UInt8) × Int × (List (Int × (List UInt8) × (List UInt8) × List ((List UInt8) × List UInt8))) × (List (List UInt8))) => (fun e A' => e = .ret (.tup []) ∧ ∃ t10 t13, A' = [.obj o1 [S r.1, .sk t10 r.2.2.2.length, i64 r.2.1, slE (ab Enc.int (ab Enc.str (ab Enc.str (Enc.sl (ab Enc.str Enc.str))))) r.2.2.1 (some t13)], .stk t10 (Enc.str.fl r.2.2.2), .tok t13 43])) (fun e => cg (.iface 58 (.agg #[.int .i64 e]))) rv) := by
 unfold mX at H
 refine ap Tryz.func21 rfl rfl ?_;show AW _ _ 14 _ _ _;refine af <| aa ?_;show AR _ _ _ _ _ [0, 1, 2] _;refine zR rfl (cR (E := ma) (bytes := 8) (xs := [.func 31, .func 32, .func 33, .func 34, .func 35, .func 36, .func 37]) (l := ([31, 32, 33, 34, 35, 36, 37] : List Nat)) cL (by kernel_rfl) rfl rfl (by decide) rfl rfl) <| zS rfl (fa (av' := i64 7) (bE cL rfl) rfl) <| zm rfl <| ag <| aU <| zV 9 <| af <| aa ?_;show AR _ _ _ _ _ [0] _;refine zS rfl (fa (av' := B true) (cf rfl rfl) (ay (by decide))) <| ag <| af <| ax rfl (fun _ => ?_) (fun hx => bK rfl hx);refine aC <| af <| aU <| af <| aa ?_;show AR _ _ _ _ _ [0, 1, 2] _;refine zS rfl (dy (E := ma) (m := 0) cL (by kernel_rfl) rfl rfl rfl rfl) <| zS rfl (aL dL rfl rfl) <| za rfl <| ag <| af ?_
 rcases Or.symm (cr H) with ⟨p16, e15, H⟩ | ⟨x14, e15, H⟩
 ·subst H;refine aa ?_;show AR _ _ _ _ _ [0, 1, 2] _;refine zm rfl <| zS rfl (ah (av := .pt _ _) rfl) <| am rfl rfl (AO.callFPan (c := cg (.iface 58 (.agg #[.int .i64 p16]))) [0, 0, 0] rfl (.inr ⟨rfl, rfl, rfl⟩) tV rfl (rl F o1 a2 a3 t4 a5 a6 t7 p16 e15) rfl ?_);exact And.intro rfl (Exists.intro [] ⟨ba _, rfl, rfl⟩)
 refine aa ?_;show AR _ _ _ _ _ [0, 1, 2] _;refine zm rfl <| zS rfl (ah (av := .pt _ _) rfl) <| am rfl rfl (fp [0, 0, 0] rfl (.inr ⟨rfl, rfl, rfl⟩) tV rfl (so F o1 a2 a3 t4 a5 a6 t7 x14.1 x14.2.1 x14.2.2 e15) rfl (fun c A' h => by cases h.1) ?_)
 rintro av A' ⟨h, t17, rfl⟩; cases h
 refine ag <| ax rfl (fun c18 => ?_) (fun c18 => ?_)
 ·replace H := aX c18 H;refine aG ?_;obtain rfl := ak H;exact And.intro rfl (Exists.intro _ (Exists.intro _ ⟨bj rfl, aB [0, 0, 0] rfl, rfl, t4, t17, rfl⟩))
 ·replace H := aY c18 H;refine aC <| aa ?_;show AR _ _ _ _ _ [0, 1] _;refine zS rfl (fa (av' := i64 1) (dl rfl rfl (by decide)) rfl) <| zm rfl <| ag <| af <| aa ?_;show AR _ _ _ _ _ [0] _;refine zS rfl (fa (av' := B true) (cf rfl rfl) (ay (by decide))) <| ag <| af <| ax rfl (fun _ => ?_) (fun hx => bK rfl hx);refine aC <| af <| aU <| af <| aa ?_;show AR _ _ _ _ _ [0, 1, 2] _;refine zS rfl (dy (E := ma) (m := 1) cL (by kernel_rfl) rfl rfl rfl rfl) <| zS rfl (aL dL rfl rfl) <| za rfl <| ag <| af ?_
  rcases Or.symm (cr H) with ⟨p21, e20, H⟩ | ⟨x19, e20, H⟩
  ·subst H;refine aa ?_;show AR _ _ _ _ _ [0, 1, 2] _;refine zm rfl <| zS rfl (ah (av := .pt _ _) rfl) <| am rfl rfl (AO.callFPan (c := cg (.iface 58 (.agg #[.int .i64 p21]))) [0, 0, 0] rfl (.inr ⟨rfl, rfl, rfl⟩) tU rfl (pT F o1 x14.2.1 a3 t4 a5 x14.2.2 t17 p21 e20) rfl ?_);exact And.intro rfl (Exists.intro [] ⟨ba _, rfl, rfl⟩)
  refine aa ?_;show AR _ _ _ _ _ [0, 1, 2] _;refine zm rfl <| zS rfl (ah (av := .pt _ _) rfl) <| am rfl rfl (fp [0, 0, 0] rfl (.inr ⟨rfl, rfl, rfl⟩) tU rfl (qQ F o1 x14.2.1 a3 t4 a5 x14.2.2 t17 x19.1 x19.2 e20) rfl (fun c A' h => by cases h.1) ?_)
  rintro av A' ⟨h, rfl⟩; cases h
  refine ag <| ax rfl (fun c22 => ?_) (fun c22 => ?_)
  ·replace H := aX c22 H;refine aG ?_;obtain rfl := ak H;exact And.intro rfl (Exists.intro _ (Exists.intro _ ⟨bj rfl, aB [0, 0, 0] rfl, rfl, t4, t17, rfl⟩))
  ·replace H := aY c22 H;refine aC <| aa ?_;show AR _ _ _ _ _ [0, 1] _;refine zS rfl (fa (av' := i64 2) (dl rfl rfl (by decide)) rfl) <| zm rfl <| ag <| af <| aa ?_;show AR _ _ _ _ _ [0] _;refine zS rfl (fa (av' := B true) (cf rfl rfl) (ay (by decide))) <| ag <| af <| ax rfl (fun _ => ?_) (fun hx => bK rfl hx);refine aC <| af <| aU <| af <| aa ?_;show AR _ _ _ _ _ [0, 1, 2] _;refine zS rfl (dy (E := ma) (m := 2) cL (by kernel_rfl) rfl rfl rfl rfl) <| zS rfl (aL dL rfl rfl) <| za rfl <| ag <| af ?_
   rcases Or.symm (cr H) with ⟨p25, e24, H⟩ | ⟨x23, e24, H⟩
   ·subst H;refine aa ?_;show AR _ _ _ _ _ [0, 1, 2] _;refine zm rfl <| zS rfl (ah (av := .pt _ _) rfl) <| am rfl rfl (AO.callFPan (c := cg (.iface 58 (.agg #[.int .i64 p25]))) [0, 0, 0] rfl (.inr ⟨rfl, rfl, rfl⟩) tS rfl (uo F o1 x19.2 a3 t4 a5 x14.2.2 t17 p25 e24) rfl ?_);exact And.intro rfl (Exists.intro [] ⟨ba _, rfl, rfl⟩)
   refine aa ?_;show AR _ _ _ _ _ [0, 1, 2] _;refine zm rfl <| zS rfl (ah (av := .pt _ _) rfl) <| am rfl rfl (fp [0, 0, 0] rfl (.inr ⟨rfl, rfl, rfl⟩) tS rfl (vi F o1 x19.2 a3 t4 a5 x14.2.2 t17 x23.1 x23.2 e24) rfl (fun c A' h => by cases h.1) ?_)
   rintro av A' ⟨h, rfl⟩; cases h
   refine ag <| ax rfl (fun c26 => ?_) (fun c26 => ?_)
   ·replace H := aX c26 H;refine aG ?_;obtain rfl := ak H;exact And.intro rfl (Exists.intro _ (Exists.intro _ ⟨bj rfl, aB [0, 0, 0] rfl, rfl, t4, t17, rfl⟩))
   ·replace H := aY c26 H;refine aC <| aa ?_;show AR _ _ _ _ _ [0, 1] _;refine zS rfl (fa (av' := i64 3) (dl rfl rfl (by decide)) rfl) <| zm rfl <| ag <| af <| aa ?_;show AR _ _ _ _ _ [0] _;refine zS rfl (fa (av' := B true) (cf rfl rfl) (ay (by decide))) <| ag <| af <| ax rfl (fun _ => ?_) (fun hx => bK rfl hx);refine aC <| af <| aU <| af <| aa ?_;show AR _ _ _ _ _ [0, 1, 2] _;refine zS rfl (dy (E := ma) (m := 3) cL (by kernel_rfl) rfl rfl rfl rfl) <| zS rfl (aL dL rfl rfl) <| za rfl <| ag <| af ?_
    rcases Or.symm (cr H) with ⟨p29, e28, H⟩ | ⟨x27, e28, H⟩
    ·subst H;refine aa ?_;show AR _ _ _ _ _ [0, 1, 2] _;refine zm rfl <| zS rfl (ah (av := .pt _ _) rfl) <| am rfl rfl (AO.callFPan (c := cg (.iface 58 (.agg #[.int .i64 p29]))) [0, 0, 0] rfl (.inr ⟨rfl, rfl, rfl⟩) tR rfl (sp F o1 x23.2 a3 t4 a5 x14.2.2 t17 p29 e28) rfl ?_);exact And.intro rfl (Exists.intro [] ⟨ba _, rfl, rfl⟩)
    refine aa ?_;show AR _ _ _ _ _ [0, 1, 2] _;refine zm rfl <| zS rfl (ah (av := .pt _ _) rfl) <| am rfl rfl (fp [0, 0, 0] rfl (.inr ⟨rfl, rfl, rfl⟩) tR rfl (um F o1 x23.2 a3 t4 a5 x14.2.2 t17 x27.1 x27.2.1 x27.2.2 e28) rfl (fun c A' h => by cases h.1) ?_)
    rintro av A' ⟨h, t30, rfl⟩; cases h
    refine ag <| ax rfl (fun c31 => ?_) (fun c31 => ?_)
    ·replace H := aX c31 H;refine aG ?_;obtain rfl := ak H;exact And.intro rfl (Exists.intro _ (Exists.intro _ ⟨bj rfl, aB [0, 0, 0] rfl, rfl, t4, t30, rfl⟩))
    ·replace H := aY c31 H;refine aC <| aa ?_;show AR _ _ _ _ _ [0, 1] _;refine zS rfl (fa (av' := i64 4) (dl rfl rfl (by decide)) rfl) <| zm rfl <| ag <| af <| aa ?_;show AR _ _ _ _ _ [0] _;refine zS rfl (fa (av' := B true) (cf rfl rfl) (ay (by decide))) <| ag <| af <| ax rfl (fun _ => ?_) (fun hx => bK rfl hx);refine aC <| af <| aU <| af <| aa ?_;show AR _ _ _ _ _ [0, 1, 2] _;refine zS rfl (dy (E := ma) (m := 4) cL (by kernel_rfl) rfl rfl rfl rfl) <| zS rfl (aL dL rfl rfl) <| za rfl <| ag <| af ?_
     rcases Or.symm (cr H) with ⟨p34, e33, H⟩ | ⟨x32, e33, H⟩
     ·subst H;refine aa ?_;show AR _ _ _ _ _ [0, 1, 2] _;refine zm rfl <| zS rfl (ah (av := .pt _ _) rfl) <| am rfl rfl (AO.callFPan (c := cg (.iface 58 (.agg #[.int .i64 p34]))) [0, 0, 0] rfl (.inr ⟨rfl, rfl, rfl⟩) tQ rfl (ul F o1 x27.2.1 a3 t4 a5 x27.2.2 t30 p34 e33) rfl ?_);exact And.intro rfl (Exists.intro [] ⟨ba _, rfl, rfl⟩)
     refine aa ?_;show AR _ _ _ _ _ [0, 1, 2] _;refine zm rfl <| zS rfl (ah (av := .pt _ _) rfl) <| am rfl rfl (fp [0, 0, 0] rfl (.inr ⟨rfl, rfl, rfl⟩) tQ rfl (vh F o1 x27.2.1 a3 t4 a5 x27.2.2 t30 x32.1 x32.2 e33) rfl (fun c A' h => by cases h.1) ?_)
     rintro av A' ⟨h, rfl⟩; cases h
     refine ag <| ax rfl (fun c35 => ?_) (fun c35 => ?_)
     ·replace H := aX c35 H;refine aG ?_;obtain rfl := ak H;exact And.intro rfl (Exists.intro _ (Exists.intro _ ⟨bj rfl, aB [0, 0, 0] rfl, rfl, t4, t30, rfl⟩))
     ·replace H := aY c35 H;refine aC <| aa ?_;show AR _ _ _ _ _ [0, 1] _;refine zS rfl (fa (av' := i64 5) (dl rfl rfl (by decide)) rfl) <| zm rfl <| ag <| af <| aa ?_;show AR _ _ _ _ _ [0] _;refine zS rfl (fa (av' := B true) (cf rfl rfl) (ay (by decide))) <| ag <| af <| ax rfl (fun _ => ?_) (fun hx => bK rfl hx);refine aC <| af <| aU <| af <| aa ?_;show AR _ _ _ _ _ [0, 1, 2] _;refine zS rfl (dy (E := ma) (m := 5) cL (by kernel_rfl) rfl rfl rfl rfl) <| zS rfl (aL dL rfl rfl) <| za rfl <| ag <| af ?_
      rcases Or.symm (cr H) with ⟨p38, e37, H⟩ | ⟨x36, e37, H⟩
      ·subst H;refine aa ?_;show AR _ _ _ _ _ [0, 1, 2] _;refine zm rfl <| zS rfl (ah (av := .pt _ _) rfl) <| am rfl rfl (AO.callFPan (c := cg (.iface 58 (.agg #[.int .i64 p38]))) [0, 0, 0] rfl (.inr ⟨rfl, rfl, rfl⟩) tP rfl (qO F o1 x32.2 a3 t4 a5 x27.2.2 t30 p38 e37) rfl ?_);exact And.intro rfl (Exists.intro [] ⟨ba _, rfl, rfl⟩)
      refine aa ?_;show AR _ _ _ _ _ [0, 1, 2] _;refine zm rfl <| zS rfl (ah (av := .pt _ _) rfl) <| am rfl rfl (fp [0, 0, 0] rfl (.inr ⟨rfl, rfl, rfl⟩) tP rfl (rm F o1 x32.2 a3 t4 a5 x27.2.2 t30 x36.1 x36.2.1 x36.2.2.1 x36.2.2.2 e37) rfl (fun c A' h => by cases h.1) ?_)
      rintro av A' ⟨h, t39, t40, rfl⟩; cases h
      refine ag <| ax rfl (fun c41 => ?_) (fun c41 => ?_)
      ·replace H := aX c41 H;refine aG ?_;obtain rfl := ak H;exact And.intro rfl (Exists.intro _ (Exists.intro _ ⟨bj rfl, aB [0, 0, 0] rfl, rfl, t39, t40, rfl⟩))
      ·replace H := aY c41 H;refine aC <| aa ?_;show AR _ _ _ _ _ [0, 1] _;refine zS rfl (fa (av' := i64 6) (dl rfl rfl (by decide)) rfl) <| zm rfl <| ag <| af <| aa ?_;show AR _ _ _ _ _ [0] _;refine zS rfl (fa (av' := B true) (cf rfl rfl) (ay (by decide))) <| ag <| af <| ax rfl (fun _ => ?_) (fun hx => bK rfl hx);refine aC <| af <| aU <| af <| aa ?_;show AR _ _ _ _ _ [0, 1, 2] _;refine zS rfl (dy (E := ma) (m := 6) cL (by kernel_rfl) rfl rfl rfl rfl) <| zS rfl (aL dL rfl rfl) <| za rfl <| ag <| af ?_
       rcases Or.symm (cr H) with ⟨p44, e43, H⟩ | ⟨x42, e43, H⟩
       ·subst H;refine aa ?_;show AR _ _ _ _ _ [0, 1, 2] _;refine zm rfl <| zS rfl (ah (av := .pt _ _) rfl) <| am rfl rfl (AO.callFPan (c := cg (.iface 58 (.agg #[.int .i64 p44]))) [0, 0, 0] rfl (.inr ⟨rfl, rfl, rfl⟩) tN rfl (pS F o1 x36.2.1 x36.2.2.2 t39 a5 x36.2.2.1 t40 p44 e43) rfl ?_);exact And.intro rfl (Exists.intro [] ⟨ba _, rfl, rfl⟩)
       refine aa ?_;show AR _ _ _ _ _ [0, 1, 2] _;refine zm rfl <| zS rfl (ah (av := .pt _ _) rfl) <| am rfl rfl (fp [0, 0, 0] rfl (.inr ⟨rfl, rfl, rfl⟩) tN rfl (qP F o1 x36.2.1 x36.2.2.2 t39 a5 x36.2.2.1 t40 x42.1 x42.2.1 x42.2.2.1 x42.2.2.2.1 x42.2.2.2.2 e43) rfl (fun c A' h => by cases h.1) ?_)
       rintro av A' ⟨h, t45, t46, rfl⟩; cases h
       refine ag <| ax rfl (fun c47 => ?_) (fun c47 => ?_)
       ·replace H := aX c47 H;refine aG ?_;obtain rfl := ak H;exact And.intro rfl (Exists.intro _ (Exists.intro _ ⟨bj rfl, aB [0, 0, 0] rfl, rfl, t45, t46, rfl⟩))
       ·replace H := aY c47 H;refine aC <| aa ?_;show AR _ _ _ _ _ [0, 1] _;refine zS rfl (fa (av' := i64 7) (dl rfl rfl (by decide)) rfl) <| zm rfl <| ag <| af <| aa ?_;show AR _ _ _ _ _ [0] _;refine zS rfl (fa (av' := B false) (cf rfl rfl) (ay (by decide))) <| ag <| af <| ax rfl (fun hx => bK hx rfl) (fun _ => ?_);refine cB ?_;obtain rfl := ak H;exact And.intro rfl (Exists.intro _ (Exists.intro _ ⟨bj rfl, aB [0, 0, 0] rfl, rfl, t45, t46, rfl⟩))
theorem uk (F : Nat) (o1 : Nat) (a2 : List UInt8) (a3 : List (List UInt8)) (t4 : Nat) (a5 : Int) (a6 : List (Int × (List UInt8) × (List UInt8) × List ((List UInt8) × List UInt8))) (t7 : Nat) (r8 : List UInt8) (r11 : Int) (r12 : List (Int × (List UInt8) × (List UInt8) × List ((List UInt8) × List UInt8))) (r9 : List (List UInt8)) (H : mX F a2 a3 a5 a6 = some (Res.ok (r8, r11, r12, r9))) : ACalls Tryz.prog 21 [.pt o1 0] [.obj o1 [S a2, .sk t4 a3.length, i64 a5, slE (ab Enc.int (ab Enc.str (ab Enc.str (Enc.sl (ab Enc.str Enc.str))))) a6 (some t7)], .stk t4 (Enc.str.fl a3), .tok t7 43] (fun e A' => e = .ret (.tup []) ∧ ∃ t10 t13, A' = [.obj o1 [S r8, .sk t10 r9.length, i64 r11, slE (ab Enc.int (ab Enc.str (ab Enc.str (Enc.sl (ab Enc.str Enc.str))))) r12 (some t13)], .stk t10 (Enc.str.fl r9), .tok t13 43]) := sV F o1 a2 a3 t4 a5 a6 t7 _ H
theorem sn (F : Nat) (o1 : Nat) (a2 : List UInt8) (a3 : List (List UInt8)) (t4 : Nat) (a5 : Int) (a6 : List (Int × (List UInt8) × (List UInt8) × List ((List UInt8) × List UInt8))) (t7 : Nat) (e : Int) (H : mX F a2 a3 a5 a6 = some (Res.pan e)) : ACalls Tryz.prog 21 [.pt o1 0] [.obj o1 [S a2, .sk t4 a3.length, i64 a5, slE (ab Enc.int (ab Enc.str (ab Enc.str (Enc.sl (ab Enc.str Enc.str))))) a6 (some t7)], .stk t4 (Enc.str.fl a3), .tok t7 43] (fun ae A' => ae = .pan ((fun e => cg (.iface 58 (.agg #[.int .i64 e]))) e) ∧ A' = []) := sV F o1 a2 a3 t4 a5 a6 t7 _ H
set_option maxRecDepth 100000 in
set_option maxHeartbeats 1000000 in
theorem vj (F : Nat) (a1 : List UInt8) (q2 : Option Nat) (r3 : List (Int × (List UInt8) × (List UInt8) × List ((List UInt8) × List UInt8))) (r4 : Int) (H : mo F a1 = some (r3, r4)) : ACalls Tryz.prog 14 [slE Enc.byte a1 q2] [] (Ret (.tup [slE (ab Enc.int (ab Enc.str (ab Enc.str (Enc.sl (ab Enc.str Enc.str))))) r3 none, i64 r4]) []) := by
 unfold mo at H
 refine mU [2, 3] Tryz.func14 rfl rfl ?_;show AW _ _ 38 _ _ _;refine af <| aa ?_;show AR _ _ _ _ _ [0, 1] _;refine zX rfl (bg (zs := [.slice none 0 0]) (by kernel_rfl)) ?_;rintro _ _ ⟨o5, rfl, rfl⟩;refine zX rfl (bg (zs := [.int .i64 0]) (by kernel_rfl)) ?_;rintro _ _ ⟨o6, rfl, rfl⟩;refine ag <| af <| af <| aa ?_;show AR _ _ _ _ _ [0, 1, 2] _;refine zS rfl (ah (av := slE _ _ _) rfl) <| zS rfl (bE al rfl) <| zS rfl (gn rfl rfl) <| ag <| ax rfl (fun c7 => ?_) (fun c7 => ?_)
 ·replace H := aX c7 H;refine af <| aa ?_;show AR _ _ _ _ _ [0, 1] _;refine s0 rfl rfl (aq (i := 1) (c := .v _) (by kernel_rfl) rfl rfl rfl rfl (ac rfl)) <| s0 rfl rfl (aq (i := 0) (c := .v _) (by kernel_rfl) rfl rfl rfl rfl (ac rfl)) <| ag <| aG ?_;obtain ⟨rfl, rfl⟩ := dx H;exact Exists.intro _ (Exists.intro _ ⟨bD rfl ((bn (c := .v _) 1 aO rfl rfl rfl rfl).oneW (.nil _)) (bn (c := .v _) 0 bm rfl rfl rfl rfl), aB [] rfl, rfl, rfl⟩)
 ·replace H := aY c7 H;refine aC <| af <| aa ?_;show AR _ _ _ _ _ [0, 1] _;refine zS rfl (fP rfl rfl) <| am rfl rfl (AO.defer rfl ?_);show AR _ _ _ _ _ _ ⟨_, [.call (.func 20) [.pt o5 0, .pt o6 0] []], _⟩;refine ag <| af <| aa ?_;show AR _ _ _ _ _ [0, 1, 2, 3, 4] _;refine zS rfl (ah (av := slE _ _ _) rfl) <| zS rfl (oJ al cH ai rfl) <| zS rfl (cK (zs := [.string ⟨#[]⟩, .slice none 0 0, .int .i64 0, .slice none 0 0]) (ps := [(0, 1), (1, 1), (2, 1), (3, 1)]) (cs := [S a1, eH, i64 0, eH]) (by kernel_rfl) rfl rfl) <| zX rfl (pO rfl (.inr ⟨_, rfl⟩)) ?_;rintro _ _ ⟨o8, rfl, rfl⟩;refine zS rfl (aH (av := .pt _ _) rfl) <| ag ?_
  refine AW.nil_stkAt 0 1 rfl rfl fun t9 => ?_
  show AW _ _ _ _ _ ⟨_, _, [.stk t9 (Enc.str.fl ([] : List (List UInt8))), .obj o8 [S a1, .sk t9 (([] : List (List UInt8)).length), i64 0, eH], .obj o6 [i64 0], .obj o5 [eH]]⟩
  refine jo 1 3 4 43 rfl rfl fun t10 => ?_
  show AW _ _ _ _ _ ⟨_, _, [.tok t10 43, .stk t9 (Enc.str.fl ([] : List (List UInt8))), .obj o8 [S a1, .sk t9 (([] : List (List UInt8)).length), i64 0, slE (ab Enc.int (ab Enc.str (ab Enc.str (Enc.sl (ab Enc.str Enc.str))))) [] (some t10)], .obj o6 [i64 0], .obj o5 [eH]]⟩;refine bM (X := (List UInt8) × Nat × (List (List UInt8)) × Int × (List (Int × (List UInt8) × (List UInt8) × List ((List UInt8) × List UInt8))) × Nat) (fun (y26, t27, y28, y29, y30, t31) => ⟨[(2, .pt o5 0), (3, .pt o6 0), (4, .pt o8 0)], [.call (.func 20) [.pt o5 0, .pt o6 0] []], [.obj o8 [S y26, .sk t27 y28.length, i64 y29, slE (ab Enc.int (ab Enc.str (ab Enc.str (Enc.sl (ab Enc.str Enc.str))))) y30 (some t31)], .obj o6 [i64 0], .obj o5 [eH], .stk t27 (Enc.str.fl y28), .tok t31 43]⟩) (fun (y26, t27, y28, y29, y30, t31) => jf F y26 y28 y29 y30 = some (r3, r4)) ?_ ?_
  ·refine aU <| dp (X := Nat × (List UInt8) × Nat × (List (List UInt8)) × Int × (List (Int × (List UInt8) × (List UInt8) × List ((List UInt8) × List UInt8))) × Nat) (fun (n18, y11, t12, y13, y14, y15, t16) => ⟨[(2, .pt o5 0), (3, .pt o6 0), (4, .pt o8 0)], [.call (.func 20) [.pt o5 0, .pt o6 0] []], [.obj o8 [S y11, .sk t12 y13.length, i64 y14, slE (ab Enc.int (ab Enc.str (ab Enc.str (Enc.sl (ab Enc.str Enc.str))))) y15 (some t16)], .obj o6 [i64 0], .obj o5 [eH], .stk t12 (Enc.str.fl y13), .tok t16 43]⟩) (fun (n18, y11, t12, y13, y14, y15, t16) => jg F n18 (y11, y13, y14, y15) = some (r3, r4)) (fun (n18, y11, t12, y13, y14, y15, t16) => n18) (F, a1, t9, ([] : List (List UInt8)), 0, [], t10) H (be [2, 2, 2, 1, 0] (.cons (.refl _) (.cons (.refl _) (.cons (.refl _) (.nil _)))) rfl) ?_;rintro ⟨n18, y11, t12, y13, y14, y15, t16⟩ H;obtain ⟨n18, rfl, H⟩ := fA H;replace H : jh F (jg F n18) y11 y13 y14 y15 = some (r3, r4) := H
   unfold jh at H
   refine af <| af <| aa ?_;show AR _ _ _ _ _ [0, 1, 2, 3, 4] _;refine zS rfl (ah (av := .pt _ _) rfl) <| zS rfl (ar rfl) <| zS rfl (an (n := 0) (by kernel_rfl) rfl) <| zR rfl (ao (i := 0) ai rfl rfl rfl rfl) <| zS rfl (nb rfl rfl) <| ag <| ax rfl (fun c19 => ?_) (fun c19 => ?_)
   ·replace H := aX c19 H;refine aC <| aU ?_
    rcases Or.symm (mh H) with ⟨p22, e21, H⟩ | ⟨x20, e21, H⟩
    ·refine aa ?_;show AR _ _ _ _ _ [0, 1] _;refine zS rfl (ah (av := .pt _ _) rfl) <| am rfl rfl (bb (c := cg (.iface 58 (.agg #[.int .i64 p22]))) [0, 2, 2] rfl tW rfl (sn F o8 y11 y13 t12 y14 y15 t16 p22 e21) rfl ?_);refine Exists.intro [(2, .pt o5 0), (3, .pt o6 0)] ⟨by simp, .cons (.refl _) (.cons (.refl _) (.nil _)), ?_⟩;show ALeaves _ _ _ _ _ [.call (.func 20) [.pt o5 0, .pt o6 0] []] _ [.obj o6 [i64 0], .obj o5 [eH]];refine cy (v := .tup []) (u1 := (.panicking [{ v := (.iface 58 (.agg #[.int .i64 p22])), recovered := true }])) (A2 := [.obj o6 [i64 p22], .obj o5 [eH]]) [0, 0] (fun h => by cases h) qj rfl ?_ ?_
     ·show ADCalls _ _ [.pt o5 0, .pt o6 0] [.obj o6 [i64 0], .obj o5 [eH]] _ _;refine bH (av := .ifc 58 (.agg [i64 p22])) (l := [1]) Tryz.func20 rfl rfl rfl rfl rfl dd rfl (fun cs => ?_);refine ASR.op rfl rfl ((aH (av := .ifc _ _) rfl).opR _) <| ASR.nil <| af <| aa ?_;show AR _ _ _ _ _ [0, 1] _;refine zS rfl (ah (av := .ifc _ _) rfl) <| zS rfl (dG (ms := []) (.inr rfl) bQ rfl rfl) <| ag <| ax rfl (fun _ => ?_) (fun hx => bK rfl hx);refine af <| aa ?_;show AR _ _ _ _ _ [0, 1, 2, 3, 4, 5, 6, 7] _;refine zS rfl (ah (av := .ifc _ _) rfl) <| zS rfl (cw Tryz.underlying58 rfl rfl) <| zS rfl (ah (av := .tup _) rfl) <| zS rfl (az (av := .agg _) rfl rfl) <| zS rfl (az (av := .v _) rfl rfl) <| zX rfl (bg (zs := [.int .i64 0]) (by kernel_rfl)) ?_;rintro _ _ ⟨o23, rfl, rfl⟩;refine s0 rfl rfl (aV (i := 0) (vs := [i64 p22]) (by kernel_rfl) rfl rfl (by simp [bz, slE]) rfl (ac rfl)) <| za rfl <| ag <| af <| af <| aa ?_;show AR _ _ _ _ _ [0, 1] _;refine zm rfl <| zS rfl (bB rfl) <| ag <| ax rfl (fun hx => bK hx rfl) (fun _ => ?_);refine aC <| cx (by kernel_rfl) ?_;show AI _ _ _ _ _ 4 (Array.replicate 4 false) _;refine zk 0 rfl (an (n := 0) (by kernel_rfl) rfl) ?_;show AI _ _ _ _ _ _ #[true, false, false, false] _;refine AI.two (i := 1) (j := 2) (by kernel_rfl) rfl rfl rfl rfl ?_ ?_
      ·refine bx rfl (ao (i := 0) bm rfl rfl rfl rfl) ?_;show AI _ _ _ _ _ _ #[true, true, false, false] _;refine cm (i := 2) (by kernel_rfl) rfl rfl <| AIO.op0 (aq (i := 2) (c := .v _) (by kernel_rfl) rfl rfl rfl rfl (ac rfl)) ?_;show AI _ _ _ _ _ _ #[true, true, true, false] _;refine cm (i := 3) (by kernel_rfl) rfl rfl <| AIO.op0 (aq (i := 1) (c := .v _) (by kernel_rfl) rfl rfl rfl rfl (ac rfl)) ?_;show AI _ _ _ _ _ _ #[true, true, true, true] _;refine cV rfl ?_;exact And.intro rfl (Exists.intro _ (Exists.intro _ ⟨bj rfl, aB [1, 1] rfl, rfl, rfl, rfl⟩))
      ·refine AIO.op0 (aq (i := 2) (c := .v _) (by kernel_rfl) rfl rfl rfl rfl (ac rfl)) ?_;show AI _ _ _ _ _ _ #[true, false, true, false] _;refine cm (i := 1) (by kernel_rfl) rfl rfl <| bx rfl (ao (i := 0) bm rfl rfl rfl rfl) ?_;show AI _ _ _ _ _ _ #[true, true, true, false] _;refine cm (i := 3) (by kernel_rfl) rfl rfl <| AIO.op0 (aq (i := 1) (c := .v _) (by kernel_rfl) rfl rfl rfl rfl (ac rfl)) ?_;show AI _ _ _ _ _ _ #[true, true, true, true] _;refine cV rfl ?_;exact And.intro rfl (Exists.intro _ (Exists.intro _ ⟨bj rfl, aB [1, 1] rfl, rfl, rfl, rfl⟩))
     show ALeaves _ _ _ _ _ [] .returning [.obj o6 [i64 p22], .obj o5 [eH]];obtain ⟨rfl, rfl⟩ := dx H;exact Exists.intro _ (Exists.intro _ ⟨bD rfl ((bn (c := .v _) 1 aO rfl rfl rfl rfl).oneW (.nil _)) (bn (c := .v _) 0 bm rfl rfl rfl rfl), aB [] rfl, rfl, rfl⟩)
    refine aa ?_;show AR _ _ _ _ _ [0, 1] _;refine zS rfl (ah (av := .pt _ _) rfl) <| am rfl rfl (aQ [0, 2, 2] rfl tW rfl (uk F o8 y11 y13 t12 y14 y15 t16 x20.1 x20.2.1 x20.2.2.1 x20.2.2.2 e21) rfl (fun c A' h => by cases h.1) ?_)
    rintro av A' ⟨h, t24, t25, rfl⟩; cases h
    refine ag ?_;exact Exists.intro (n18, x20.1, t24, x20.2.2.2, x20.2.1, x20.2.2.1, t25) ⟨H, Nat.lt_succ_self _, be [0, 2, 2, 0, 0] (.cons (.refl _) (.cons (.refl _) (.cons (.refl _) (.nil _)))) rfl⟩
   ·replace H := aY c19 H;refine cB ?_;exact Exists.intro (y11, t12, y13, y14, y15, t16) ⟨H, be [0, 0, 0, 0, 0] (.cons (.refl _) (.cons (.refl _) (.cons (.refl _) (.nil _)))) rfl⟩
  rintro ⟨y26, t27, y28, y29, y30, t31⟩ H;replace H : jf F y26 y28 y29 y30 = some (r3, r4) := H
  unfold jf at H
  refine af ?_
  rcases Or.symm (mh H) with ⟨p36, e35, H⟩ | ⟨x34, e35, H⟩
  ·refine aa ?_;show AR _ _ _ _ _ [0, 1, 2, 3, 4, 5, 6, 7, 8, 9, 10, 11, 12, 13] _;refine zS rfl (ah (av := .pt _ _) rfl) <| zS rfl (ar rfl) <| zS rfl (an (n := 1) (by kernel_rfl) rfl) <| zR rfl (ao (i := 0) au rfl rfl rfl rfl) <| zS rfl (fe au rfl) <| zS rfl (bJ rfl rfl) <| zm rfl <| aW (l := [13]) 32 (B ((decide ((y28.length : Int) = 0)) && (decide (0 < y29)))) (fun K => ?_) ?_
   ·rcases aj (decide ((y28.length : Int) = 0)) with h33 | h33
    ·refine zU h33 rfl (ah (av := .pt _ _) rfl) <| zU h33 rfl (ar rfl) <| zU h33 rfl (an (n := 2) (by kernel_rfl) rfl) <| zT h33 rfl (cn rfl rfl (ao (i := 0) aK rfl rfl rfl rfl) ?_);refine zU h33 rfl (gn rfl rfl) <| zS rfl (aD (av := .v _) rfl h33 rfl) ?_;exact K _ 5 _ (ay (cz h33)) rfl rfl
    ·refine zF h33 rfl <| zF h33 rfl <| zF h33 rfl <| zF h33 rfl <| zF h33 rfl <| zS rfl (aE (av := .v _) rfl h33 rfl) ?_;exact K _ 5 _ (ay (cA h33)) rfl rfl
   refine am rfl rfl (bb (c := cg (.iface 58 (.agg #[.int .i64 p36]))) [] rfl bW rfl (bX F ((decide ((y28.length : Int) = 0)) && (decide (0 < y29))) p36 e35) rfl ?_);refine Exists.intro [(2, .pt o5 0), (3, .pt o6 0)] ⟨by simp, .cons (.refl _) (.cons (.refl _) (.nil _)), ?_⟩;show ALeaves _ _ _ _ _ [.call (.func 20) [.pt o5 0, .pt o6 0] []] _ [.obj o8 [S y26, .sk t27 y28.length, i64 y29, slE (ab Enc.int (ab Enc.str (ab Enc.str (Enc.sl (ab Enc.str Enc.str))))) y30 (some t31)], .obj o6 [i64 0], .obj o5 [eH], .stk t27 (Enc.str.fl y28), .tok t31 43];refine cy (v := .tup []) (u1 := (.panicking [{ v := (.iface 58 (.agg #[.int .i64 p36])), recovered := true }])) (A2 := [.obj o6 [i64 p36], .obj o5 [eH]]) [1, 1] (fun h => by cases h) qj rfl ?_ ?_
   ·show ADCalls _ _ [.pt o5 0, .pt o6 0] [.obj o6 [i64 0], .obj o5 [eH]] _ _;refine bH (av := .ifc 58 (.agg [i64 p36])) (l := [1]) Tryz.func20 rfl rfl rfl rfl rfl dd rfl (fun cs => ?_);refine ASR.op rfl rfl ((aH (av := .ifc _ _) rfl).opR _) <| ASR.nil <| af <| aa ?_;show AR _ _ _ _ _ [0, 1] _;refine zS rfl (ah (av := .ifc _ _) rfl) <| zS rfl (dG (ms := []) (.inr rfl) bQ rfl rfl) <| ag <| ax rfl (fun _ => ?_) (fun hx => bK rfl hx);refine af <| aa ?_;show AR _ _ _ _ _ [0, 1, 2, 3, 4, 5, 6, 7] _;refine zS rfl (ah (av := .ifc _ _) rfl) <| zS rfl (cw Tryz.underlying58 rfl rfl) <| zS rfl (ah (av := .tup _) rfl) <| zS rfl (az (av := .agg _) rfl rfl) <| zS rfl (az (av := .v _) rfl rfl) <| zX rfl (bg (zs := [.int .i64 0]) (by kernel_rfl)) ?_;rintro _ _ ⟨o37, rfl, rfl⟩;refine s0 rfl rfl (aV (i := 0) (vs := [i64 p36]) (by kernel_rfl) rfl rfl (by simp [bz, slE]) rfl (ac rfl)) <| za rfl <| ag <| af <| af <| aa ?_;show AR _ _ _ _ _ [0, 1] _;refine zm rfl <| zS rfl (bB rfl) <| ag <| ax rfl (fun hx => bK hx rfl) (fun _ => ?_);refine aC <| cx (by kernel_rfl) ?_;show AI _ _ _ _ _ 4 (Array.replicate 4 false) _;refine zk 0 rfl (an (n := 0) (by kernel_rfl) rfl) ?_;show AI _ _ _ _ _ _ #[true, false, false, false] _;refine AI.two (i := 1) (j := 2) (by kernel_rfl) rfl rfl rfl rfl ?_ ?_
    ·refine bx rfl (ao (i := 0) bm rfl rfl rfl rfl) ?_;show AI _ _ _ _ _ _ #[true, true, false, false] _;refine cm (i := 2) (by kernel_rfl) rfl rfl <| AIO.op0 (aq (i := 2) (c := .v _) (by kernel_rfl) rfl rfl rfl rfl (ac rfl)) ?_;show AI _ _ _ _ _ _ #[true, true, true, false] _;refine cm (i := 3) (by kernel_rfl) rfl rfl <| AIO.op0 (aq (i := 1) (c := .v _) (by kernel_rfl) rfl rfl rfl rfl (ac rfl)) ?_;show AI _ _ _ _ _ _ #[true, true, true, true] _;refine cV rfl ?_;exact And.intro rfl (Exists.intro _ (Exists.intro _ ⟨bj rfl, aB [1, 1] rfl, rfl, rfl, rfl⟩))
    ·refine AIO.op0 (aq (i := 2) (c := .v _) (by kernel_rfl) rfl rfl rfl rfl (ac rfl)) ?_;show AI _ _ _ _ _ _ #[true, false, true, false] _;refine cm (i := 1) (by kernel_rfl) rfl rfl <| bx rfl (ao (i := 0) bm rfl rfl rfl rfl) ?_;show AI _ _ _ _ _ _ #[true, true, true, false] _;refine cm (i := 3) (by kernel_rfl) rfl rfl <| AIO.op0 (aq (i := 1) (c := .v _) (by kernel_rfl) rfl rfl rfl rfl (ac rfl)) ?_;show AI _ _ _ _ _ _ #[true, true, true, true] _;refine cV rfl ?_;exact And.intro rfl (Exists.intro _ (Exists.intro _ ⟨bj rfl, aB [1, 1] rfl, rfl, rfl, rfl⟩))
   show ALeaves _ _ _ _ _ [] .returning [.obj o6 [i64 p36], .obj o5 [eH], .obj o8 [S y26, .sk t27 y28.length, i64 y29, slE (ab Enc.int (ab Enc.str (ab Enc.str (Enc.sl (ab Enc.str Enc.str))))) y30 (some t31)], .stk t27 (Enc.str.fl y28), .tok t31 43];obtain ⟨rfl, rfl⟩ := dx H;exact Exists.intro _ (Exists.intro _ ⟨bD rfl ((bn (c := .v _) 1 aO rfl rfl rfl rfl).oneW (.nil _)) (bn (c := .v _) 0 bm rfl rfl rfl rfl), aB [] rfl, rfl, rfl⟩)
  refine aa ?_;show AR _ _ _ _ _ [0, 1, 2, 3, 4, 5, 6, 7, 8, 9, 10, 11, 12, 13] _;refine zS rfl (ah (av := .pt _ _) rfl) <| zS rfl (ar rfl) <| zS rfl (an (n := 1) (by kernel_rfl) rfl) <| zR rfl (ao (i := 0) au rfl rfl rfl rfl) <| zS rfl (fe au rfl) <| zS rfl (bJ rfl rfl) <| zm rfl <| aW (l := [13]) 32 (B ((decide ((y28.length : Int) = 0)) && (decide (0 < y29)))) (fun K => ?_) ?_
  ·rcases aj (decide ((y28.length : Int) = 0)) with h33 | h33
   ·refine zU h33 rfl (ah (av := .pt _ _) rfl) <| zU h33 rfl (ar rfl) <| zU h33 rfl (an (n := 2) (by kernel_rfl) rfl) <| zT h33 rfl (cn rfl rfl (ao (i := 0) aK rfl rfl rfl rfl) ?_);refine zU h33 rfl (gn rfl rfl) <| zS rfl (aD (av := .v _) rfl h33 rfl) ?_;exact K _ 5 _ (ay (cz h33)) rfl rfl
   ·refine zF h33 rfl <| zF h33 rfl <| zF h33 rfl <| zF h33 rfl <| zF h33 rfl <| zS rfl (aE (av := .v _) rfl h33 rfl) ?_;exact K _ 5 _ (ay (cA h33)) rfl rfl
  refine am rfl rfl (aA rfl bW rfl (co F ((decide ((y28.length : Int) = 0)) && (decide (0 < y29))) e35) ?_);refine ag <| af <| aa ?_;show AR _ _ _ _ _ [0, 1, 2, 3, 4, 5] _;refine zS rfl (ah (av := .pt _ _) rfl) <| zS rfl (ar rfl) <| zS rfl (an (n := 3) (by kernel_rfl) rfl) <| zR rfl (ao (i := 0) aO rfl rfl rfl rfl) <| s0 rfl rfl (aq (i := 2) (c := slE _ _ _) (by kernel_rfl) rfl rfl rfl rfl (ac rfl)) <| s0 rfl rfl (aq (i := 1) (c := .v _) (by kernel_rfl) rfl rfl rfl rfl (ac rfl)) <| ag <| aG ?_;show ALeaves _ _ _ _ _ [.call (.func 20) [.pt o5 0, .pt o6 0] []] _ [.obj o8 [S y26, .sk t27 y28.length, i64 y29, slE (ab Enc.int (ab Enc.str (ab Enc.str (Enc.sl (ab Enc.str Enc.str))))) y30 (some t31)], .obj o6 [i64 0], .obj o5 [slE (ab Enc.int (ab Enc.str (ab Enc.str (Enc.sl (ab Enc.str Enc.str))))) y30 (some t31)], .stk t27 (Enc.str.fl y28), .tok t31 43];refine cy (v := .tup []) (u1 := .returning) (A2 := [.obj o6 [i64 0], .obj o5 [slE (ab Enc.int (ab Enc.str (ab Enc.str (Enc.sl (ab Enc.str Enc.str))))) y30 (some t31)]]) [1, 1] (fun h => by cases h) qj rfl ?_ ?_
  ·show ADCalls _ _ [.pt o5 0, .pt o6 0] [.obj o6 [i64 0], .obj o5 [slE (ab Enc.int (ab Enc.str (ab Enc.str (Enc.sl (ab Enc.str Enc.str))))) y30 (some t31)]] _ _;refine bH (av := .v .nilIface) (l := [1]) Tryz.func20 rfl rfl rfl rfl rfl Recovers.ret rfl (fun cs => ?_);refine ASR.op rfl rfl ((asg rfl).opR _) <| ASR.nil <| af <| aa ?_;show AR _ _ _ _ _ [0, 1] _;refine zm rfl <| zS rfl (mK (n := 0) (t := 0) (k := .i64) bQ rfl rfl) <| ag <| ax rfl (fun hx => bK hx rfl) (fun _ => ?_);refine aC ?_;exact And.intro rfl (Exists.intro _ (Exists.intro _ ⟨bj rfl, aB [0, 0] rfl, rfl, rfl, rfl⟩))
  show ALeaves _ _ _ _ _ [] .returning [.obj o6 [i64 0], .obj o5 [slE (ab Enc.int (ab Enc.str (ab Enc.str (Enc.sl (ab Enc.str Enc.str))))) y30 (some t31)], .obj o8 [S y26, .sk t27 y28.length, i64 y29, slE (ab Enc.int (ab Enc.str (ab Enc.str (Enc.sl (ab Enc.str Enc.str))))) y30 (some t31)], .stk t27 (Enc.str.fl y28), .tok t31 43];obtain ⟨rfl, rfl⟩ := dx H;exact Exists.intro _ (Exists.intro _ ⟨bD rfl ((bn (c := slE _ _ _) 1 aO rfl rfl rfl rfl).oneW (.tok _ _ _)) (bn (c := .v _) 0 bm rfl rfl rfl rfl), aB [] rfl, rfl, rfl⟩)
end Go.Proofs.YtkbfjepffpddfaaGreatDoor
namespace Go.Pv
def nJ (F : Nat) : Option ((List UInt8)) :=
some ([105, 116, 101, 109] : List UInt8)
def oh (F : Nat) (a1 : List (Int × (List UInt8) × (List UInt8) × List ((List UInt8) × List UInt8))) : Option ((List (Int × (List UInt8) × (List UInt8) × List ((List UInt8) × List UInt8))) × Bool) :=
fv (lj F a1) fun x5 x6 =>
some (x5, x6)
def jI (F : Nat) (a1 : List (Int × (List UInt8) × (List UInt8) × List ((List UInt8) × List UInt8))) : Option ((List UInt8) × (List UInt8) × (List UInt8) × (List UInt8) × Int) :=
bnd (da F a1 ([([103, 117, 105, 100] : List UInt8)] : List (List UInt8))) fun x9 =>
bnd (da F a1 ([([116, 105, 116, 108, 101] : List UInt8)] : List (List UInt8))) fun x11 =>
bnd (da F a1 ([([108, 105, 110, 107] : List UInt8)] : List (List UInt8))) fun x13 =>
bnd (da F a1 ([([100, 101, 115, 99, 114, 105, 112, 116, 105, 111, 110] : List UInt8)] : List (List UInt8))) fun x15 =>
some (x9, x11, x13, x15, 0)
def mw (F : Nat) : Option ((List UInt8)) :=
some ([101, 110, 116, 114, 121] : List UInt8)
def pJ (F : Nat) (a1 : List (Int × (List UInt8) × (List UInt8) × List ((List UInt8) × List UInt8))) : Option ((List (Int × (List UInt8) × (List UInt8) × List ((List UInt8) × List UInt8))) × Bool) :=
some (a1, true)
def gl (x9 : List UInt8) (x11 : List UInt8) (x13 : List UInt8) (y23 : List UInt8) (y33 : Int) : Option ((List UInt8) × (List UInt8) × (List UInt8) × (List UInt8) × Int) :=
some (x9, x11, y23, x13, y33)
def eY (F : Nat) (a1 : List (Int × (List UInt8) × (List UInt8) × List ((List UInt8) × List UInt8))) (x9 : List UInt8) (x11 : List UInt8) (x13 : List UInt8) (y23 : List UInt8) : Option ((List UInt8) × (List UInt8) × (List UInt8) × (List UInt8) × Int) :=
bnd (da F a1 ([([117, 112, 100, 97, 116, 101, 100] : List UInt8)] : List (List UInt8))) fun x25 =>
fv (fI F x25) fun x27 x28 =>
bif ((decide (x28 = 0)) && (decide (0 ≤ x27))) && (decide (x27 ≤ 253402300799)) then
  gl x9 x11 x13 y23 x27
else
  gl x9 x11 x13 y23 0
def iK (F : Nat) (a1 : List (Int × (List UInt8) × (List UInt8) × List ((List UInt8) × List UInt8))) : Option ((List UInt8) × (List UInt8) × (List UInt8) × (List UInt8) × Int) :=
bnd (da F a1 ([([105, 100] : List UInt8)] : List (List UInt8))) fun x9 =>
bnd (da F a1 ([([116, 105, 116, 108, 101] : List UInt8)] : List (List UInt8))) fun x11 =>
bnd (da F a1 ([([115, 117, 109, 109, 97, 114, 121] : List UInt8), ([99, 111, 110, 116, 101, 110, 116] : List UInt8)] : List (List UInt8))) fun x13 =>
fv (lk F a1) fun x16 x17 =>
bif x17 then
  fv (kU F x16 ([104, 114, 101, 102] : List UInt8)) fun x20 x21 =>
  eY F a1 x9 x11 x13 x20
else
  eY F a1 x9 x11 x13 ([] : List UInt8)
def di (x19 : List UInt8) (y57 : List ((List UInt8) × (List UInt8) × (List UInt8) × (List UInt8) × Int)) : Option ((List UInt8) × (List ((List UInt8) × (List UInt8) × (List UInt8) × (List UInt8) × Int)) × Int) :=
some (x19, y57, 0)
def dh (F : Nat) (x10 : Option Bool) (y25 : List ((List UInt8) × (List UInt8) × (List UInt8) × (List UInt8) × Int)) (z27 : Nat) (x29 : List (Int × (List UInt8) × (List UInt8) × List ((List UInt8) × List UInt8))) : Option (((List ((List UInt8) × (List UInt8) × (List UInt8) × (List UInt8) × Int)) × Nat) × Bool) :=
grd (decide (z27 = 0)) <|
bnd (fg F x29) fun x30 =>
bnd (ikm x10 (nJ F) (mw F)) fun x32 =>
bif !decide (x30 = x32) then
  some ((y25, 0), true)
else
  bif decide ((y25.length : Int) = 200) then
    some ((y25, 1), false)
  else
    bnd5 (ikm x10 (jI F x29) (iK F x29)) fun x36 x37 x38 x39 x40 =>
    grd (kE (min (x39.length : Int) 4000) x39.length) <|
    lt (to_ x39 (min (x39.length : Int) 4000)) fun x44 =>
    grd (cX (y25.length + ([(x36, x37, x38, x44, x40)] : List ((List UInt8) × (List UInt8) × (List UInt8) × (List UInt8) × Int)).length)) <|
    lt (y25 ++ ([(x36, x37, x38, x44, x40)] : List ((List UInt8) × (List UInt8) × (List UInt8) × (List UInt8) × Int))) fun x48 =>
    some ((x48, 0), true)
def jm (F : Nat) (a1 : List (Int × (List UInt8) × (List UInt8) × List ((List UInt8) × List UInt8))) : Option ((List UInt8) × (List ((List UInt8) × (List UInt8) × (List UInt8) × (List UInt8) × Int)) × Int) :=
bnd (kc F a1) fun x7 =>
bif !x7 then
  some (([] : List UInt8), [], 2)
else
  fv (rk F a1) fun x10 x11 =>
  bif !x11 then
    some (([] : List UInt8), [], 2)
  else
    fv (ikm x10 (oh F a1) (pJ F a1)) fun x15 x16 =>
    bif !x16 then
      some (([] : List UInt8), [], 2)
    else
      bnd (da F x15 ([([116, 105, 116, 108, 101] : List UInt8)] : List (List UInt8))) fun x19 =>
      bnd (dI F x15) fun _ =>
      bnd (ff F (fun s x => dh F x10 s.1 s.2 x) ([], 0) x15) fun x51 =>
      bif decide (x51.2 = 0) then
        di x19 x51.1
      else
        bif decide (x51.2 = 1) then
          di x19 x51.1
        else
          none
def dT (F : Nat) (a1 : List UInt8) : Option ((List UInt8) × (List ((List UInt8) × (List UInt8) × (List UInt8) × (List UInt8) × Int)) × Int) :=
fv (mo F a1) fun x7 x8 =>
bif !decide (x8 = 0) then
  some (([] : List UInt8), [], x8)
else
  bnd3 (jm F x7) fun x11 x12 x13 =>
  some (x11, x12, x13)
end Go.Pv
namespace Go.Proofs.YtkbfjepffpddfaaGreatDoor
open Go.RowKit Go.Av Go.Pv
theorem en14_fdb : ∀ (args : Array Value) (w : World), (callFunc 14 args).run Tryz.prog w = .ok (.enter 14 args) w := fun _ _ => by kernel_rfl
theorem en15_fdb : ∀ (args : Array Value) (w : World), (callFunc 15 args).run Tryz.prog w = .ok (.enter 15 args) w := fun _ _ => by kernel_rfl
theorem en23_fdb : ∀ (args : Array Value) (w : World), (callFunc 23 args).run Tryz.prog w = .ok (.enter 23 args) w := fun _ _ => by kernel_rfl
theorem en24_fdb : ∀ (args : Array Value) (w : World), (callFunc 24 args).run Tryz.prog w = .ok (.enter 24 args) w := fun _ _ => by kernel_rfl
theorem js : ∀ (args : Array Value) (w : World), (callFunc 25 args).run Tryz.prog w = .ok (.enter 25 args) w := fun _ _ => by kernel_rfl
theorem en26_fdb : ∀ (args : Array Value) (w : World), (callFunc 26 args).run Tryz.prog w = .ok (.enter 26 args) w := fun _ _ => by kernel_rfl
theorem en27_fdb : ∀ (args : Array Value) (w : World), (callFunc 27 args).run Tryz.prog w = .ok (.enter 27 args) w := fun _ _ => by kernel_rfl
theorem wv : ∀ (args : Array Value) (w : World), (callFunc 38 args).run Tryz.prog w = .ok (.enter 38 args) w := fun _ _ => by kernel_rfl
theorem en41_fdb : ∀ (args : Array Value) (w : World), (callFunc 41 args).run Tryz.prog w = .ok (.enter 41 args) w := fun _ _ => by kernel_rfl
theorem zD : ∀ (args : Array Value) (w : World), (callFunc 146 args).run Tryz.prog w = .ok (.enter 146 args) w := fun _ _ => by kernel_rfl
theorem zC : ∀ (args : Array Value) (w : World), (callFunc 147 args).run Tryz.prog w = .ok (.enter 147 args) w := fun _ _ => by kernel_rfl
theorem zB : ∀ (args : Array Value) (w : World), (callFunc 148 args).run Tryz.prog w = .ok (.enter 148 args) w := fun _ _ => by kernel_rfl
theorem zz : ∀ (args : Array Value) (w : World), (callFunc 150 args).run Tryz.prog w = .ok (.enter 150 args) w := fun _ _ => by kernel_rfl
theorem zy : ∀ (args : Array Value) (w : World), (callFunc 151 args).run Tryz.prog w = .ok (.enter 151 args) w := fun _ _ => by kernel_rfl
theorem zx : ∀ (args : Array Value) (w : World), (callFunc 152 args).run Tryz.prog w = .ok (.enter 152 args) w := fun _ _ => by kernel_rfl
theorem zu : ∀ (args : Array Value) (w : World), (callFunc 154 args).run Tryz.prog w = .ok (.enter 154 args) w := fun _ _ => by kernel_rfl
theorem zt : ∀ (args : Array Value) (w : World), (callFunc 155 args).run Tryz.prog w = .ok (.enter 155 args) w := fun _ _ => by kernel_rfl
set_option maxRecDepth 100000 in
set_option maxHeartbeats 1000000 in
theorem wJ (F : Nat) (r1 : List UInt8) (H : nJ F = some r1) : ACalls Tryz.prog 147 [.agg []] [] (Ret (S r1) []) := by
 unfold nJ at H
 refine ap Tryz.func147 rfl rfl ?_;show AW _ _ 3 _ _ _;refine af <| aa ?_;show AR _ _ _ _ _ [0, 1] _;refine zR rfl (dS rfl (.inr ⟨_, rfl⟩)) <| za rfl <| ag <| af <| aa ?_;show AR _ _ _ _ _ [0] _;refine za rfl <| ag <| aG ?_;obtain rfl := ak H;exact And.intro rfl (Exists.intro _ (Exists.intro _ ⟨aF rfl (.refl _), aB [] rfl, rfl, rfl⟩))
set_option maxRecDepth 100000 in
set_option maxHeartbeats 1000000 in
theorem ye (F : Nat) (a1 : List (Int × (List UInt8) × (List UInt8) × List ((List UInt8) × List UInt8))) (q2 : Option Nat) (r3 : List (Int × (List UInt8) × (List UInt8) × List ((List UInt8) × List UInt8))) (r4 : Bool) (H : oh F a1 = some (r3, r4)) : ACalls Tryz.prog 148 [.agg [], slE (ab Enc.int (ab Enc.str (ab Enc.str (Enc.sl (ab Enc.str Enc.str))))) a1 q2] [] (Ret (.tup [slE (ab Enc.int (ab Enc.str (ab Enc.str (Enc.sl (ab Enc.str Enc.str))))) r3 none, B r4]) []) := by
 unfold oh at H
 refine ap Tryz.func148 rfl rfl ?_;show AW _ _ 10 _ _ _;refine af <| aa ?_;show AR _ _ _ _ _ [0, 1, 2] _;refine zR rfl (dS rfl (.inr ⟨_, rfl⟩)) <| za rfl <| za rfl <| ag <| af ?_;obtain ⟨x5, x6, e7, H⟩ := cF H;refine aa ?_;show AR _ _ _ _ _ [0, 1, 2, 3, 4, 5] _;refine zS rfl (ah (av := slE _ _ _) rfl) <| am rfl rfl (aA rfl wv rfl (ur F a1 q2 x5 x6 e7) ?_);refine zS rfl (az (av := slE _ _ _) rfl rfl) <| zS rfl (az (av := .v _) rfl rfl) <| zS rfl (aH (av := slE _ _ _) rfl) <| za rfl <| ag <| aG ?_;obtain ⟨rfl, rfl⟩ := dx H;exact And.intro rfl (Exists.intro _ (Exists.intro _ ⟨bk rfl (.refl _) (.refl _), aB [] rfl, rfl, rfl⟩))
abbrev _root_.Go.Av.dM := @Tryz.underlying32
set_option maxRecDepth 100000 in
set_option maxHeartbeats 1000000 in
theorem vl (F : Nat) (a1 : List (Int × (List UInt8) × (List UInt8) × List ((List UInt8) × List UInt8))) (q2 : Option Nat) (r3 : List UInt8) (r4 : List UInt8) (r5 : List UInt8) (r6 : List UInt8) (r7 : Int) (H : jI F a1 = some (r3, r4, r5, r6, r7)) : ACalls Tryz.prog 146 [.agg [], slE (ab Enc.int (ab Enc.str (ab Enc.str (Enc.sl (ab Enc.str Enc.str))))) a1 q2] [] (Ret (.agg [S r3, S r4, S r5, S r6, i64 r7]) []) := by
 unfold jI at H
 refine ap Tryz.func146 rfl rfl ?_;show AW _ _ 18 _ _ _;refine af <| aa ?_;show AR _ _ _ _ _ [0, 1] _;refine zR rfl (dS rfl (.inr ⟨_, rfl⟩)) <| zX rfl (bg (zs := [.string ⟨#[]⟩, .string ⟨#[]⟩, .string ⟨#[]⟩, .string ⟨#[]⟩, .int .i64 0]) (by kernel_rfl)) ?_;rintro _ _ ⟨o8, rfl, rfl⟩;refine ag <| af ?_;obtain ⟨x9, e10, H⟩ := bU H;obtain ⟨x11, e12, H⟩ := bU H;obtain ⟨x13, e14, H⟩ := bU H;obtain ⟨x15, e16, H⟩ := bU H;refine aa ?_;show AR _ _ _ _ _ [0, 1, 2, 3, 4, 5, 6, 7, 8, 9, 10, 11, 12, 13] _;refine zS rfl (ah (av := slE _ _ _) rfl) <| zR rfl (cR (E := Enc.str) (bytes := 16) (xs := [.const _]) (l := ([([103, 117, 105, 100] : List UInt8)] : List (List UInt8))) au (by kernel_rfl) rfl rfl (by decide) rfl rfl) <| am rfl rfl (aA rfl js rfl (dX F a1 q2 ([([103, 117, 105, 100] : List UInt8)] : List (List UInt8)) x9 e10) ?_);refine zS rfl (ah (av := slE _ _ _) rfl) <| zR rfl (cR (E := Enc.str) (bytes := 16) (xs := [.const _]) (l := ([([116, 105, 116, 108, 101] : List UInt8)] : List (List UInt8))) au (by kernel_rfl) rfl rfl (by decide) rfl rfl) <| am rfl rfl (aA rfl js rfl (dX F a1 q2 ([([116, 105, 116, 108, 101] : List UInt8)] : List (List UInt8)) x11 e12) ?_)
 refine zS rfl (ah (av := slE _ _ _) rfl) <| zR rfl (cR (E := Enc.str) (bytes := 16) (xs := [.const _]) (l := ([([108, 105, 110, 107] : List UInt8)] : List (List UInt8))) au (by kernel_rfl) rfl rfl (by decide) rfl rfl) <| am rfl rfl (aA rfl js rfl (dX F a1 q2 ([([108, 105, 110, 107] : List UInt8)] : List (List UInt8)) x13 e14) ?_);refine zS rfl (ah (av := slE _ _ _) rfl) <| zR rfl (cR (E := Enc.str) (bytes := 16) (xs := [.const _]) (l := ([([100, 101, 115, 99, 114, 105, 112, 116, 105, 111, 110] : List UInt8)] : List (List UInt8))) au (by kernel_rfl) rfl rfl (by decide) rfl rfl) <| am rfl rfl (aA rfl js rfl (dX F a1 q2 ([([100, 101, 115, 99, 114, 105, 112, 116, 105, 111, 110] : List UInt8)] : List (List UInt8)) x15 e16) ?_);refine zS rfl (cK (zs := [.string ⟨#[]⟩, .string ⟨#[]⟩, .string ⟨#[]⟩, .string ⟨#[]⟩, .int .i64 0]) (ps := [(0, 1), (1, 1), (2, 1), (3, 1), (4, 1)]) (cs := [S x9, S x11, S x13, S x15, i64 0]) (by kernel_rfl) rfl rfl) <| s0 rfl rfl (aV (i := 0) (vs := [S x9, S x11, S x13, S x15, i64 0]) (by kernel_rfl) rfl rfl (by simp [bz, slE]) rfl (ac rfl)) <| ag <| aG ?_;obtain ⟨rfl, rfl, rfl, rfl, rfl⟩ := res5 H;exact And.intro rfl (Exists.intro _ (Exists.intro _ ⟨dk (lH rfl (CellV.agg (off := 0) (cs := [S x9, S x11, S x13, S x15, i64 0]) (n := 5) 0 dM rfl (by kernel_rfl) rfl rfl (ac rfl))), aB [] rfl, rfl, rfl⟩))
set_option maxRecDepth 100000 in
set_option maxHeartbeats 1000000 in
theorem vr (F : Nat) (r1 : List UInt8) (H : mw F = some r1) : ACalls Tryz.prog 151 [.agg []] [] (Ret (S r1) []) := by
 unfold mw at H
 refine ap Tryz.func151 rfl rfl ?_;show AW _ _ 3 _ _ _;refine af <| aa ?_;show AR _ _ _ _ _ [0, 1] _;refine zR rfl (dS rfl (.inr ⟨_, rfl⟩)) <| za rfl <| ag <| af <| aa ?_;show AR _ _ _ _ _ [0] _;refine za rfl <| ag <| aG ?_;obtain rfl := ak H;exact And.intro rfl (Exists.intro _ (Exists.intro _ ⟨aF rfl (.refl _), aB [] rfl, rfl, rfl⟩))
set_option maxRecDepth 100000 in
set_option maxHeartbeats 1000000 in
theorem wN (F : Nat) (a1 : List (Int × (List UInt8) × (List UInt8) × List ((List UInt8) × List UInt8))) (q2 : Option Nat) (r3 : List (Int × (List UInt8) × (List UInt8) × List ((List UInt8) × List UInt8))) (r4 : Bool) (H : pJ F a1 = some (r3, r4)) : ACalls Tryz.prog 152 [.agg [], slE (ab Enc.int (ab Enc.str (ab Enc.str (Enc.sl (ab Enc.str Enc.str))))) a1 q2] [] (Ret (.tup [slE (ab Enc.int (ab Enc.str (ab Enc.str (Enc.sl (ab Enc.str Enc.str))))) r3 none, B r4]) []) := by
 unfold pJ at H
 refine ap Tryz.func152 rfl rfl ?_;show AW _ _ 7 _ _ _;refine af <| aa ?_;show AR _ _ _ _ _ [0, 1, 2] _;refine zR rfl (dS rfl (.inr ⟨_, rfl⟩)) <| za rfl <| za rfl <| ag <| af <| aa ?_;show AR _ _ _ _ _ [0, 1, 2] _;refine zS rfl (ah (av := slE _ _ _) rfl) <| zS rfl (aH (av := slE _ _ _) rfl) <| za rfl <| ag <| aG ?_;obtain ⟨rfl, rfl⟩ := dx H;exact And.intro rfl (Exists.intro _ (Exists.intro _ ⟨bk rfl (.tok _ _ _) (.refl _), aB [] rfl, rfl, rfl⟩))
set_option maxRecDepth 100000 in
set_option maxHeartbeats 1000000 in
theorem ux (F : Nat) (a1 : List (Int × (List UInt8) × (List UInt8) × List ((List UInt8) × List UInt8))) (q2 : Option Nat) (r3 : List UInt8) (r4 : List UInt8) (r5 : List UInt8) (r6 : List UInt8) (r7 : Int) (H : iK F a1 = some (r3, r4, r5, r6, r7)) : ACalls Tryz.prog 150 [.agg [], slE (ab Enc.int (ab Enc.str (ab Enc.str (Enc.sl (ab Enc.str Enc.str))))) a1 q2] [] (Ret (.agg [S r3, S r4, S r5, S r6, i64 r7]) []) := by
 unfold iK at H
 refine ap Tryz.func150 rfl rfl ?_;show AW _ _ 52 _ _ _;refine af <| aa ?_;show AR _ _ _ _ _ [0, 1] _;refine zR rfl (dS rfl (.inr ⟨_, rfl⟩)) <| zX rfl (bg (zs := [.string ⟨#[]⟩, .string ⟨#[]⟩, .string ⟨#[]⟩, .string ⟨#[]⟩, .int .i64 0]) (by kernel_rfl)) ?_;rintro _ _ ⟨o8, rfl, rfl⟩;refine ag <| af ?_;obtain ⟨x9, e10, H⟩ := bU H;obtain ⟨x11, e12, H⟩ := bU H;obtain ⟨x13, e14, H⟩ := bU H;refine aa ?_;show AR _ _ _ _ _ [0, 1, 2, 3, 4, 5, 6, 7, 8, 9, 10, 11] _;refine zS rfl (ah (av := slE _ _ _) rfl) <| zR rfl (cR (E := Enc.str) (bytes := 16) (xs := [.const _]) (l := ([([105, 100] : List UInt8)] : List (List UInt8))) au (by kernel_rfl) rfl rfl (by decide) rfl rfl) <| am rfl rfl (aA rfl js rfl (dX F a1 q2 ([([105, 100] : List UInt8)] : List (List UInt8)) x9 e10) ?_);refine zS rfl (ah (av := slE _ _ _) rfl) <| zR rfl (cR (E := Enc.str) (bytes := 16) (xs := [.const _]) (l := ([([116, 105, 116, 108, 101] : List UInt8)] : List (List UInt8))) au (by kernel_rfl) rfl rfl (by decide) rfl rfl) <| am rfl rfl (aA rfl js rfl (dX F a1 q2 ([([116, 105, 116, 108, 101] : List UInt8)] : List (List UInt8)) x11 e12) ?_)
 refine zS rfl (ah (av := slE _ _ _) rfl) <| zR rfl (cR (E := Enc.str) (bytes := 16) (xs := [.const _, .const _]) (l := ([([115, 117, 109, 109, 97, 114, 121] : List UInt8), ([99, 111, 110, 116, 101, 110, 116] : List UInt8)] : List (List UInt8))) au (by kernel_rfl) rfl rfl (by decide) rfl rfl) <| am rfl rfl (aA rfl js rfl (dX F a1 q2 ([([115, 117, 109, 109, 97, 114, 121] : List UInt8), ([99, 111, 110, 116, 101, 110, 116] : List UInt8)] : List (List UInt8)) x13 e14) ?_);refine zS rfl (cK (zs := [.string ⟨#[]⟩, .string ⟨#[]⟩, .string ⟨#[]⟩, .string ⟨#[]⟩, .int .i64 0]) (ps := [(0, 1), (1, 1), (2, 1), (3, 1), (4, 1)]) (cs := [S x9, S x11, S ([] : List UInt8), S x13, i64 0]) (by kernel_rfl) rfl rfl) <| zX rfl (bg (zs := [.string ⟨#[]⟩, .string ⟨#[]⟩, .string ⟨#[]⟩, .string ⟨#[]⟩, .int .i64 0]) (by kernel_rfl)) ?_;rintro _ _ ⟨o15, rfl, rfl⟩;refine s0 rfl rfl (aV (i := 0) (vs := [S x9, S x11, S ([] : List UInt8), S x13, i64 0]) (by kernel_rfl) rfl rfl (by simp [bz, slE]) rfl (ac rfl)) <| ag <| af ?_;obtain ⟨x16, x17, e18, H⟩ := cF H;refine aa ?_;show AR _ _ _ _ _ [0, 1, 2, 3, 4, 5, 6] _;refine zS rfl (ah (av := slE _ _ _) rfl) <| am rfl rfl (aA rfl wv rfl (ut F a1 q2 x16 x17 e18) ?_)
 refine zS rfl (ah (av := .tup _) rfl) <| zS rfl (az (av := slE _ _ _) rfl rfl) <| zS rfl (az (av := .v _) rfl rfl) <| zS rfl (aH (av := slE _ _ _) rfl) <| za rfl <| ag <| bM (X := (List UInt8)) (fun y23 => ⟨[(1, slE (ab Enc.int (ab Enc.str (ab Enc.str (Enc.sl (ab Enc.str Enc.str))))) a1 q2), (4, .pt o8 0), (5, .pt o15 0)], [], [.obj o15 [S x9, S x11, S y23, S x13, i64 0], .obj o8 [S ([] : List UInt8), S ([] : List UInt8), S ([] : List UInt8), S ([] : List UInt8), i64 0]]⟩) (fun y23 => eY F a1 x9 x11 x13 y23 = some (r3, r4, r5, r6, r7)) ?_ ?_
 ·refine af <| aa ?_;show AR _ _ _ _ _ [0] _;refine zm rfl <| ag <| ax rfl (fun c19 => ?_) (fun c19 => ?_)
  ·replace H := aX c19 H;obtain ⟨x20, x21, e22, H⟩ := cF H;refine aa ?_;show AR _ _ _ _ _ [0, 1, 2, 3, 4, 5, 6] _;refine zS rfl (ah (av := slE _ _ _) rfl) <| am rfl rfl (aA rfl zu rfl (qs F x16 none ([104, 114, 101, 102] : List UInt8) x20 x21 e22) ?_);refine zS rfl (ah (av := .tup _) rfl) <| zS rfl (az (av := .v _) rfl rfl) <| zS rfl (az (av := .v _) rfl rfl) <| zS rfl (an (n := 2) (by kernel_rfl) rfl) <| s0 rfl rfl (aq (i := 0) (c := .v _) (by kernel_rfl) rfl rfl rfl rfl (ac rfl)) <| ag ?_;exact Exists.intro x20 ⟨H, be [0, 0] (.cons (.refl _) (.cons (.refl _) (.cons (.refl _) (.nil _)))) rfl⟩
  ·replace H := aY c19 H;refine aC ?_;exact Exists.intro ([] : List UInt8) ⟨H, be [0, 0] (.cons (.refl _) (.cons (.refl _) (.cons (.refl _) (.nil _)))) rfl⟩
 rintro y23 H;replace H : eY F a1 x9 x11 x13 y23 = some (r3, r4, r5, r6, r7) := H
 unfold eY at H
 refine bM (X := Int) (fun y33 => ⟨[(4, .pt o8 0), (5, .pt o15 0)], [], [.obj o15 [S x9, S x11, S y23, S x13, i64 y33], .obj o8 [S ([] : List UInt8), S ([] : List UInt8), S ([] : List UInt8), S ([] : List UInt8), i64 0]]⟩) (fun y33 => gl x9 x11 x13 y23 y33 = some (r3, r4, r5, r6, r7)) ?_ ?_
 ·refine af ?_;obtain ⟨x25, e26, H⟩ := bU H;obtain ⟨x27, x28, e29, H⟩ := cF H;refine aa ?_;show AR _ _ _ _ _ [0, 1, 2, 3, 4, 5, 6, 7, 8] _;refine zS rfl (ah (av := slE _ _ _) rfl) <| zR rfl (cR (E := Enc.str) (bytes := 16) (xs := [.const _]) (l := ([([117, 112, 100, 97, 116, 101, 100] : List UInt8)] : List (List UInt8))) au (by kernel_rfl) rfl rfl (by decide) rfl rfl) <| am rfl rfl (aA rfl js rfl (dX F a1 q2 ([([117, 112, 100, 97, 116, 101, 100] : List UInt8)] : List (List UInt8)) x25 e26) ?_);refine am rfl rfl (aA rfl zt rfl (sr F x25 x27 x28 e29) ?_);refine zS rfl (ah (av := .tup _) rfl) <| zS rfl (az (av := .v _) rfl rfl) <| zS rfl (az (av := .v _) rfl rfl) <| za rfl <| za rfl <| ag <| af <| aa ?_;show AR _ _ _ _ _ [0, 1, 2, 3, 4, 5, 6, 7, 8, 9] _;refine zm rfl <| zS rfl (bJ rfl rfl) <| zm rfl <| aW (l := [6, 7, 8, 9]) 44 (B ((decide (x28 = 0)) && (decide (0 ≤ x27)))) (fun K => ?_) ?_
  ·rcases aj (decide (x28 = 0)) with h30 | h30
   ·refine zM h30 rfl <| zU h30 rfl (fy rfl rfl) <| zS rfl (aD (av := .v _) rfl h30 rfl) ?_;exact K _ 2 _ (ay (cz h30)) rfl rfl
   ·refine zF h30 rfl <| zF h30 rfl <| zS rfl (aE (av := .v _) rfl h30 rfl) ?_;exact K _ 2 _ (ay (cA h30)) rfl rfl
  refine zm rfl <| aW (l := []) 48 (B (((decide (x28 = 0)) && (decide (0 ≤ x27))) && (decide (x27 ≤ 253402300799)))) (fun K => ?_) ?_
  ·rcases aj ((decide (x28 = 0)) && (decide (0 ≤ x27))) with h31 | h31
   ·refine zM h31 rfl <| zU h31 rfl (fJ rfl rfl) <| zS rfl (aD (av := .v _) rfl h31 rfl) ?_;exact K _ 2 _ (ay (cz h31)) rfl rfl
   ·refine zF h31 rfl <| zF h31 rfl <| zS rfl (aE (av := .v _) rfl h31 rfl) ?_;exact K _ 2 _ (ay (cA h31)) rfl rfl
  refine ag <| ax rfl (fun c32 => ?_) (fun c32 => ?_)
  ·replace H := aX c32 H;refine aa ?_;show AR _ _ _ _ _ [0, 1, 2] _;refine zm rfl <| zS rfl (an (n := 4) (by kernel_rfl) rfl) <| s0 rfl rfl (aq (i := 0) (c := .v _) (by kernel_rfl) rfl rfl rfl rfl (ac rfl)) <| ag ?_;exact Exists.intro x27 ⟨H, be [0, 0] (.cons (.refl _) (.cons (.refl _) (.nil _))) rfl⟩
  ·replace H := aY c32 H;refine aC ?_;exact Exists.intro 0 ⟨H, be [0, 0] (.cons (.refl _) (.cons (.refl _) (.nil _))) rfl⟩
 rintro y33 H;replace H : gl x9 x11 x13 y23 y33 = some (r3, r4, r5, r6, r7) := H
 unfold gl at H
 refine af <| aa ?_;show AR _ _ _ _ _ [0, 1] _;refine zR rfl (dZ (i := 0) (n := 5) dM rfl (by kernel_rfl) rfl rfl (ac rfl)) <| s0 rfl rfl (aV (i := 1) (vs := [S x9, S x11, S y23, S x13, i64 y33]) (by kernel_rfl) rfl rfl (by simp [bz, slE]) rfl (ac rfl)) <| ag <| aG ?_;obtain ⟨rfl, rfl, rfl, rfl, rfl⟩ := res5 H;exact And.intro rfl (Exists.intro _ (Exists.intro _ ⟨dk (lH rfl (CellV.agg (off := 0) (cs := [S x9, S x11, S y23, S x13, i64 y33]) (n := 5) 1 dM rfl (by kernel_rfl) rfl rfl (ac rfl))), aB [] rfl, rfl, rfl⟩))
abbrev _root_.Go.Av.bt := @Tryz.underlying24
abbrev _root_.Go.Av.ce := @Tryz.underlying26
set_option maxRecDepth 100000 in
set_option maxHeartbeats 1000000 in
theorem rr (F : Nat) (a1 : List (Int × (List UInt8) × (List UInt8) × List ((List UInt8) × List UInt8))) (q2 : Option Nat) (r3 : List UInt8) (r4 : List ((List UInt8) × (List UInt8) × (List UInt8) × (List UInt8) × Int)) (r5 : Int) (H : jm F a1 = some (r3, r4, r5)) : ACalls Tryz.prog 15 [slE (ab Enc.int (ab Enc.str (ab Enc.str (Enc.sl (ab Enc.str Enc.str))))) a1 q2] [] (Ret (.tup [.agg [S r3, slE (ab Enc.str (ab Enc.str (ab Enc.str (ab Enc.str Enc.int)))) r4 none], i64 r5]) []) := by
 unfold jm at H
 refine ip Tryz.func15 rfl rfl ?_;show AW _ _ 65 _ _ _;refine af <| aa ?_;show AR _ _ _ _ _ [0, 1] _;refine zX rfl (bg (zs := [.string ⟨#[]⟩, .slice none 0 0]) (by kernel_rfl)) ?_;rintro _ _ ⟨o6, rfl, rfl⟩;refine za rfl <| ag <| af <| af ?_;obtain ⟨x7, e8, H⟩ := bU H;refine aa ?_;show AR _ _ _ _ _ [0, 1, 2] _;refine zS rfl (ah (av := slE _ _ _) rfl) <| am rfl rfl (aA rfl en23_fdb rfl (sw F a1 q2 x7 e8) ?_);refine zS rfl (bB rfl) <| ag <| ax rfl (fun c9 => ?_) (fun c9 => ?_)
 ·replace H := aX c9 H;refine af <| aa ?_;show AR _ _ _ _ _ [0, 1, 2] _;refine zS rfl (cK (zs := [.string ⟨#[]⟩, .slice none 0 0]) (ps := [(0, 1), (1, 1)]) (cs := [S ([] : List UInt8), eH]) (by kernel_rfl) rfl rfl) <| s0 rfl rfl (aV (i := 0) (vs := [S ([] : List UInt8), eH]) (by kernel_rfl) rfl rfl (by simp [bz, slE]) rfl (ac rfl)) <| za rfl <| ag <| aG ?_;obtain ⟨rfl, rfl, rfl⟩ := res3 H;exact Exists.intro _ (And.intro (.nil _) (Exists.intro _ (Exists.intro _ ⟨dk (bD rfl (CellV.aggW (cs := [S ([] : List UInt8), eH]) (CellV.agg (off := 0) (cs := [S ([] : List UInt8), eH]) (n := 2) 0 ce rfl (by kernel_rfl) rfl rfl (ac rfl)) (.cons (.refl _) (.cons (.nil _) (.nil)))) ((show PlaceV _ _ _ (.tmp _) _ from (.refl _)))), aB [] rfl, rfl, rfl⟩)))
 ·replace H := aY c9 H;refine aC <| af ?_;obtain ⟨x10, x11, e12, H⟩ := cF H;refine aa ?_;show AR _ _ _ _ _ [0, 1, 2, 3, 4, 5, 6, 7] _;refine zS rfl (ah (av := slE _ _ _) rfl) <| am rfl rfl (aA rfl en24_fdb rfl (yg F a1 q2 x10 x11 e12) ?_);refine zS rfl (ah (av := .tup _) rfl) <| zS rfl (az (av := ikA _ _ _) rfl rfl) <| zS rfl (az (av := .v _) rfl rfl) <| zX rfl (bg (zs := [.nilIface]) (by kernel_rfl)) ?_;rintro _ _ ⟨o13, rfl, rfl⟩;refine s0 rfl rfl (aq (i := 0) (c := ikA _ _ _) (by kernel_rfl) rfl rfl (ikA_cell _ _ _) rfl (ac rfl)) <| eT 4 0 rfl rfl ?_;show AR _ _ _ _ _ _ ⟨_, _, [.obj o6 [S ([] : List UInt8), eH]]⟩;refine za rfl <| ag <| af <| af <| aa ?_;show AR _ _ _ _ _ [0, 1] _;refine zm rfl <| zS rfl (bB rfl) <| ag <| ax rfl (fun c14 => ?_) (fun c14 => ?_)
  ·replace H := aX c14 H;refine af <| aa ?_;show AR _ _ _ _ _ [0, 1, 2] _;refine zS rfl (cK (zs := [.string ⟨#[]⟩, .slice none 0 0]) (ps := [(0, 1), (1, 1)]) (cs := [S ([] : List UInt8), eH]) (by kernel_rfl) rfl rfl) <| s0 rfl rfl (aV (i := 0) (vs := [S ([] : List UInt8), eH]) (by kernel_rfl) rfl rfl (by simp [bz, slE]) rfl (ac rfl)) <| za rfl <| ag <| aG ?_;obtain ⟨rfl, rfl, rfl⟩ := res3 H;exact Exists.intro _ (And.intro (.nil _) (Exists.intro _ (Exists.intro _ ⟨dk (bD rfl (CellV.aggW (cs := [S ([] : List UInt8), eH]) (CellV.agg (off := 0) (cs := [S ([] : List UInt8), eH]) (n := 2) 0 ce rfl (by kernel_rfl) rfl rfl (ac rfl)) (.cons (.refl _) (.cons (.nil _) (.nil)))) ((show PlaceV _ _ _ (.tmp _) _ from (.refl _)))), aB [] rfl, rfl, rfl⟩)))
  ·replace H := aY c14 H;refine aC <| af ?_;obtain ⟨x15, x16, e17, H⟩ := cF H;refine aa ?_;show AR _ _ _ _ _ [0, 1, 2, 3, 4, 5, 6, 7] _;refine zS rfl (aL Tryz.underlying67 rfl rfl) <| zS rfl (ah (av := slE _ _ _) rfl) <| am rfl rfl (AO.invp (t1 := 83) (t2 := 84) (c := x10) rfl rfl (fun v w => by kernel_rfl) (fun v w => by kernel_rfl) zB zx rfl (K2.of e17 (fun e => ye F a1 q2 x15 x16 e) (fun e => wN F a1 q2 x15 x16 e)) ?_);refine zS rfl (ah (av := .tup _) rfl) <| zS rfl (az (av := slE _ _ _) rfl rfl) <| zS rfl (az (av := .v _) rfl rfl) <| zS rfl (aH (av := slE _ _ _) rfl) <| za rfl <| ag <| af <| af <| aa ?_;show AR _ _ _ _ _ [0, 1] _;refine zm rfl <| zS rfl (bB rfl) <| ag <| ax rfl (fun c18 => ?_) (fun c18 => ?_)
   ·replace H := aX c18 H;refine af <| aa ?_;show AR _ _ _ _ _ [0, 1, 2] _;refine zS rfl (cK (zs := [.string ⟨#[]⟩, .slice none 0 0]) (ps := [(0, 1), (1, 1)]) (cs := [S ([] : List UInt8), eH]) (by kernel_rfl) rfl rfl) <| s0 rfl rfl (aV (i := 0) (vs := [S ([] : List UInt8), eH]) (by kernel_rfl) rfl rfl (by simp [bz, slE]) rfl (ac rfl)) <| za rfl <| ag <| aG ?_;obtain ⟨rfl, rfl, rfl⟩ := res3 H;exact Exists.intro _ (And.intro (.nil _) (Exists.intro _ (Exists.intro _ ⟨dk (bD rfl (CellV.aggW (cs := [S ([] : List UInt8), eH]) (CellV.agg (off := 0) (cs := [S ([] : List UInt8), eH]) (n := 2) 0 ce rfl (by kernel_rfl) rfl rfl (ac rfl)) (.cons (.refl _) (.cons (.nil _) (.nil)))) ((show PlaceV _ _ _ (.tmp _) _ from (.refl _)))), aB [] rfl, rfl, rfl⟩)))
   ·replace H := aY c18 H;refine aC <| af ?_;obtain ⟨x19, e20, H⟩ := bU H;refine aa ?_;show AR _ _ _ _ _ [0, 1, 2, 3, 4, 5] _;refine zS rfl (ah (av := slE _ _ _) rfl) <| zR rfl (cR (E := Enc.str) (bytes := 16) (xs := [.const _]) (l := ([([116, 105, 116, 108, 101] : List UInt8)] : List (List UInt8))) au (by kernel_rfl) rfl rfl (by decide) rfl rfl) <| am rfl rfl (aA rfl js rfl (dX F x15 none ([([116, 105, 116, 108, 101] : List UInt8)] : List (List UInt8)) x19 e20) ?_);refine zS rfl (cK (zs := [.string ⟨#[]⟩, .slice none 0 0]) (ps := [(0, 1), (1, 1)]) (cs := [S x19, eH]) (by kernel_rfl) rfl rfl) <| zX rfl (bg (zs := [.string ⟨#[]⟩, .slice none 0 0]) (by kernel_rfl)) ?_;rintro _ _ ⟨o21, rfl, rfl⟩;refine s0 rfl rfl (aV (i := 0) (vs := [S x19, eH]) (by kernel_rfl) rfl rfl (by simp [bz, slE]) rfl (ac rfl)) <| ag ?_
    refine jo 0 1 5 32 rfl rfl fun t22 => ?_
    show AW _ _ _ _ _ ⟨_, _, [.tok t22 32, .obj o21 [S x19, slE (ab Enc.str (ab Enc.str (ab Enc.str (ab Enc.str Enc.int)))) [] (some t22)], .obj o6 [S ([] : List UInt8), eH]]⟩;refine bM (X := Nat × (List ((List UInt8) × (List UInt8) × (List UInt8) × (List UInt8) × Int)) × Nat) (fun (t56, y57, t58) => ⟨[(2, .pt o6 0), (7, .pt o21 0)], [.mark t56], [.obj o21 [S x19, slE (ab Enc.str (ab Enc.str (ab Enc.str (ab Enc.str Enc.int)))) y57 (some t58)], .obj o6 [S ([] : List UInt8), eH], .tok t58 32, .db t56]⟩) (fun (t56, y57, t58) => di x19 y57 = some (r3, r4, r5)) ?_ ?_
    ·refine af ?_;obtain ⟨_, e23, H⟩ := bU H;refine aa ?_;show AR _ _ _ _ _ [0, 1] _;refine zS rfl (ah (av := slE _ _ _) rfl) <| am rfl rfl (aQ [] rfl en26_fdb rfl (jN F x15 e23) rfl (fun c A' h => by obtain ⟨_, h, _⟩ := h; cases h) ?_)
     rintro av A' ⟨o24, h, rfl⟩; cases h
     refine ag <| aU ?_;obtain ⟨x51, e52, H⟩ := bU H;refine AW.rangeK (α := List (Int × (List UInt8) × (List UInt8) × List ((List UInt8) × List UInt8))) (σ := (List ((List UInt8) × (List UInt8) × (List UInt8) × (List UInt8) × Int)) × Nat) (τ := Nat) (fun x => [slE (ab Enc.int (ab Enc.str (ab Enc.str (Enc.sl (ab Enc.str Enc.str))))) x none]) (fun s t => [.obj o21 [S x19, slE (ab Enc.str (ab Enc.str (ab Enc.str (ab Enc.str Enc.int)))) s.1 (some t)], .obj o6 [S ([] : List UInt8), eH], .tok t 32]) (fun s => jat [.exit 0] s.2) (fun s x => dh F x10 s.1 s.2 x) ([], 0) t22 x51 [0] [1, 1, 0] rfl en41_fdb (fun _ => rfl) (by decide) rfl rfl rfl (fun o T' hY => kK F T' _ o hY _ _ o24 x15 x51 e52) ?_ ?_
     ·rintro l ⟨y25, z27⟩ t26 x29 rv H;replace H : dh F x10 y25 z27 x29 = some rv := H
      unfold dh at H
      obtain ⟨g50, H⟩ := aM H;obtain rfl := of_decide_eq_true g50;refine ⟨rfl, ?_⟩;show AW _ _ _ _ _ ⟨(37, slE (ab Enc.int (ab Enc.str (ab Enc.str (Enc.sl (ab Enc.str Enc.str))))) x29 none) :: _, [], _⟩;refine aa ?_;show AR _ _ _ _ _ [0] _;refine zS rfl (aH (av := slE _ _ _) rfl) <| ag <| aU <| af <| af ?_;obtain ⟨x30, e31, H⟩ := bU H;obtain ⟨x32, e33, H⟩ := bU H;refine qW (by kernel_rfl) (by kernel_rfl) ?_;show AI _ _ _ _ _ 5 (Array.replicate 5 false) _;refine zk 0 rfl (ah (av := slE _ _ _) rfl) ?_;show AI _ _ _ _ _ _ #[true, false, false, false, false] _;refine zk 2 rfl (aL Tryz.underlying67 rfl rfl) ?_;show AI _ _ _ _ _ _ #[true, false, true, false, false] _;refine cm (i := 1) (by kernel_rfl) rfl rfl <| AIO.callp rfl en27_fdb rfl (gL F x29 none x30 e31) ?_;show AI _ _ _ _ _ _ #[true, true, true, false, false] _;refine cm (i := 3) (by kernel_rfl) rfl rfl <| AIO.invp (t1 := 83) (t2 := 84) (c := x10) rfl rfl (fun v w => by kernel_rfl) (fun v w => by kernel_rfl) zC zy rfl (K2.of e33 (fun e => wJ F x32 e) (fun e => vr F x32 e)) ?_;show AI _ _ _ _ _ _ #[true, true, true, true, false] _;refine zk 4 rfl (nb rfl rfl) ?_;show AI _ _ _ _ _ _ #[true, true, true, true, true] _;refine cV rfl <| ax rfl (fun c34 => ?_) (fun c34 => ?_)
      ·replace H := aX c34 H;refine cB ?_;obtain rfl := ak H;exact ⟨rfl, rfl, t26, aB [0, 0, 0] rfl⟩
      ·replace H := aY c34 H;refine aC <| af <| af <| aa ?_;show AR _ _ _ _ _ [0, 1, 2, 3] _;refine zS rfl (an (n := 1) (by kernel_rfl) rfl) <| zR rfl (ao (i := 0) bt rfl rfl rfl rfl) <| zS rfl (bE bt rfl) <| zS rfl (bJ rfl rfl) <| ag <| ax rfl (fun c35 => ?_) (fun c35 => ?_)
       ·replace H := aX c35 H;refine cB ?_;obtain rfl := ak H;exact ⟨rfl, rfl, t26, aB [0, 0, 0] rfl⟩
       ·replace H := aY c35 H;refine aC <| af ?_;obtain ⟨x36, x37, x38, x39, x40, e41, H⟩ := bnd5_s H;refine aa ?_;show AR _ _ _ _ _ [0, 1, 2, 3, 4] _;refine zS rfl (aL Tryz.underlying67 rfl rfl) <| zS rfl (ah (av := slE _ _ _) rfl) <| am rfl rfl (AO.invp (t1 := 83) (t2 := 84) (c := x10) rfl rfl (fun v w => by kernel_rfl) (fun v w => by kernel_rfl) zD zz rfl (K2.of e41 (fun e => vl F x29 none x36 x37 x38 x39 x40 e) (fun e => ux F x29 none x36 x37 x38 x39 x40 e)) ?_);refine zX rfl (bg (zs := [.string ⟨#[]⟩, .string ⟨#[]⟩, .string ⟨#[]⟩, .string ⟨#[]⟩, .int .i64 0]) (by kernel_rfl)) ?_;rintro _ _ ⟨o42, rfl, rfl⟩;refine s0 rfl rfl (aV (i := 0) (vs := [S x36, S x37, S x38, S x39, i64 x40]) (by kernel_rfl) rfl rfl (by simp [bz, slE]) rfl (ac rfl)) <| ag <| af ?_;obtain ⟨g43, H⟩ := aM H;obtain ⟨x44, e45, H⟩ := bL H;refine aa ?_;show AR _ _ _ _ _ [0, 1, 2, 3, 4, 5, 6, 7, 8] _;refine zS rfl (an (n := 3) (by kernel_rfl) rfl) <| zR rfl (ao (i := 0) ai rfl rfl rfl rfl) <| zS rfl (an (n := 3) (by kernel_rfl) rfl) <| zR rfl (ao (i := 0) ai rfl rfl rfl rfl) <| zS rfl (bu ai rfl) <| zS rfl (opS_min rfl rfl) <| zS rfl (ls ai rfl rfl g43 e45) <| zS rfl (an (n := 3) (by kernel_rfl) rfl) <| s0 rfl rfl (aq (i := 0) (c := .v _) (by kernel_rfl) rfl rfl rfl rfl (ac rfl)) <| ag ?_;obtain ⟨g47, H⟩ := aM H
        obtain ⟨x48, e49, H⟩ := bL H;refine aa ?_;show AR _ _ _ _ _ [0, 1, 2, 3, 4, 5, 6] _;refine zS rfl (an (n := 1) (by kernel_rfl) rfl) <| zR rfl (ao (i := 1) bt rfl rfl rfl rfl) <| zR rfl (dZ (i := 0) (n := 5) dM rfl (by kernel_rfl) rfl rfl (ac rfl)) <| zR rfl (dA (E := (ab Enc.str (ab Enc.str (ab Enc.str (ab Enc.str Enc.int))))) (bytes := 72) (zs := [.string ⟨#[]⟩, .string ⟨#[]⟩, .string ⟨#[]⟩, .string ⟨#[]⟩, .int .i64 0]) (l := ([(x36, x37, x38, x44, x40)] : List ((List UInt8) × (List UInt8) × (List UInt8) × (List UInt8) × Int))) bt (by kernel_rfl) (by kernel_rfl) rfl rfl rfl rfl rfl) <| zX rfl (kr (E := (ab Enc.str (ab Enc.str (ab Enc.str (ab Enc.str Enc.int))))) (bytes := 72) 3 bt bt rfl (by kernel_rfl) rfl rfl rfl rfl g47 e49) ?_;rintro _ _ ⟨t46, rfl, rfl⟩;refine zS rfl (an (n := 1) (by kernel_rfl) rfl) <| s0 rfl rfl (aq (i := 1) (c := slE _ _ _) (by kernel_rfl) rfl rfl rfl rfl (ac rfl)) <| ag ?_;obtain rfl := ak H;exact ⟨rfl, rfl, t46, aB [1, 1, 1] rfl⟩
     rintro o54 t53
     generalize hzz55 : x51.2 = z55 at H ⊢
     rcases bifz H with ⟨rfl, H⟩ | ⟨hz0, H⟩
     ·exact Exists.intro (o54, x51.1, t53) ⟨H, be [2, 2, 2, 0] (.cons (.refl _) (.cons (.refl _) (.nil _))) rfl⟩
     rcases bifz H with ⟨rfl, H⟩ | ⟨hz1, H⟩
     ·refine cB ?_;exact Exists.intro (o54, x51.1, t53) ⟨H, be [2, 2, 2, 0] (.cons (.refl _) (.cons (.refl _) (.nil _))) rfl⟩
     exact vc H
    rintro ⟨t56, y57, t58⟩ H;replace H : di x19 y57 = some (r3, r4, r5) := H
    unfold di at H
    refine af <| aa ?_;show AR _ _ _ _ _ [0, 1, 2] _;refine zR rfl (dZ (i := 0) (n := 2) ce rfl (by kernel_rfl) rfl rfl (ac rfl)) <| s0 rfl rfl (aV (i := 1) (vs := [S x19, slE (ab Enc.str (ab Enc.str (ab Enc.str (ab Enc.str Enc.int)))) y57 (some t58)]) (by kernel_rfl) rfl rfl (by simp [bz, slE]) rfl (ac rfl)) <| za rfl <| ag <| aG ?_;obtain ⟨rfl, rfl, rfl⟩ := res3 H;exact Exists.intro _ (And.intro (Unmark.at 3 rfl (.nil _)) (Exists.intro _ (Exists.intro _ ⟨dk (bD rfl (CellV.aggW (cs := [S x19, slE (ab Enc.str (ab Enc.str (ab Enc.str (ab Enc.str Enc.int)))) y57 (some t58)]) (CellV.agg (off := 0) (cs := [S x19, slE (ab Enc.str (ab Enc.str (ab Enc.str (ab Enc.str Enc.int)))) y57 (some t58)]) (n := 2) 1 ce rfl (by kernel_rfl) rfl rfl (ac rfl)) (.cons (.refl _) (.cons (.tok _ _ _) (.nil)))) ((show PlaceV _ _ _ (.tmp _) _ from (.refl _)))), aB [] rfl, rfl, rfl⟩)))
set_option maxRecDepth 100000 in
set_option maxHeartbeats 1000000 in
theorem nx (F : Nat) (a1 : List UInt8) (q2 : Option Nat) (r3 : List UInt8) (r4 : List ((List UInt8) × (List UInt8) × (List UInt8) × (List UInt8) × Int)) (r5 : Int) (H : dT F a1 = some (r3, r4, r5)) : ACalls Tryz.prog 9 [slE Enc.byte a1 q2] [] (Ret (.tup [.agg [S r3, slE (ab Enc.str (ab Enc.str (ab Enc.str (ab Enc.str Enc.int)))) r4 none], i64 r5]) []) := by
 unfold dT at H
 refine ap Tryz.func9 rfl rfl ?_;show AW _ _ 19 _ _ _;refine af <| aa ?_;show AR _ _ _ _ _ [0, 1] _;refine zX rfl (bg (zs := [.string ⟨#[]⟩, .slice none 0 0]) (by kernel_rfl)) ?_;rintro _ _ ⟨o6, rfl, rfl⟩;refine za rfl <| ag <| af ?_;obtain ⟨x7, x8, e9, H⟩ := cF H;refine aa ?_;show AR _ _ _ _ _ [0, 1, 2, 3, 4, 5, 6] _;refine zS rfl (ah (av := slE _ _ _) rfl) <| am rfl rfl (aA rfl en14_fdb rfl (vj F a1 q2 x7 x8 e9) ?_);refine zS rfl (ah (av := .tup _) rfl) <| zS rfl (az (av := slE _ _ _) rfl rfl) <| zS rfl (az (av := .v _) rfl rfl) <| zS rfl (aH (av := slE _ _ _) rfl) <| za rfl <| ag <| af <| af <| aa ?_;show AR _ _ _ _ _ [0, 1] _;refine zm rfl <| zS rfl (lZ rfl rfl) <| ag <| ax rfl (fun c10 => ?_) (fun c10 => ?_)
 ·replace H := aX c10 H;refine af <| aa ?_;show AR _ _ _ _ _ [0, 1, 2, 3] _;refine zS rfl (cK (zs := [.string ⟨#[]⟩, .slice none 0 0]) (ps := [(0, 1), (1, 1)]) (cs := [S ([] : List UInt8), eH]) (by kernel_rfl) rfl rfl) <| zm rfl <| s0 rfl rfl (aV (i := 0) (vs := [S ([] : List UInt8), eH]) (by kernel_rfl) rfl rfl (by simp [bz, slE]) rfl (ac rfl)) <| za rfl <| ag <| aG ?_;obtain ⟨rfl, rfl, rfl⟩ := res3 H;exact And.intro rfl (Exists.intro _ (Exists.intro _ ⟨dk (bD rfl (CellV.aggW (cs := [S ([] : List UInt8), eH]) (CellV.agg (off := 0) (cs := [S ([] : List UInt8), eH]) (n := 2) 0 ce rfl (by kernel_rfl) rfl rfl (ac rfl)) (.cons (.refl _) (.cons (.nil _) (.nil)))) ((show PlaceV _ _ _ (.tmp _) _ from (.refl _)))), aB [] rfl, rfl, rfl⟩))
 ·replace H := aY c10 H;refine aC <| af ?_;obtain ⟨x11, x12, x13, e14, H⟩ := vf H;refine aa ?_;show AR _ _ _ _ _ [0, 1, 2, 3, 4, 5] _;refine zS rfl (ah (av := slE _ _ _) rfl) <| am rfl rfl (aA rfl en15_fdb rfl (rr F x7 none x11 x12 x13 e14) ?_);refine zS rfl (az (av := .agg _) rfl rfl) <| zS rfl (az (av := .v _) rfl rfl) <| s0 rfl rfl (aV (i := 0) (vs := [S x11, slE (ab Enc.str (ab Enc.str (ab Enc.str (ab Enc.str Enc.int)))) x12 none]) (by kernel_rfl) rfl rfl (by simp [bz, slE]) rfl (ac rfl)) <| za rfl <| ag <| aG ?_;obtain ⟨rfl, rfl, rfl⟩ := res3 H;exact And.intro rfl (Exists.intro _ (Exists.intro _ ⟨dk (bD rfl (CellV.agg (off := 0) (cs := [S x11, slE (ab Enc.str (ab Enc.str (ab Enc.str (ab Enc.str Enc.int)))) x12 none]) (n := 2) 0 ce rfl (by kernel_rfl) rfl rfl (ac rfl)) ((show PlaceV _ _ _ (.tmp _) _ from (.refl _)))), aB [] rfl, rfl, rfl⟩))
end Go.Proofs.YtkbfjepffpddfaaGreatDoor
namespace Go.Pv
def jP : Option Bool :=
some true
def hP (a2 : List ((List UInt8) × (List UInt8) × (List UInt8) × (List UInt8) × Int)) (a4 : List ((List UInt8) × (List UInt8) × (List UInt8) × (List UInt8) × Int)) (rec9 : Int → Option Bool) (y8 : Int) : Option Bool :=
bif decide (y8 < (a2.length : Int)) then
  grd (du y8 a2.length) <|
  lt (at_ a2 y8) fun x13 =>
  grd (du y8 a4.length) <|
  lt (at_ a4 y8) fun x16 =>
  bif !((decide (x13.1 = x16.1)) && ((decide (x13.2.1 = x16.2.1)) && ((decide (x13.2.2.1 = x16.2.2.1)) && ((decide (x13.2.2.2.1 = x16.2.2.2.1)) && (x13.2.2.2.2 == x16.2.2.2.2))))) then
    some false
  else
    grd (okI (y8 + 1)) <|
    rec9 (y8 + 1)
else
  jP
def hO (a2 : List ((List UInt8) × (List UInt8) × (List UInt8) × (List UInt8) × Int)) (a4 : List ((List UInt8) × (List UInt8) × (List UInt8) × (List UInt8) × Int)) (n : Nat) : Int → Option Bool :=
  loop (fun rec x => hP a2 a4 rec x) n
def fc (F : Nat) (a1 : List UInt8) (a2 : List ((List UInt8) × (List UInt8) × (List UInt8) × (List UInt8) × Int)) (a3 : List UInt8) (a4 : List ((List UInt8) × (List UInt8) × (List UInt8) × (List UInt8) × Int)) : Option Bool :=
bif (!decide (a1 = a3)) || (!decide ((a2.length : Int) = (a4.length : Int))) then
  some false
else
  hO a2 a4 F 0
def ka (F : Nat) : Option Bool :=
bnd3 (dT F ([60, 114, 115, 115, 62, 60, 99, 104, 97, 110, 110, 101, 108, 62, 60, 116] ++ [105, 116, 108, 101, 62, 84, 60, 47, 116, 105, 116, 108, 101, 62, 60, 105] ++ [116, 101, 109, 62, 60, 103, 117, 105, 100, 62, 49, 60, 47, 103, 117, 105] ++ [100, 62, 60, 47, 105, 116, 101, 109, 62, 60, 47, 99, 104, 97, 110, 110] ++ [101, 108, 62, 60, 47, 114, 115, 115, 62] : List UInt8)) fun x3 x4 x5 =>
bnd (fc F x3 x4 ([84] : List UInt8) ([(([49] : List UInt8), ([] : List UInt8), ([] : List UInt8), ([] : List UInt8), 0)] : List ((List UInt8) × (List UInt8) × (List UInt8) × (List UInt8) × Int))) fun x8 =>
lz ((decide (x5 = 0)) && x8) (fS F ([(2, ([] : List UInt8), ([32, 97, 32] : List UInt8), ([] : List ((List UInt8) × List UInt8)))] : List (Int × (List UInt8) × (List UInt8) × List ((List UInt8) × List UInt8)))) fun x12 =>
some (((decide (x5 = 0)) && x8) && (decide (x12 = ([97] : List UInt8))))
def jQ (a1 : List UInt8) : Option Bool :=
some (decide ((a1.length : Int) ≤ 40))
def hZ (a1 : List UInt8) (rec4 : Int → Option Bool) (y3 : Int) : Option Bool :=
bif decide (y3 < (a1.length : Int)) then
  grd (du y3 a1.length) <|
  lt (at_ a1 y3) fun x8 =>
  fq (!(decide ((x8.toNat : Int) < 97))) (du y3 a1.length) <|
  lt (at_ a1 y3) fun x12 =>
  bif (decide ((x8.toNat : Int) < 97)) || (decide (122 < (x12.toNat : Int))) then
    some false
  else
    grd (okI (y3 + 1)) <|
    rec4 (y3 + 1)
else
  jQ a1
def hU (a1 : List UInt8) (n : Nat) : Int → Option Bool :=
  loop (fun rec x => hZ a1 rec x) n
def iC (F : Nat) (a1 : List UInt8) : Option Bool :=
hU a1 F 0
end Go.Pv
namespace Go.Proofs.YtkbfjepffpddfaaGreatDoor
open Go.RowKit Go.Av Go.Pv
theorem en9_fdl : ∀ (args : Array Value) (w : World), (callFunc 9 args).run Tryz.prog w = .ok (.enter 9 args) w := fun _ _ => by kernel_rfl
theorem en10_fdl : ∀ (args : Array Value) (w : World), (callFunc 10 args).run Tryz.prog w = .ok (.enter 10 args) w := fun _ _ => by kernel_rfl
theorem en13_fdl : ∀ (args : Array Value) (w : World), (callFunc 13 args).run Tryz.prog w = .ok (.enter 13 args) w := fun _ _ => by kernel_rfl
set_option maxRecDepth 100000 in
set_option maxHeartbeats 1000000 in
theorem mE (F : Nat) (a1 : List UInt8) (a2 : List ((List UInt8) × (List UInt8) × (List UInt8) × (List UInt8) × Int)) (a3 : List UInt8) (a4 : List ((List UInt8) × (List UInt8) × (List UInt8) × (List UInt8) × Int)) (r5 : Bool) (H : fc F a1 a2 a3 a4 = some r5) : ACalls Tryz.prog 10 [.agg [S a1, slE (ab Enc.str (ab Enc.str (ab Enc.str (ab Enc.str Enc.int)))) a2 none], .agg [S a3, slE (ab Enc.str (ab Enc.str (ab Enc.str (ab Enc.str Enc.int)))) a4 none]] [] (Ret (B r5) []) := by
 unfold fc at H
 refine ap Tryz.func10 rfl rfl ?_;show AW _ _ 38 _ _ _;refine af <| aa ?_;show AR _ _ _ _ _ [0, 1, 2] _;refine zR rfl (dS rfl (.inr ⟨_, rfl⟩)) <| zR rfl (dS rfl (.inr ⟨_, rfl⟩)) <| za rfl <| ag <| af <| af <| aa ?_;show AR _ _ _ _ _ [0, 1, 2, 3, 4, 5, 6, 7, 8, 9, 10, 11, 12, 13] _;refine zS rfl (aP (n := 0) (by kernel_rfl) rfl (ac rfl)) <| zS rfl (aL ai rfl rfl) <| zS rfl (aP (n := 0) (by kernel_rfl) rfl (ac rfl)) <| zS rfl (aL ai rfl rfl) <| zS rfl (nb rfl rfl) <| zm rfl <| aW (l := []) 19 (B ((!decide (a1 = a3)) || (!decide ((a2.length : Int) = (a4.length : Int))))) (fun K => ?_) ?_
 ·rcases aj (!decide (a1 = a3)) with h6 | h6
  ·refine zF h6 rfl <| zF h6 rfl <| zF h6 rfl <| zF h6 rfl <| zF h6 rfl <| zF h6 rfl <| zF h6 rfl <| zS rfl (aD (av := .v _) rfl h6 rfl) ?_;exact K _ 7 _ (ay (jW h6)) rfl rfl
  ·refine zU h6 rfl (aP (n := 1) (by kernel_rfl) rfl (ac rfl)) <| zU h6 rfl (aL bt rfl rfl) <| zU h6 rfl (bE bt rfl) <| zU h6 rfl (aP (n := 1) (by kernel_rfl) rfl (ac rfl)) <| zU h6 rfl (aL bt rfl rfl) <| zU h6 rfl (bE bt rfl) <| zU h6 rfl (lZ rfl rfl) <| zS rfl (aE (av := .v _) rfl h6 rfl) ?_;exact K _ 7 _ (ay (jX h6)) rfl rfl
 refine ag <| ax rfl (fun c7 => ?_) (fun c7 => ?_)
 ·replace H := aX c7 H;refine af <| aa ?_;show AR _ _ _ _ _ [0] _;refine za rfl <| ag <| aG ?_;obtain rfl := ak H;exact And.intro rfl (Exists.intro _ (Exists.intro _ ⟨aF rfl (.refl _), aB [] rfl, rfl, rfl⟩))
 ·replace H := aY c7 H;refine aC <| bM (X := Unit) (fun _ => ⟨[], [], []⟩) (fun _ => jP = some r5) ?_ ?_
  ·refine af <| aa ?_;show AR _ _ _ _ _ [0] _;refine za rfl <| ag <| aU <| dp (X := Nat × Int) (fun (n10, y8) => ⟨[(2, .cp [S a1, slE (ab Enc.str (ab Enc.str (ab Enc.str (ab Enc.str Enc.int)))) a2 none]), (3, .cp [S a3, slE (ab Enc.str (ab Enc.str (ab Enc.str (ab Enc.str Enc.int)))) a4 none]), (5, i64 y8)], [], []⟩) (fun (n10, y8) => hO a2 a4 n10 y8 = some r5) (fun (n10, y8) => n10) (F, 0) H (be [] (.cons (.refl _) (.cons (.refl _) (.cons (.refl _) (.nil _)))) rfl) ?_;rintro ⟨n10, y8⟩ H;obtain ⟨n10, rfl, H⟩ := fA H;replace H : hP a2 a4 (hO a2 a4 n10) y8 = some r5 := H
   unfold hP at H
   refine af <| af <| aa ?_;show AR _ _ _ _ _ [0, 1, 2, 3, 4] _;refine zm rfl <| zS rfl (aP (n := 1) (by kernel_rfl) rfl (ac rfl)) <| zS rfl (aL bt rfl rfl) <| zS rfl (bE bt rfl) <| zS rfl (cf rfl rfl) <| ag <| ax rfl (fun c11 => ?_) (fun c11 => ?_)
   ·replace H := aX c11 H;refine aC <| af <| aU <| af ?_;obtain ⟨g12, H⟩ := aM H;obtain ⟨x13, e14, H⟩ := bL H;obtain ⟨g15, H⟩ := aM H;obtain ⟨x16, e17, H⟩ := bL H;refine cx (by kernel_rfl) ?_;show AI _ _ _ _ _ 11 (Array.replicate 11 false) _;refine zk 0 rfl (aP (n := 1) (by kernel_rfl) rfl (ac rfl)) ?_;show AI _ _ _ _ _ _ #[true, false, false, false, false, false, false, false, false, false, false] _;refine zk 1 rfl (aL bt rfl rfl) ?_;show AI _ _ _ _ _ _ #[true, true, false, false, false, false, false, false, false, false, false] _;refine zk 2 rfl (mv rfl) ?_;show AI _ _ _ _ _ _ #[true, true, true, false, false, false, false, false, false, false, false] _;refine zk 3 rfl (dH (E := (ab Enc.str (ab Enc.str (ab Enc.str (ab Enc.str Enc.int))))) bt (by kernel_rfl) rfl rfl g12 e14) ?_;show AI _ _ _ _ _ _ #[true, true, true, true, false, false, false, false, false, false, false] _;refine zk 4 rfl (ca dM rfl (n := 5) (by kernel_rfl) rfl (ac rfl)) ?_;show AI _ _ _ _ _ _ #[true, true, true, true, true, false, false, false, false, false, false] _;refine zk 5 rfl (aP (n := 1) (by kernel_rfl) rfl (ac rfl)) ?_;show AI _ _ _ _ _ _ #[true, true, true, true, true, true, false, false, false, false, false] _;refine zk 6 rfl (aL bt rfl rfl) ?_;show AI _ _ _ _ _ _ #[true, true, true, true, true, true, true, false, false, false, false] _
    refine zk 7 rfl (mv rfl) ?_;show AI _ _ _ _ _ _ #[true, true, true, true, true, true, true, true, false, false, false] _;refine zk 8 rfl (dH (E := (ab Enc.str (ab Enc.str (ab Enc.str (ab Enc.str Enc.int))))) bt (by kernel_rfl) rfl rfl g15 e17) ?_;show AI _ _ _ _ _ _ #[true, true, true, true, true, true, true, true, true, false, false] _;refine zk 9 rfl (ca dM rfl (n := 5) (by kernel_rfl) rfl (ac rfl)) ?_;show AI _ _ _ _ _ _ #[true, true, true, true, true, true, true, true, true, true, false] _;refine zk 10 rfl (sG (r := (decide (x13.1 = x16.1)) && ((decide (x13.2.1 = x16.2.1)) && ((decide (x13.2.2.1 = x16.2.2.1)) && ((decide (x13.2.2.2.1 = x16.2.2.2.1)) && (x13.2.2.2.2 == x16.2.2.2.2))))) (.inr rfl) dM (by kernel_rfl) (by kernel_rfl) (by kernel_rfl) rfl rfl rfl (by simp only [List.all_cons, List.all_nil, id, str_beq, Bool.and_true])) ?_;show AI _ _ _ _ _ _ #[true, true, true, true, true, true, true, true, true, true, true] _;refine cV rfl <| ax rfl (fun c18 => ?_) (fun c18 => ?_)
    ·replace H := aX c18 H;refine af <| aa ?_;show AR _ _ _ _ _ [0] _;refine za rfl <| ag <| aG ?_;obtain rfl := ak H;exact And.intro rfl (Exists.intro _ (Exists.intro _ ⟨aF rfl (.refl _), aB [] rfl, rfl, rfl⟩))
    ·replace H := aY c18 H;refine aC ?_;obtain ⟨g19, H⟩ := aM H;refine aa ?_;show AR _ _ _ _ _ [0, 1, 2] _;refine zm rfl <| zS rfl (dl rfl rfl g19) <| za rfl <| ag ?_;exact Exists.intro (n10, y8 + 1) ⟨H, Nat.lt_succ_self _, be [] (.cons (.refl _) (.cons (.refl _) (.cons (.refl _) (.nil _)))) rfl⟩
   ·replace H := aY c11 H;refine cB ?_;exact Exists.intro () ⟨H, be [] (.nil _) rfl⟩
  rintro _ H;replace H : jP = some r5 := H
  unfold jP at H
  refine af <| aa ?_;show AR _ _ _ _ _ [0] _;refine za rfl <| ag <| aG ?_;obtain rfl := ak H;exact And.intro rfl (Exists.intro _ (Exists.intro _ ⟨aF rfl (.refl _), aB [] rfl, rfl, rfl⟩))
set_option maxRecDepth 100000 in
set_option maxHeartbeats 1000000 in
theorem su (F : Nat) (r1 : Bool) (H : ka F = some r1) : ACalls Tryz.prog 7 [] [] (Ret (B r1) []) := by
 unfold ka at H
 refine ap Tryz.func7 rfl rfl ?_;show AW _ _ 26 _ _ _;refine af <| aa ?_;show AR _ _ _ _ _ [0] _;refine za rfl <| ag <| af ?_;obtain ⟨x3, x4, x5, e6, H⟩ := vf H;refine aa ?_;show AR _ _ _ _ _ [0, 1, 2, 3, 4, 5, 6, 7, 8] _;refine zX rfl (wU (E := Enc.byte) (bytes := 1) (xs := [.const _, .const _, .const _, .const _, .const _, .const _, .const _, .const _, .const _, .const _, .const _, .const _, .const _, .const _, .const _, .const _] ++ [.const _, .const _, .const _, .const _, .const _, .const _, .const _, .const _, .const _, .const _, .const _, .const _, .const _, .const _, .const _, .const _] ++ [.const _, .const _, .const _, .const _, .const _, .const _, .const _, .const _, .const _, .const _, .const _, .const _, .const _, .const _, .const _, .const _] ++ [.const _, .const _, .const _, .const _, .const _, .const _, .const _, .const _, .const _, .const _, .const _, .const _, .const _, .const _, .const _, .const _] ++ [.const _, .const _, .const _, .const _, .const _, .const _, .const _, .const _, .const _]) (l := ([60, 114, 115, 115, 62, 60, 99, 104, 97, 110, 110, 101, 108, 62, 60, 116] ++ [105, 116, 108, 101, 62, 84, 60, 47, 116, 105, 116, 108, 101, 62, 60, 105] ++ [116, 101, 109, 62, 60, 103, 117, 105, 100, 62, 49, 60, 47, 103, 117, 105] ++ [100, 62, 60, 47, 105, 116, 101, 109, 62, 60, 47, 99, 104, 97, 110, 110] ++ [101, 108, 62, 60, 47, 114, 115, 115, 62] : List UInt8)) al (by kernel_rfl) rfl rfl (by decide) rfl rfl) ?_;rintro _ _ ⟨t2, rfl, rfl⟩
 refine zR rfl (sJ 0 al cH rfl (by simp) rfl) <| am rfl rfl (aA rfl en9_fdl rfl (nx F ([60, 114, 115, 115, 62, 60, 99, 104, 97, 110, 110, 101, 108, 62, 60, 116] ++ [105, 116, 108, 101, 62, 84, 60, 47, 116, 105, 116, 108, 101, 62, 60, 105] ++ [116, 101, 109, 62, 60, 103, 117, 105, 100, 62, 49, 60, 47, 103, 117, 105] ++ [100, 62, 60, 47, 105, 116, 101, 109, 62, 60, 47, 99, 104, 97, 110, 110] ++ [101, 108, 62, 60, 47, 114, 115, 115, 62] : List UInt8) (some t2) x3 x4 x5 e6) ?_);refine zS rfl (ah (av := .tup _) rfl) <| zS rfl (az (av := .agg _) rfl rfl) <| zS rfl (az (av := .v _) rfl rfl) <| zX rfl (bg (zs := [.string ⟨#[]⟩, .slice none 0 0]) (by kernel_rfl)) ?_;rintro _ _ ⟨o7, rfl, rfl⟩;refine s0 rfl rfl (aV (i := 0) (vs := [S x3, slE (ab Enc.str (ab Enc.str (ab Enc.str (ab Enc.str Enc.int)))) x4 none]) (by kernel_rfl) rfl rfl (by simp [bz, slE]) rfl (ac rfl)) <| eT 1 0 rfl rfl ?_;show AR _ _ _ _ _ _ ⟨_, _, [.tok t2 5]⟩;refine za rfl <| ag <| af ?_;obtain ⟨x8, e9, H⟩ := bU H;refine aa ?_;show AR _ _ _ _ _ [0, 1, 2, 3, 4, 5] _
 refine zS rfl (ca ce rfl (n := 2) (by kernel_rfl) rfl (ac rfl)) <| zS rfl (cK (zs := [.string ⟨#[]⟩, .string ⟨#[]⟩, .string ⟨#[]⟩, .string ⟨#[]⟩, .int .i64 0]) (ps := [(0, 1), (1, 1), (2, 1), (3, 1), (4, 1)]) (cs := [S ([49] : List UInt8), S ([] : List UInt8), S ([] : List UInt8), S ([] : List UInt8), i64 0]) (by kernel_rfl) rfl rfl) <| zR rfl (dA (E := (ab Enc.str (ab Enc.str (ab Enc.str (ab Enc.str Enc.int))))) (bytes := 72) (zs := [.string ⟨#[]⟩, .string ⟨#[]⟩, .string ⟨#[]⟩, .string ⟨#[]⟩, .int .i64 0]) (l := ([(([49] : List UInt8), ([] : List UInt8), ([] : List UInt8), ([] : List UInt8), 0)] : List ((List UInt8) × (List UInt8) × (List UInt8) × (List UInt8) × Int))) bt (by kernel_rfl) (by kernel_rfl) rfl rfl rfl rfl rfl) <| zS rfl (cK (zs := [.string ⟨#[]⟩, .slice none 0 0]) (ps := [(0, 1), (1, 1)]) (cs := [S ([84] : List UInt8), slE (ab Enc.str (ab Enc.str (ab Enc.str (ab Enc.str Enc.int)))) ([(([49] : List UInt8), ([] : List UInt8), ([] : List UInt8), ([] : List UInt8), 0)] : List ((List UInt8) × (List UInt8) × (List UInt8) × (List UInt8) × Int)) none]) (by kernel_rfl) rfl rfl) <| am rfl rfl (aA rfl en10_fdl rfl (mE F x3 x4 ([84] : List UInt8) ([(([49] : List UInt8), ([] : List UInt8), ([] : List UInt8), ([] : List UInt8), 0)] : List ((List UInt8) × (List UInt8) × (List UInt8) × (List UInt8) × Int)) x8 e9) ?_);refine za rfl <| ag <| af ?_;obtain ⟨x12, e13, H⟩ := fL H;refine aa ?_
 show AR _ _ _ _ _ [0, 1, 2, 3, 4, 5, 6, 7, 8, 9, 10, 11] _;refine zm rfl <| zS rfl (bJ rfl rfl) <| zm rfl <| aW (l := [5, 6, 7, 8, 9, 10, 11]) 19 (B ((decide (x5 = 0)) && x8)) (fun K => ?_) ?_
 ·rcases aj (decide (x5 = 0)) with h10 | h10
  ·refine zM h10 rfl <| zS rfl (aD (av := .v _) rfl h10 rfl) ?_;exact K _ 1 _ (ay (cz h10)) rfl rfl
  ·refine zF h10 rfl <| zS rfl (aE (av := .v _) rfl h10 rfl) ?_;exact K _ 1 _ (ay (cA h10)) rfl rfl
 refine zm rfl <| aW (l := [11]) 25 (B (((decide (x5 = 0)) && x8) && (decide (x12 = ([97] : List UInt8))))) (fun K => ?_) ?_
 ·rcases aj ((decide (x5 = 0)) && x8) with h11 | h11
  ·refine zU h11 rfl (cK (zs := [.int .i64 0, .string ⟨#[]⟩, .string ⟨#[]⟩, .slice none 0 0]) (ps := [(0, 1), (1, 1), (2, 1), (3, 1)]) (cs := [i64 2, S ([] : List UInt8), S ([32, 97, 32] : List UInt8), eH]) (by kernel_rfl) rfl rfl) <| zT h11 rfl (cn rfl rfl (jH (ds := [i64 2, S ([] : List UInt8), S ([32, 97, 32] : List UInt8), slE (ab Enc.str Enc.str) ([] : List ((List UInt8) × List UInt8)) none]) 21 (.cons (.refl _) (.cons (.refl _) (.cons (.refl _) (.cons (.nil _) (.nil))))) (hc := rfl) <| dA (E := (ab Enc.int (ab Enc.str (ab Enc.str (Enc.sl (ab Enc.str Enc.str)))))) (bytes := 64) (zs := [.int .i64 0, .string ⟨#[]⟩, .string ⟨#[]⟩, .slice none 0 0]) (l := ([(2, ([] : List UInt8), ([32, 97, 32] : List UInt8), ([] : List ((List UInt8) × List UInt8)))] : List (Int × (List UInt8) × (List UInt8) × List ((List UInt8) × List UInt8)))) aO (by kernel_rfl) (by kernel_rfl) rfl rfl rfl rfl rfl) ?_);refine zT h11 rfl (aA rfl en13_fdl rfl (pm F ([(2, ([] : List UInt8), ([32, 97, 32] : List UInt8), ([] : List ((List UInt8) × List UInt8)))] : List (Int × (List UInt8) × (List UInt8) × List ((List UInt8) × List UInt8))) none x12 (e13 h11)) ?_);refine zU h11 rfl (eo rfl rfl) <| zS rfl (aD (av := .v _) rfl h11 rfl) ?_;exact K _ 4 _ (ay (cz h11)) rfl rfl
  ·refine zF h11 rfl <| zF h11 rfl <| zF h11 rfl <| zF h11 rfl <| zS rfl (aE (av := .v _) rfl h11 rfl) ?_;exact K _ 4 _ (ay (cA h11)) rfl rfl
 refine za rfl <| ag <| aG ?_;obtain rfl := ak H;exact And.intro rfl (Exists.intro _ (Exists.intro _ ⟨aF rfl (.refl _), aB [] rfl, rfl, rfl⟩))
set_option maxRecDepth 100000 in
set_option maxHeartbeats 1000000 in
theorem kJ (F : Nat) (a1 : List UInt8) (r2 : Bool) (H : iC F a1 = some r2) : ACalls Tryz.prog 8 [S a1] [] (Ret (B r2) []) := by
 unfold iC at H
 refine ap Tryz.func8 rfl rfl ?_;show AW _ _ 23 _ _ _;refine af <| aa ?_;show AR _ _ _ _ _ [0] _;refine za rfl <| ag <| bM (X := Unit) (fun _ => ⟨[(0, S a1)], [], []⟩) (fun _ => jQ a1 = some r2) ?_ ?_
 ·refine af <| aa ?_;show AR _ _ _ _ _ [0] _;refine za rfl <| ag <| aU <| dp (X := Nat × Int) (fun (n5, y3) => ⟨[(0, S a1), (3, i64 y3)], [], []⟩) (fun (n5, y3) => hU a1 n5 y3 = some r2) (fun (n5, y3) => n5) (F, 0) H (be [] (.cons (.refl _) (.cons (.refl _) (.nil _))) rfl) ?_;rintro ⟨n5, y3⟩ H;obtain ⟨n5, rfl, H⟩ := fA H;replace H : hZ a1 (hU a1 n5) y3 = some r2 := H
  unfold hZ at H
  refine af <| af <| aa ?_;show AR _ _ _ _ _ [0, 1, 2, 3] _;refine zm rfl <| zm rfl <| zS rfl (bu ai rfl) <| zS rfl (cf rfl rfl) <| ag <| ax rfl (fun c6 => ?_) (fun c6 => ?_)
  ·replace H := aX c6 H;refine aC <| af <| aU <| af ?_;obtain ⟨g7, H⟩ := aM H;obtain ⟨x8, e9, H⟩ := bL H;obtain ⟨g11, H⟩ := cP H;obtain ⟨x12, e13, H⟩ := bL H;refine aa ?_;show AR _ _ _ _ _ [0, 1, 2, 3, 4, 5, 6, 7, 8, 9] _;refine zm rfl <| zm rfl <| zS rfl (bo ai rfl rfl g7 e9) <| zS rfl (cf rfl rfl) <| zm rfl <| aW (l := []) 19 (B ((decide ((x8.toNat : Int) < 97)) || (decide (122 < (x12.toNat : Int))))) (fun K => ?_) ?_
   ·rcases aj (decide ((x8.toNat : Int) < 97)) with h10 | h10
    ·refine zF h10 rfl <| zF h10 rfl <| zF h10 rfl <| zF h10 rfl <| zS rfl (aD (av := .v _) rfl h10 rfl) ?_;exact K _ 4 _ (ay (jW h10)) rfl rfl
    ·refine zM h10 rfl <| zM h10 rfl <| zU h10 rfl (bo ai rfl rfl (g11 (nf h10)) e13) <| zU h10 rfl (gn rfl rfl) <| zS rfl (aE (av := .v _) rfl h10 rfl) ?_;exact K _ 4 _ (ay (jX h10)) rfl rfl
   refine ag <| ax rfl (fun c14 => ?_) (fun c14 => ?_)
   ·replace H := aX c14 H;refine af <| aa ?_;show AR _ _ _ _ _ [0] _;refine za rfl <| ag <| aG ?_;obtain rfl := ak H;exact And.intro rfl (Exists.intro _ (Exists.intro _ ⟨aF rfl (.refl _), aB [] rfl, rfl, rfl⟩))
   ·replace H := aY c14 H;refine aC ?_;obtain ⟨g15, H⟩ := aM H;refine aa ?_;show AR _ _ _ _ _ [0, 1, 2] _;refine zm rfl <| zS rfl (dl rfl rfl g15) <| za rfl <| ag ?_;exact Exists.intro (n5, y3 + 1) ⟨H, Nat.lt_succ_self _, be [] (.cons (.refl _) (.cons (.refl _) (.nil _))) rfl⟩
  ·replace H := aY c6 H;refine cB ?_;exact Exists.intro () ⟨H, be [] (.cons (.refl _) (.nil _)) rfl⟩
 rintro _ H;replace H : jQ a1 = some r2 := H
 unfold jQ at H
 refine af <| aa ?_;show AR _ _ _ _ _ [0, 1, 2, 3] _;refine zm rfl <| zS rfl (bu ai rfl) <| zS rfl (fJ rfl rfl) <| za rfl <| ag <| aG ?_;obtain rfl := ak H;exact And.intro rfl (Exists.intro _ (Exists.intro _ ⟨aF rfl (.refl _), aB [] rfl, rfl, rfl⟩))
end Go.Proofs.YtkbfjepffpddfaaGreatDoor
namespace Go.Pv
def lfeedkinds_k1 : List UInt8 := [60, 114, 115, 115, 62, 60, 99, 104, 97, 110, 110, 101, 108, 62, 60, 116, 105, 116, 108, 101, 62, 70, 60, 47, 116, 105, 116, 108, 101, 62, 60, 105, 116, 101, 109, 62, 60, 103, 117, 105, 100, 62]
def lfeedkinds_k2 : List UInt8 := [60, 47, 108, 105, 110, 107, 62, 60, 100, 101, 115, 99, 114, 105, 112, 116, 105, 111, 110, 62]
def lfeedkinds_k3 : List UInt8 := [60, 47, 100, 101, 115, 99, 114, 105, 112, 116, 105, 111, 110, 62, 60, 47, 105, 116, 101, 109, 62, 60, 47, 99, 104, 97, 110, 110, 101, 108, 62, 60, 47, 114, 115, 115, 62]
def lfeedkinds_k4 : List UInt8 := [60, 102, 101, 101, 100, 62, 60, 116, 105, 116, 108, 101, 62, 70, 60, 47, 116, 105, 116, 108, 101, 62, 60, 101, 110, 116, 114, 121, 62, 60, 105, 100, 62]
def lfeedkinds_k5 : List UInt8 := [60, 47, 116, 105, 116, 108, 101, 62, 60, 108, 105, 110, 107, 32, 104, 114, 101, 102, 61, 34]
def lfeedkinds_k6 : List UInt8 := [60, 47, 115, 117, 109, 109, 97, 114, 121, 62, 60, 47, 101, 110, 116, 114, 121, 62, 60, 47, 102, 101, 101, 100, 62]
def im (F : Nat) (a1 : List UInt8) (a2 : List UInt8) (a3 : List UInt8) (a4 : List UInt8) : Option Bool :=
bnd (ka F) fun x6 =>
bnd (iC F a1) fun x8 =>
bnd (iC F a2) fun x10 =>
bnd (iC F a3) fun x12 =>
bnd (iC F a4) fun x14 =>
bif ((((!x6) || (!x8)) || (!x10)) || (!x12)) || (!x14) then
  some x6
else
  grd (cX (lfeedkinds_k1.length + a1.length)) <|
  lt (lfeedkinds_k1 ++ a1) fun x22 =>
  grd (cX (x22.length + ([60, 47, 103, 117, 105, 100, 62, 60, 116, 105, 116, 108, 101, 62] : List UInt8).length)) <|
  lt (x22 ++ ([60, 47, 103, 117, 105, 100, 62, 60, 116, 105, 116, 108, 101, 62] : List UInt8)) fun x25 =>
  grd (cX (x25.length + a2.length)) <|
  lt (x25 ++ a2) fun x28 =>
  grd (cX (x28.length + ([60, 47, 116, 105, 116, 108, 101, 62, 60, 108, 105, 110, 107, 62] : List UInt8).length)) <|
  lt (x28 ++ ([60, 47, 116, 105, 116, 108, 101, 62, 60, 108, 105, 110, 107, 62] : List UInt8)) fun x31 =>
  grd (cX (x31.length + a3.length)) <|
  lt (x31 ++ a3) fun x34 =>
  grd (cX (x34.length + lfeedkinds_k2.length)) <|
  lt (x34 ++ lfeedkinds_k2) fun x37 =>
  grd (cX (x37.length + a4.length)) <|
  lt (x37 ++ a4) fun x40 =>
  grd (cX (x40.length + lfeedkinds_k3.length)) <|
  lt (x40 ++ lfeedkinds_k3) fun x43 =>
  grd (cX (lfeedkinds_k4.length + a1.length)) <|
  lt (lfeedkinds_k4 ++ a1) fun x46 =>
  grd (cX (x46.length + ([60, 47, 105, 100, 62, 60, 116, 105, 116, 108, 101, 62] : List UInt8).length)) <|
  lt (x46 ++ ([60, 47, 105, 100, 62, 60, 116, 105, 116, 108, 101, 62] : List UInt8)) fun x49 =>
  grd (cX (x49.length + a2.length)) <|
  lt (x49 ++ a2) fun x52 =>
  grd (cX (x52.length + lfeedkinds_k5.length)) <|
  lt (x52 ++ lfeedkinds_k5) fun x55 =>
  grd (cX (x55.length + a3.length)) <|
  lt (x55 ++ a3) fun x58 =>
  grd (cX (x58.length + ([34, 47, 62, 60, 115, 117, 109, 109, 97, 114, 121, 62] : List UInt8).length)) <|
  lt (x58 ++ ([34, 47, 62, 60, 115, 117, 109, 109, 97, 114, 121, 62] : List UInt8)) fun x61 =>
  grd (cX (x61.length + a4.length)) <|
  lt (x61 ++ a4) fun x64 =>
  grd (cX (x64.length + lfeedkinds_k6.length)) <|
  lt (x64 ++ lfeedkinds_k6) fun x67 =>
  grd (cX x43.length) <|
  bnd3 (dT F x43) fun x71 x72 x73 =>
  grd (cX x67.length) <|
  bnd3 (dT F x67) fun x78 x79 x80 =>
  bnd (fc F x71 x72 ([70] : List UInt8) ([(a1, a2, a3, a4, 0)] : List ((List UInt8) × (List UInt8) × (List UInt8) × (List UInt8) × Int))) fun x84 =>
  bnd (fc F x78 x79 ([70] : List UInt8) ([(a1, a2, a3, a4, 0)] : List ((List UInt8) × (List UInt8) × (List UInt8) × (List UInt8) × Int))) fun x86 =>
  some ((((decide (x73 = 0)) && (decide (x80 = 0))) && x84) && x86)
end Go.Pv
namespace Go.Proofs.YtkbfjepffpddfaaGreatDoor
open Go.RowKit Go.Av Go.Pv
theorem rB : ∀ (args : Array Value) (w : World), (callFunc 7 args).run Tryz.prog w = .ok (.enter 7 args) w := fun _ _ => by kernel_rfl
theorem je : ∀ (args : Array Value) (w : World), (callFunc 8 args).run Tryz.prog w = .ok (.enter 8 args) w := fun _ _ => by kernel_rfl
theorem nw : ∀ (args : Array Value) (w : World), (callFunc 9 args).run Tryz.prog w = .ok (.enter 9 args) w := fun _ _ => by kernel_rfl
theorem mR : ∀ (args : Array Value) (w : World), (callFunc 10 args).run Tryz.prog w = .ok (.enter 10 args) w := fun _ _ => by kernel_rfl
set_option maxRecDepth 100000 in
set_option maxHeartbeats 1000000 in
theorem pc (F : Nat) (a1 : List UInt8) (a2 : List UInt8) (a3 : List UInt8) (a4 : List UInt8) (r5 : Bool) (H : im F a1 a2 a3 a4 = some r5) : ACalls Tryz.prog 3 [S a1, S a2, S a3, S a4] [] (Ret (B r5) []) := by
 unfold im at H
 refine ap Tryz.func3 rfl rfl ?_;show AW _ _ 112 _ _ _;refine af <| aa ?_;show AR _ _ _ _ _ [0] _;refine za rfl <| ag <| af ?_;obtain ⟨x6, e7, H⟩ := bU H;refine aa ?_;show AR _ _ _ _ _ [0, 1] _;refine am rfl rfl (aA rfl rB rfl (su F x6 e7) ?_);refine za rfl <| ag <| af ?_;obtain ⟨x8, e9, H⟩ := bU H;refine aa ?_;show AR _ _ _ _ _ [0, 1, 2] _;refine zm rfl <| am rfl rfl (aA rfl je rfl (kJ F a1 x8 e9) ?_);refine za rfl <| ag <| af ?_;obtain ⟨x10, e11, H⟩ := bU H;refine aa ?_;show AR _ _ _ _ _ [0, 1, 2] _;refine zm rfl <| am rfl rfl (aA rfl je rfl (kJ F a2 x10 e11) ?_);refine za rfl <| ag <| af ?_;obtain ⟨x12, e13, H⟩ := bU H;refine aa ?_;show AR _ _ _ _ _ [0, 1, 2] _;refine zm rfl <| am rfl rfl (aA rfl je rfl (kJ F a3 x12 e13) ?_);refine za rfl <| ag <| af ?_;obtain ⟨x14, e15, H⟩ := bU H;refine aa ?_;show AR _ _ _ _ _ [0, 1, 2] _;refine zm rfl <| am rfl rfl (aA rfl je rfl (kJ F a4 x14 e15) ?_);refine za rfl <| ag <| af <| af <| aa ?_;show AR _ _ _ _ _ [0, 1, 2, 3, 4, 5, 6, 7, 8, 9, 10, 11, 12, 13, 14, 15, 16, 17] _;refine zm rfl <| zS rfl (bB rfl) <| zm rfl <| aW (l := [6, 7, 8, 9, 10, 11, 12, 13, 14, 15, 16, 17]) 37 (B ((!x6) || (!x8))) (fun K => ?_) ?_
 ·rcases aj (!x6) with h16 | h16
  ·refine zF h16 rfl <| zF h16 rfl <| zS rfl (aD (av := .v _) rfl h16 rfl) ?_;exact K _ 2 _ (ay (jW h16)) rfl rfl
  ·refine zM h16 rfl <| zU h16 rfl (bB rfl) <| zS rfl (aE (av := .v _) rfl h16 rfl) ?_;exact K _ 2 _ (ay (jX h16)) rfl rfl
 refine zm rfl <| aW (l := [10, 11, 12, 13, 14, 15, 16, 17]) 41 (B (((!x6) || (!x8)) || (!x10))) (fun K => ?_) ?_
 ·rcases aj ((!x6) || (!x8)) with h17 | h17
  ·refine zF h17 rfl <| zF h17 rfl <| zS rfl (aD (av := .v _) rfl h17 rfl) ?_;exact K _ 2 _ (ay (jW h17)) rfl rfl
  ·refine zM h17 rfl <| zU h17 rfl (bB rfl) <| zS rfl (aE (av := .v _) rfl h17 rfl) ?_;exact K _ 2 _ (ay (jX h17)) rfl rfl
 refine zm rfl <| aW (l := [14, 15, 16, 17]) 45 (B ((((!x6) || (!x8)) || (!x10)) || (!x12))) (fun K => ?_) ?_
 ·rcases aj (((!x6) || (!x8)) || (!x10)) with h18 | h18
  ·refine zF h18 rfl <| zF h18 rfl <| zS rfl (aD (av := .v _) rfl h18 rfl) ?_;exact K _ 2 _ (ay (jW h18)) rfl rfl
  ·refine zM h18 rfl <| zU h18 rfl (bB rfl) <| zS rfl (aE (av := .v _) rfl h18 rfl) ?_;exact K _ 2 _ (ay (jX h18)) rfl rfl
 refine zm rfl <| aW (l := []) 49 (B (((((!x6) || (!x8)) || (!x10)) || (!x12)) || (!x14))) (fun K => ?_) ?_
 ·rcases aj ((((!x6) || (!x8)) || (!x10)) || (!x12)) with h19 | h19
  ·refine zF h19 rfl <| zF h19 rfl <| zS rfl (aD (av := .v _) rfl h19 rfl) ?_;exact K _ 2 _ (ay (jW h19)) rfl rfl
  ·refine zM h19 rfl <| zU h19 rfl (bB rfl) <| zS rfl (aE (av := .v _) rfl h19 rfl) ?_;exact K _ 2 _ (ay (jX h19)) rfl rfl
 refine ag <| ax rfl (fun c20 => ?_) (fun c20 => ?_)
 ·replace H := aX c20 H;refine af <| aa ?_;show AR _ _ _ _ _ [0, 1] _;refine zm rfl <| za rfl <| ag <| aG ?_;obtain rfl := ak H;exact And.intro rfl (Exists.intro _ (Exists.intro _ ⟨aF rfl (.refl _), aB [] rfl, rfl, rfl⟩))
 ·replace H := aY c20 H;refine aC <| af ?_;obtain ⟨g21, H⟩ := aM H;obtain ⟨x22, e23, H⟩ := bL H;obtain ⟨g24, H⟩ := aM H;obtain ⟨x25, e26, H⟩ := bL H;obtain ⟨g27, H⟩ := aM H;obtain ⟨x28, e29, H⟩ := bL H;obtain ⟨g30, H⟩ := aM H;obtain ⟨x31, e32, H⟩ := bL H;obtain ⟨g33, H⟩ := aM H;obtain ⟨x34, e35, H⟩ := bL H;obtain ⟨g36, H⟩ := aM H;obtain ⟨x37, e38, H⟩ := bL H;obtain ⟨g39, H⟩ := aM H;obtain ⟨x40, e41, H⟩ := bL H;obtain ⟨g42, H⟩ := aM H;obtain ⟨x43, e44, H⟩ := bL H;refine aa ?_;show AR _ _ _ _ _ [0, 1, 2, 3, 4, 5, 6, 7, 8, 9, 10, 11, 12] _;refine zm rfl <| zS rfl (jv rfl rfl g21 e23) <| zS rfl (jv rfl rfl g24 e26) <| zm rfl <| zS rfl (jv rfl rfl g27 e29) <| zS rfl (jv rfl rfl g30 e32) <| zm rfl <| zS rfl (jv rfl rfl g33 e35) <| zS rfl (jv rfl rfl g36 e38) <| zm rfl <| zS rfl (jv rfl rfl g39 e41) <| zS rfl (jv rfl rfl g42 e44) <| za rfl <| ag <| af ?_;obtain ⟨g45, H⟩ := aM H;obtain ⟨x46, e47, H⟩ := bL H;obtain ⟨g48, H⟩ := aM H;obtain ⟨x49, e50, H⟩ := bL H;obtain ⟨g51, H⟩ := aM H;obtain ⟨x52, e53, H⟩ := bL H;obtain ⟨g54, H⟩ := aM H;obtain ⟨x55, e56, H⟩ := bL H;obtain ⟨g57, H⟩ := aM H;obtain ⟨x58, e59, H⟩ := bL H;obtain ⟨g60, H⟩ := aM H;obtain ⟨x61, e62, H⟩ := bL H;obtain ⟨g63, H⟩ := aM H;obtain ⟨x64, e65, H⟩ := bL H;obtain ⟨g66, H⟩ := aM H;obtain ⟨x67, e68, H⟩ := bL H;refine aa ?_;show AR _ _ _ _ _ [0, 1, 2, 3, 4, 5, 6, 7, 8, 9, 10, 11, 12] _
  refine zm rfl <| zS rfl (jv rfl rfl g45 e47) <| zS rfl (jv rfl rfl g48 e50) <| zm rfl <| zS rfl (jv rfl rfl g51 e53) <| zS rfl (jv rfl rfl g54 e56) <| zm rfl <| zS rfl (jv rfl rfl g57 e59) <| zS rfl (jv rfl rfl g60 e62) <| zm rfl <| zS rfl (jv rfl rfl g63 e65) <| zS rfl (jv rfl rfl g66 e68) <| za rfl <| ag <| af ?_;obtain ⟨g69, H⟩ := aM H;obtain ⟨x71, x72, x73, e74, H⟩ := vf H;refine aa ?_;show AR _ _ _ _ _ [0, 1, 2, 3, 4, 5, 6, 7, 8] _;refine zm rfl <| zX rfl (gJ (bytes := 1) ai al cH rfl g69) ?_;rintro _ _ ⟨t70, rfl, rfl⟩;refine am rfl rfl (aA rfl nw rfl (nx F x43 (some t70) x71 x72 x73 e74) ?_);refine zS rfl (ah (av := .tup _) rfl) <| zS rfl (az (av := .agg _) rfl rfl) <| zS rfl (az (av := .v _) rfl rfl) <| zX rfl (bg (zs := [.string ⟨#[]⟩, .slice none 0 0]) (by kernel_rfl)) ?_;rintro _ _ ⟨o75, rfl, rfl⟩;refine s0 rfl rfl (aV (i := 0) (vs := [S x71, slE (ab Enc.str (ab Enc.str (ab Enc.str (ab Enc.str Enc.int)))) x72 none]) (by kernel_rfl) rfl rfl (by simp [bz, slE]) rfl (ac rfl)) <| eT 16 0 rfl rfl ?_;show AR _ _ _ _ _ _ ⟨_, _, [.tok t70 5]⟩;refine za rfl <| ag <| af ?_;obtain ⟨g76, H⟩ := aM H;obtain ⟨x78, x79, x80, e81, H⟩ := vf H;refine aa ?_;show AR _ _ _ _ _ [0, 1, 2, 3, 4, 5, 6, 7, 8] _;refine zm rfl <| zX rfl (gJ (bytes := 1) ai al cH rfl g76) ?_
  rintro _ _ ⟨t77, rfl, rfl⟩;refine am rfl rfl (aA rfl nw rfl (nx F x67 (some t77) x78 x79 x80 e81) ?_);refine zS rfl (ah (av := .tup _) rfl) <| zS rfl (az (av := .agg _) rfl rfl) <| zS rfl (az (av := .v _) rfl rfl) <| zX rfl (bg (zs := [.string ⟨#[]⟩, .slice none 0 0]) (by kernel_rfl)) ?_;rintro _ _ ⟨o82, rfl, rfl⟩;refine s0 rfl rfl (aV (i := 0) (vs := [S x78, slE (ab Enc.str (ab Enc.str (ab Enc.str (ab Enc.str Enc.int)))) x79 none]) (by kernel_rfl) rfl rfl (by simp [bz, slE]) rfl (ac rfl)) <| eT 18 0 rfl rfl ?_;show AR _ _ _ _ _ _ ⟨_, _, [.tok t77 5, .tok t70 5]⟩;refine za rfl <| ag <| af <| aa ?_;show AR _ _ _ _ _ [0, 1, 2, 3, 4, 5, 6, 7, 8] _
  refine zm rfl <| zm rfl <| zm rfl <| zm rfl <| zS rfl (cK (zs := [.string ⟨#[]⟩, .string ⟨#[]⟩, .string ⟨#[]⟩, .string ⟨#[]⟩, .int .i64 0]) (ps := [(0, 1), (1, 1), (2, 1), (3, 1), (4, 1)]) (cs := [S a1, S a2, S a3, S a4, i64 0]) (by kernel_rfl) rfl rfl) <| zR rfl (dA (E := (ab Enc.str (ab Enc.str (ab Enc.str (ab Enc.str Enc.int))))) (bytes := 72) (zs := [.string ⟨#[]⟩, .string ⟨#[]⟩, .string ⟨#[]⟩, .string ⟨#[]⟩, .int .i64 0]) (l := ([(a1, a2, a3, a4, 0)] : List ((List UInt8) × (List UInt8) × (List UInt8) × (List UInt8) × Int))) bt (by kernel_rfl) (by kernel_rfl) rfl rfl rfl rfl rfl) <| zS rfl (cK (zs := [.string ⟨#[]⟩, .slice none 0 0]) (ps := [(0, 1), (1, 1)]) (cs := [S ([70] : List UInt8), slE (ab Enc.str (ab Enc.str (ab Enc.str (ab Enc.str Enc.int)))) ([(a1, a2, a3, a4, 0)] : List ((List UInt8) × (List UInt8) × (List UInt8) × (List UInt8) × Int)) none]) (by kernel_rfl) rfl rfl) <| zX rfl (bg (zs := [.string ⟨#[]⟩, .slice none 0 0]) (by kernel_rfl)) ?_;rintro _ _ ⟨o83, rfl, rfl⟩;refine s0 rfl rfl (aV (i := 0) (vs := [S ([70] : List UInt8), slE (ab Enc.str (ab Enc.str (ab Enc.str (ab Enc.str Enc.int)))) ([(a1, a2, a3, a4, 0)] : List ((List UInt8) × (List UInt8) × (List UInt8) × (List UInt8) × Int)) none]) (by kernel_rfl) rfl rfl (by simp [bz, slE]) rfl (ac rfl)) <| eT 20 0 rfl rfl ?_;show AR _ _ _ _ _ _ ⟨_, _, [.tok t77 5, .tok t70 5]⟩;refine ag <| af ?_;obtain ⟨x84, e85, H⟩ := bU H;refine aa ?_
  show AR _ _ _ _ _ [0, 1, 2, 3] _;refine zS rfl (ca ce rfl (n := 2) (by kernel_rfl) rfl (ac rfl)) <| zS rfl (ca ce rfl (n := 2) (by kernel_rfl) rfl (ac rfl)) <| am rfl rfl (aA rfl mR rfl (mE F x71 x72 ([70] : List UInt8) ([(a1, a2, a3, a4, 0)] : List ((List UInt8) × (List UInt8) × (List UInt8) × (List UInt8) × Int)) x84 e85) ?_);refine za rfl <| ag <| af ?_;obtain ⟨x86, e87, H⟩ := bU H;refine aa ?_;show AR _ _ _ _ _ [0, 1, 2, 3] _;refine zS rfl (ca ce rfl (n := 2) (by kernel_rfl) rfl (ac rfl)) <| zS rfl (ca ce rfl (n := 2) (by kernel_rfl) rfl (ac rfl)) <| am rfl rfl (aA rfl mR rfl (mE F x78 x79 ([70] : List UInt8) ([(a1, a2, a3, a4, 0)] : List ((List UInt8) × (List UInt8) × (List UInt8) × (List UInt8) × Int)) x86 e87) ?_);refine za rfl <| ag <| af <| aa ?_;show AR _ _ _ _ _ [0, 1, 2, 3, 4, 5, 6, 7, 8, 9, 10, 11, 12] _;refine zm rfl <| zS rfl (bJ rfl rfl) <| zm rfl <| aW (l := [6, 7, 8, 9, 10, 11, 12]) 105 (B ((decide (x73 = 0)) && (decide (x80 = 0)))) (fun K => ?_) ?_
  ·rcases aj (decide (x73 = 0)) with h88 | h88
   ·refine zM h88 rfl <| zU h88 rfl (bJ rfl rfl) <| zS rfl (aD (av := .v _) rfl h88 rfl) ?_;exact K _ 2 _ (ay (cz h88)) rfl rfl
   ·refine zF h88 rfl <| zF h88 rfl <| zS rfl (aE (av := .v _) rfl h88 rfl) ?_;exact K _ 2 _ (ay (cA h88)) rfl rfl
  refine zm rfl <| aW (l := [9, 10, 11, 12]) 108 (B (((decide (x73 = 0)) && (decide (x80 = 0))) && x84)) (fun K => ?_) ?_
  ·rcases aj ((decide (x73 = 0)) && (decide (x80 = 0))) with h89 | h89
   ·refine zM h89 rfl <| zS rfl (aD (av := .v _) rfl h89 rfl) ?_;exact K _ 1 _ (ay (cz h89)) rfl rfl
   ·refine zF h89 rfl <| zS rfl (aE (av := .v _) rfl h89 rfl) ?_;exact K _ 1 _ (ay (cA h89)) rfl rfl
  refine zm rfl <| aW (l := [12]) 111 (B ((((decide (x73 = 0)) && (decide (x80 = 0))) && x84) && x86)) (fun K => ?_) ?_
  ·rcases aj (((decide (x73 = 0)) && (decide (x80 = 0))) && x84) with h90 | h90
   ·refine zM h90 rfl <| zS rfl (aD (av := .v _) rfl h90 rfl) ?_;exact K _ 1 _ (ay (cz h90)) rfl rfl
   ·refine zF h90 rfl <| zS rfl (aE (av := .v _) rfl h90 rfl) ?_;exact K _ 1 _ (ay (cA h90)) rfl rfl
  refine za rfl <| ag <| aG ?_;obtain rfl := ak H;exact And.intro rfl (Exists.intro _ (Exists.intro _ ⟨aF rfl (.refl _), aB [] rfl, rfl, rfl⟩))
end Go.Proofs.YtkbfjepffpddfaaGreatDoor
