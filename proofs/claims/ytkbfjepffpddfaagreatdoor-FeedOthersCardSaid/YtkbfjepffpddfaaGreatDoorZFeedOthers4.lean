/-
  Texts in one (only what FeedOthers needs): EntBW, XmlAP, XmlAW, FdBP, FdBW, FdLP, FdLW, LFeedOthersP, LFeedOthersW, XmA.
-/
import Derived.Test.YtkbfjepffpddfaaGreatDoorZFeedOthers3
import Derived.Test.YtkbfjepffpddfaaGreatDoorShelf
import Derived.Lib.ItoaNum
import Derived.Lib.IndexLaws
import Derived.Test.YtkbfjepffpddfaaGreatDoorChecked
import Derived.Lib.IndexMore
set_option linter.unusedVariables false
set_option linter.unusedSimpArgs false
set_option linter.unusedSectionVars false
namespace Go.Proofs.YtkbfjepffpddfaaGreatDoor
open Go.RowKit Go.Av Go.Pv
theorem qo : ∀ (args : Array Value) (w : World), (callFunc 17 args).run Tryz.prog w = .ok (.enter 17 args) w := fun _ _ => by kernel_rfl
theorem zD : ∀ (args : Array Value) (w : World), (callFunc 19 args).run Tryz.prog w = .ok (.enter 19 args) w := fun _ _ => by kernel_rfl
theorem zz : ∀ (args : Array Value) (w : World), (callFunc 44 args).run Tryz.prog w = .ok (.enter 44 args) w := fun _ _ => by kernel_rfl
theorem tR : ∀ (args : Array Value) (w : World), (callFunc 61 args).run Tryz.prog w = .ok (.enter 61 args) w := fun _ _ => by kernel_rfl
theorem zp : ∀ (args : Array Value) (w : World), (callFunc 70 args).run Tryz.prog w = .ok (.enter 70 args) w := fun _ _ => by kernel_rfl
theorem zl : ∀ (args : Array Value) (w : World), (callFunc 82 args).run Tryz.prog w = .ok (.enter 82 args) w := fun _ _ => by kernel_rfl
theorem zj : ∀ (args : Array Value) (w : World), (callFunc 91 args).run Tryz.prog w = .ok (.enter 91 args) w := fun _ _ => by kernel_rfl
theorem nY : ∀ (args : Array Value) (w : World), (callFunc 92 args).run Tryz.prog w = .ok (.enter 92 args) w := fun _ _ => by kernel_rfl
theorem zi : ∀ (args : Array Value) (w : World), (callFunc 93 args).run Tryz.prog w = .ok (.enter 93 args) w := fun _ _ => by kernel_rfl
theorem zh : ∀ (args : Array Value) (w : World), (callFunc 98 args).run Tryz.prog w = .ok (.enter 98 args) w := fun _ _ => by kernel_rfl
theorem tP : ∀ (args : Array Value) (w : World), (callFunc 99 args).run Tryz.prog w = .ok (.enter 99 args) w := fun _ _ => by kernel_rfl
theorem xB : ∀ (args : Array Value) (w : World), (callFunc 102 args).run Tryz.prog w = .ok (.enter 102 args) w := fun _ _ => by kernel_rfl
theorem xA : ∀ (args : Array Value) (w : World), (callFunc 103 args).run Tryz.prog w = .ok (.enter 103 args) w := fun _ _ => by kernel_rfl
theorem xz : ∀ (args : Array Value) (w : World), (callFunc 104 args).run Tryz.prog w = .ok (.enter 104 args) w := fun _ _ => by kernel_rfl
set_option maxRecDepth 100000 in
set_option maxHeartbeats 1000000 in
theorem xc (F : Nat) (a1 : Int) (r2 : List UInt8) (r3 : Bool) (H : jv F a1 = some (r2, r3)) : ACalls Tryz.prog 104 [i64 a1] [] (Ret (.tup [S r2, B r3]) []) := by
 unfold jv at H
 refine ap Tryz.func104 rfl rfl ?_;show AW _ _ 35 _ _ _;refine af <| aa ?_;show AR _ _ _ _ _ [0, 1] _;refine za rfl <| za rfl <| ag <| af <| aa ?_;show AR _ _ _ _ _ [0, 1, 2, 3, 4, 5, 6, 7, 8, 9, 10] _;refine zm rfl <| zS rfl (bJ rfl rfl) <| zm rfl <| aW (l := [6, 7, 8, 9, 10]) 10 (B ((decide (a1 = 9)) || (decide (a1 = 10)))) (fun K => ?_) ?_
 ·rcases aj (decide (a1 = 9)) with h4 | h4
  ·refine zF h4 rfl <| zF h4 rfl <| zS rfl (aD (av := .v _) rfl h4 rfl) ?_;exact K _ 2 _ (ay (jA h4)) rfl rfl
  ·refine zM h4 rfl <| zU h4 rfl (bJ rfl rfl) <| zS rfl (aE (av := .v _) rfl h4 rfl) ?_;exact K _ 2 _ (ay (jB h4)) rfl rfl
 refine zm rfl <| aW (l := [10]) 14 (B (((decide (a1 = 9)) || (decide (a1 = 10))) || (decide (a1 = 13)))) (fun K => ?_) ?_
 ·rcases aj ((decide (a1 = 9)) || (decide (a1 = 10))) with h5 | h5
  ·refine zF h5 rfl <| zF h5 rfl <| zS rfl (aD (av := .v _) rfl h5 rfl) ?_;exact K _ 2 _ (ay (jA h5)) rfl rfl
  ·refine zM h5 rfl <| zU h5 rfl (bJ rfl rfl) <| zS rfl (aE (av := .v _) rfl h5 rfl) ?_;exact K _ 2 _ (ay (jB h5)) rfl rfl
 refine za rfl <| ag <| af <| af ?_;obtain ⟨x7, e8, H⟩ := fM H;obtain ⟨x10, e11, H⟩ := fM H;obtain ⟨x13, e14, H⟩ := fM H;refine aa ?_;show AR _ _ _ _ _ [0, 1, 2, 3, 4, 5, 6, 7, 8, 9, 10, 11, 12, 13, 14, 15, 16] _;refine zm rfl <| zS rfl (bB rfl) <| zm rfl <| aW (l := [7, 8, 9, 10, 11, 12, 13, 14, 15, 16]) 21 (B ((!(((decide (a1 = 9)) || (decide (a1 = 10))) || (decide (a1 = 13)))) && (!x7))) (fun K => ?_) ?_
 ·rcases aj (!(((decide (a1 = 9)) || (decide (a1 = 10))) || (decide (a1 = 13)))) with h6 | h6
  ·refine zM h6 rfl <| zT h6 rfl (aA rfl nY rfl (pD F a1 32 55295 x7 (e8 h6)) ?_);refine zU h6 rfl (bB rfl) <| zS rfl (aD (av := .v _) rfl h6 rfl) ?_;exact K _ 3 _ (ay (cz h6)) rfl rfl
  ·refine zF h6 rfl <| zF h6 rfl <| zF h6 rfl <| zS rfl (aE (av := .v _) rfl h6 rfl) ?_;exact K _ 3 _ (ay (cA h6)) rfl rfl
 refine zm rfl <| aW (l := [12, 13, 14, 15, 16]) 26 (B (((!(((decide (a1 = 9)) || (decide (a1 = 10))) || (decide (a1 = 13)))) && (!x7)) && (!x10))) (fun K => ?_) ?_
 ·rcases aj ((!(((decide (a1 = 9)) || (decide (a1 = 10))) || (decide (a1 = 13)))) && (!x7)) with h9 | h9
  ·refine zM h9 rfl <| zT h9 rfl (aA rfl nY rfl (pD F a1 57344 65533 x10 (e11 h9)) ?_);refine zU h9 rfl (bB rfl) <| zS rfl (aD (av := .v _) rfl h9 rfl) ?_;exact K _ 3 _ (ay (cz h9)) rfl rfl
  ·refine zF h9 rfl <| zF h9 rfl <| zF h9 rfl <| zS rfl (aE (av := .v _) rfl h9 rfl) ?_;exact K _ 3 _ (ay (cA h9)) rfl rfl
 refine zm rfl <| aW (l := []) 31 (B ((((!(((decide (a1 = 9)) || (decide (a1 = 10))) || (decide (a1 = 13)))) && (!x7)) && (!x10)) && (!x13))) (fun K => ?_) ?_
 ·rcases aj (((!(((decide (a1 = 9)) || (decide (a1 = 10))) || (decide (a1 = 13)))) && (!x7)) && (!x10)) with h12 | h12
  ·refine zM h12 rfl <| zT h12 rfl (aA rfl nY rfl (pD F a1 65536 1114111 x13 (e14 h12)) ?_);refine zU h12 rfl (bB rfl) <| zS rfl (aD (av := .v _) rfl h12 rfl) ?_;exact K _ 3 _ (ay (cz h12)) rfl rfl
  ·refine zF h12 rfl <| zF h12 rfl <| zF h12 rfl <| zS rfl (aE (av := .v _) rfl h12 rfl) ?_;exact K _ 3 _ (ay (cA h12)) rfl rfl
 refine ag <| ax rfl (fun c15 => ?_) (fun c15 => ?_)
 ·replace H := aX c15 H;refine af <| aa ?_;show AR _ _ _ _ _ [0, 1] _;refine za rfl <| za rfl <| ag <| aG ?_;obtain ⟨rfl, rfl⟩ := dw H;exact And.intro rfl (Exists.intro _ (Exists.intro _ ⟨bk rfl (.refl _) (.refl _), aB [] rfl, rfl, rfl⟩))
 ·replace H := aY c15 H;refine aC <| af ?_;obtain ⟨g16, H⟩ := aM H;obtain ⟨x17, e18, H⟩ := bM H;refine aa ?_;show AR _ _ _ _ _ [0, 1, 2, 3, 4] _;refine zm rfl <| zS rfl (tH (by kernel_rfl) Tryz.underlying21 rfl g16) <| zS rfl (oX Tryz.underlying21 ai rfl e18) <| za rfl <| za rfl <| ag <| aG ?_;obtain ⟨rfl, rfl⟩ := dw H;exact And.intro rfl (Exists.intro _ (Exists.intro _ ⟨bk rfl (.refl _) (.refl _), aB [] rfl, rfl, rfl⟩))
abbrev _root_.Go.Av.eD := @Tryz.underlying129
set_option maxRecDepth 100000 in
set_option maxHeartbeats 1000000 in
theorem vC (F : Nat) (r1 : List (List UInt8 × Int)) (H : kW F = some r1) : ACalls Tryz.prog 98 [] [] (Ret (mpI .i32 r1) []) := by
 unfold kW at H
 refine ap Tryz.func98 rfl rfl ?_;show AW _ _ 3 _ _ _;refine af <| aa ?_;show AR _ _ _ _ _ [0] _;refine za rfl <| ag <| af <| aa ?_;show AR _ _ _ _ _ [0, 1, 2, 3, 4, 5, 6, 7] _;refine AM.make (k := .i32) rfl rfl <| AM.insert (s := ([97, 109, 112] : List UInt8)) rfl eD ai rfl (by decide) <| AM.insert (s := ([108, 116] : List UInt8)) rfl eD ai rfl (by decide) <| AM.insert (s := ([103, 116] : List UInt8)) rfl eD ai rfl (by decide) <| AM.insert (s := ([113, 117, 111, 116] : List UInt8)) rfl eD ai rfl (by decide) <| AM.insert (s := ([97, 112, 111, 115] : List UInt8)) rfl eD ai rfl (by decide) <| AM.done (es := ([(([97, 109, 112] : List UInt8), 38), (([108, 116] : List UInt8), 60), (([103, 116] : List UInt8), 62), (([113, 117, 111, 116] : List UInt8), 34), (([97, 112, 111, 115] : List UInt8), 39)] : List (List UInt8 × Int))) <| zS rfl (ah (av := mpI _ _) rfl) <| zS rfl (aH (av := mpI _ _) rfl) <| ag <| aG ?_;obtain rfl := ak H;exact And.intro rfl (Exists.intro _ (Exists.intro _ ⟨aF rfl (.refl _), aB [] rfl, rfl, rfl⟩))
set_option maxRecDepth 100000 in
set_option maxHeartbeats 1000000 in
theorem po (F : Nat) (a1 : List UInt8) (a2 : Int) (r3 : List UInt8) (r4 : Bool) (H : dT F a1 a2 = some (r3, r4)) : ACalls Tryz.prog 99 [S a1, i64 a2] [] (Ret (.tup [S r3, B r4]) []) := by
 unfold dT at H
 refine ap Tryz.func99 rfl rfl ?_;show AW _ _ 41 _ _ _;refine af <| aa ?_;show AR _ _ _ _ _ [0, 1] _;refine za rfl <| za rfl <| ag <| af <| af ?_;obtain ⟨g6, H⟩ := cN H;obtain ⟨x7, e8, H⟩ := bM H;obtain ⟨g10, H⟩ := cN H;obtain ⟨x11, e12, H⟩ := bM H;obtain ⟨g14, H⟩ := cN H;obtain ⟨x15, e16, H⟩ := bM H;obtain ⟨x18, e19, H⟩ := fM H;refine aa ?_;show AR _ _ _ _ _ [0, 1, 2, 3, 4, 5, 6, 7, 8, 9, 10, 11, 12, 13, 14, 15, 16, 17, 18, 19, 20] _;refine zm rfl <| zS rfl (dr rfl rfl) <| zm rfl <| aW (l := [7, 8, 9, 10, 11, 12, 13, 14, 15, 16, 17, 18, 19, 20]) 14 (B ((decide (a1 = ([] : List UInt8))) || (decide (x7 = 43)))) (fun K => ?_) ?_
 ·rcases aj (decide (a1 = ([] : List UInt8))) with h5 | h5
  ·refine zF h5 rfl <| zF h5 rfl <| zF h5 rfl <| zS rfl (aD (av := .v _) rfl h5 rfl) ?_;exact K _ 3 _ (ay (jA h5)) rfl rfl
  ·refine zM h5 rfl <| zU h5 rfl (bo ai rfl rfl (g6 (nf h5)) e8) <| zU h5 rfl (jD (a := x7) (b := 43) rfl rfl) <| zS rfl (aE (av := .v _) rfl h5 rfl) ?_;exact K _ 3 _ (ay (jB h5)) rfl rfl
 refine zm rfl <| aW (l := [12, 13, 14, 15, 16, 17, 18, 19, 20]) 19 (B (((decide (a1 = ([] : List UInt8))) || (decide (x7 = 43))) || (decide (x11 = 45)))) (fun K => ?_) ?_
 ·rcases aj ((decide (a1 = ([] : List UInt8))) || (decide (x7 = 43))) with h9 | h9
  ·refine zF h9 rfl <| zF h9 rfl <| zF h9 rfl <| zS rfl (aD (av := .v _) rfl h9 rfl) ?_;exact K _ 3 _ (ay (jA h9)) rfl rfl
  ·refine zM h9 rfl <| zU h9 rfl (bo ai rfl rfl (g10 (nf h9)) e12) <| zU h9 rfl (jD (a := x11) (b := 45) rfl rfl) <| zS rfl (aE (av := .v _) rfl h9 rfl) ?_;exact K _ 3 _ (ay (jB h9)) rfl rfl
 refine zm rfl <| aW (l := [17, 18, 19, 20]) 24 (B ((((decide (a1 = ([] : List UInt8))) || (decide (x7 = 43))) || (decide (x11 = 45))) || (decide (x15 = 95)))) (fun K => ?_) ?_
 ·rcases aj (((decide (a1 = ([] : List UInt8))) || (decide (x7 = 43))) || (decide (x11 = 45))) with h13 | h13
  ·refine zF h13 rfl <| zF h13 rfl <| zF h13 rfl <| zS rfl (aD (av := .v _) rfl h13 rfl) ?_;exact K _ 3 _ (ay (jA h13)) rfl rfl
  ·refine zM h13 rfl <| zU h13 rfl (bo ai rfl rfl (g14 (nf h13)) e16) <| zU h13 rfl (jD (a := x15) (b := 95) rfl rfl) <| zS rfl (aE (av := .v _) rfl h13 rfl) ?_;exact K _ 3 _ (ay (jB h13)) rfl rfl
 refine zm rfl <| aW (l := []) 28 (B (((((decide (a1 = ([] : List UInt8))) || (decide (x7 = 43))) || (decide (x11 = 45))) || (decide (x15 = 95))) || x18)) (fun K => ?_) ?_
 ·rcases aj ((((decide (a1 = ([] : List UInt8))) || (decide (x7 = 43))) || (decide (x11 = 45))) || (decide (x15 = 95))) with h17 | h17
  ·refine zF h17 rfl <| zF h17 rfl <| zS rfl (aD (av := .v _) rfl h17 rfl) ?_;exact K _ 2 _ (ay (jA h17)) rfl rfl
  ·refine zM h17 rfl <| zT h17 rfl (aA rfl xB rfl (sE F a1 ([95] : List UInt8) x18 (e19 (nf h17))) ?_);refine zS rfl (aE (av := .v _) rfl h17 rfl) ?_;exact K _ 2 _ (ay (jB h17)) rfl rfl
 refine ag <| ax rfl (fun c20 => ?_) (fun c20 => ?_)
 ·replace H := aX c20 H;refine af <| aa ?_;show AR _ _ _ _ _ [0, 1] _;refine za rfl <| za rfl <| ag <| aG ?_;obtain ⟨rfl, rfl⟩ := dw H;exact And.intro rfl (Exists.intro _ (Exists.intro _ ⟨bk rfl (.refl _) (.refl _), aB [] rfl, rfl, rfl⟩))
 ·replace H := aY c20 H;refine aC <| af ?_;obtain ⟨x21, x22, e23, H⟩ := cF H;refine aa ?_;show AR _ _ _ _ _ [0, 1, 2, 3, 4, 5, 6, 7] _;refine zm rfl <| zm rfl <| am rfl rfl (aA rfl xA rfl (oL F a1 a2 0 x21 x22 e23) ?_);refine zS rfl (ah (av := .tup _) rfl) <| zS rfl (az (av := .v _) rfl rfl) <| zS rfl (az (av := eAny _ _) rfl rfl) <| za rfl <| zS rfl (aH (av := eAny _ _) rfl) <| ag <| af <| af <| aa ?_;show AR _ _ _ _ _ [0, 1] _;refine zS rfl (ah (av := eAny _ _) rfl) <| zS rfl (xr eS rfl rfl) <| ag <| ax rfl (fun c24 => ?_) (fun c24 => ?_)
  ·replace H := aX c24 H;refine af <| aa ?_;show AR _ _ _ _ _ [0, 1] _;refine za rfl <| za rfl <| ag <| aG ?_;obtain ⟨rfl, rfl⟩ := dw H;exact And.intro rfl (Exists.intro _ (Exists.intro _ ⟨bk rfl (.refl _) (.refl _), aB [] rfl, rfl, rfl⟩))
  ·replace H := aY c24 H;refine aC <| af ?_;obtain ⟨x25, x26, e27, H⟩ := cF H;refine aa ?_;show AR _ _ _ _ _ [0, 1, 2, 3, 4, 5] _;refine zm rfl <| am rfl rfl (aA rfl xz rfl (xc F x21 x25 x26 e27) ?_);refine zS rfl (az (av := .v _) rfl rfl) <| zS rfl (az (av := .v _) rfl rfl) <| za rfl <| za rfl <| ag <| aG ?_;obtain ⟨rfl, rfl⟩ := dw H;exact And.intro rfl (Exists.intro _ (Exists.intro _ ⟨bk rfl (.refl _) (.refl _), aB [] rfl, rfl, rfl⟩))
set_option maxRecDepth 100000 in
set_option maxHeartbeats 1000000 in
theorem xa (F : Nat) (a1 : List UInt8) (r2 : List UInt8) (r3 : Bool) (H : iA F a1 = some (r2, r3)) : ACalls Tryz.prog 93 [S a1] [] (Ret (.tup [S r2, B r3]) []) := by
 unfold iA at H
 refine ap Tryz.func93 rfl rfl ?_;show AW _ _ 39 _ _ _;refine af <| aa ?_;show AR _ _ _ _ _ [0, 1] _;refine za rfl <| za rfl <| ag <| af <| af ?_;obtain ⟨x4, e5, H⟩ := bW H;refine aa ?_;show AR _ _ _ _ _ [0, 1, 2, 3, 4, 5, 6, 7] _;refine am rfl rfl (aA rfl zh rfl (vC F x4 e5) ?_);refine zm rfl <| zS rfl (zc eD ai (fun _ => by kernel_rfl) rfl rfl) <| zS rfl (ah (av := .tup _) rfl) <| zS rfl (az (av := .v _) rfl rfl) <| zS rfl (az (av := .v _) rfl rfl) <| za rfl <| za rfl <| ag <| af <| aa ?_;show AR _ _ _ _ _ [0] _;refine zm rfl <| ag <| ax rfl (fun c6 => ?_) (fun c6 => ?_)
 ·replace H := aX c6 H;refine af ?_;obtain ⟨x7, e8, H⟩ := bM H;refine aa ?_;show AR _ _ _ _ _ [0, 1, 2, 3] _;refine zm rfl <| zS rfl (oX Tryz.underlying21 ai rfl e8) <| za rfl <| za rfl <| ag <| aG ?_;obtain ⟨rfl, rfl⟩ := dw H;exact And.intro rfl (Exists.intro _ (Exists.intro _ ⟨bk rfl (.refl _) (.refl _), aB [] rfl, rfl, rfl⟩))
 ·replace H := aY c6 H;refine aC <| af <| af ?_;obtain ⟨x9, e10, H⟩ := bM H;refine aa ?_;show AR _ _ _ _ _ [0, 1, 2, 3, 4, 5, 6] _;refine zm rfl <| am rfl rfl (aA rfl tR rfl (show ACalls _ _ _ [] (Ret (.tup [S x9.1, B x9.2]) []) from by subst e10; exact lU a1 ([35, 120] : List UInt8)) ?_);refine zS rfl (ah (av := .tup _) rfl) <| zS rfl (az (av := .v _) rfl rfl) <| zS rfl (az (av := .v _) rfl rfl) <| za rfl <| za rfl <| ag <| af <| aa ?_;show AR _ _ _ _ _ [0] _;refine zm rfl <| ag <| ax rfl (fun c11 => ?_) (fun c11 => ?_)
  ·replace H := aX c11 H;refine af ?_;obtain ⟨x12, x13, e14, H⟩ := cF H;refine aa ?_;show AR _ _ _ _ _ [0, 1, 2, 3, 4, 5] _;refine zm rfl <| am rfl rfl (aA rfl tP rfl (po F x9.1 16 x12 x13 e14) ?_);refine zS rfl (az (av := .v _) rfl rfl) <| zS rfl (az (av := .v _) rfl rfl) <| za rfl <| za rfl <| ag <| aG ?_;obtain ⟨rfl, rfl⟩ := dw H;exact And.intro rfl (Exists.intro _ (Exists.intro _ ⟨bk rfl (.refl _) (.refl _), aB [] rfl, rfl, rfl⟩))
  ·replace H := aY c11 H;refine aC <| af <| af ?_;obtain ⟨x15, e16, H⟩ := bM H;refine aa ?_;show AR _ _ _ _ _ [0, 1, 2, 3, 4, 5, 6] _;refine zm rfl <| am rfl rfl (aA rfl tR rfl (show ACalls _ _ _ [] (Ret (.tup [S x15.1, B x15.2]) []) from by subst e16; exact lU a1 ([35] : List UInt8)) ?_);refine zS rfl (ah (av := .tup _) rfl) <| zS rfl (az (av := .v _) rfl rfl) <| zS rfl (az (av := .v _) rfl rfl) <| za rfl <| za rfl <| ag <| af <| aa ?_;show AR _ _ _ _ _ [0] _;refine zm rfl <| ag <| ax rfl (fun c17 => ?_) (fun c17 => ?_)
   ·replace H := aX c17 H;refine af ?_;obtain ⟨x18, x19, e20, H⟩ := cF H;refine aa ?_;show AR _ _ _ _ _ [0, 1, 2, 3, 4, 5] _;refine zm rfl <| am rfl rfl (aA rfl tP rfl (po F x15.1 10 x18 x19 e20) ?_);refine zS rfl (az (av := .v _) rfl rfl) <| zS rfl (az (av := .v _) rfl rfl) <| za rfl <| za rfl <| ag <| aG ?_;obtain ⟨rfl, rfl⟩ := dw H;exact And.intro rfl (Exists.intro _ (Exists.intro _ ⟨bk rfl (.refl _) (.refl _), aB [] rfl, rfl, rfl⟩))
   ·replace H := aY c17 H;refine aC <| af <| aa ?_;show AR _ _ _ _ _ [0, 1] _;refine za rfl <| za rfl <| ag <| aG ?_;obtain ⟨rfl, rfl⟩ := dw H;exact And.intro rfl (Exists.intro _ (Exists.intro _ ⟨bk rfl (.refl _) (.refl _), aB [] rfl, rfl, rfl⟩))
set_option maxRecDepth 100000 in
set_option maxHeartbeats 1000000 in
theorem vD (F : Nat) (a1 : List UInt8) (r2 : List UInt8) (r3 : Int) (H : jO F a1 = some (r2, r3)) : ACalls Tryz.prog 82 [S a1] [] (Ret (.tup [S r2, i64 r3]) []) := by
 unfold jO at H
 refine ap Tryz.func82 rfl rfl ?_;show AW _ _ 33 _ _ _;refine af <| aa ?_;show AR _ _ _ _ _ [0, 1] _;refine za rfl <| za rfl <| ag <| af ?_;obtain ⟨g4, H⟩ := aM H;obtain ⟨x5, e6, H⟩ := bM H;obtain ⟨g7, H⟩ := aM H;obtain ⟨g8, H⟩ := aM H;obtain ⟨g9, H⟩ := aM H;obtain ⟨x10, e11, H⟩ := bW H;refine aa ?_;show AR _ _ _ _ _ [0, 1, 2, 3] _;refine zm rfl <| zS rfl (eG ai rfl rfl g4 e6) <| am rfl rfl (aA rfl zj rfl (pv F x5 ([38, 59] : List UInt8) x10 g7 g8 g9 e11) ?_);refine za rfl <| ag <| af <| af ?_;obtain ⟨x12, e13, H⟩ := bW H;obtain ⟨g15, H⟩ := cN H;obtain ⟨g16, H⟩ := cN H;obtain ⟨x17, e18, H⟩ := bM H;refine aa ?_;show AR _ _ _ _ _ [0, 1, 2, 3, 4, 5, 6, 7, 8, 9] _;refine zm rfl <| am rfl rfl (aA rfl nY rfl (pD F x10 1 10 x12 e13) ?_);refine zS rfl (bB rfl) <| zm rfl <| aW (l := []) 19 (B ((!x12) || (decide (x17 = 38)))) (fun K => ?_) ?_
 ·rcases aj (!x12) with h14 | h14
  ·refine zF h14 rfl <| zF h14 rfl <| zF h14 rfl <| zF h14 rfl <| zF h14 rfl <| zS rfl (aD (av := .v _) rfl h14 rfl) ?_;exact K _ 5 _ (ay (jA h14)) rfl rfl
  ·refine zM h14 rfl <| zM h14 rfl <| zU h14 rfl (di rfl rfl (g15 (nf h14))) <| zU h14 rfl (bo ai rfl rfl (g16 (nf h14)) e18) <| zU h14 rfl (jD (a := x17) (b := 38) rfl rfl) <| zS rfl (aE (av := .v _) rfl h14 rfl) ?_;exact K _ 5 _ (ay (jB h14)) rfl rfl
 refine ag <| ax rfl (fun c19 => ?_) (fun c19 => ?_)
 ·replace H := aX c19 H;refine af <| aa ?_;show AR _ _ _ _ _ [0, 1] _;refine za rfl <| za rfl <| ag <| aG ?_;obtain ⟨rfl, rfl⟩ := dw H;exact And.intro rfl (Exists.intro _ (Exists.intro _ ⟨bk rfl (.refl _) (.refl _), aB [] rfl, rfl, rfl⟩))
 ·replace H := aY c19 H;refine aC <| af ?_;obtain ⟨g20, H⟩ := aM H;obtain ⟨g21, H⟩ := aM H;obtain ⟨x22, e23, H⟩ := bM H;obtain ⟨x24, x25, e26, H⟩ := cF H;refine aa ?_;show AR _ _ _ _ _ [0, 1, 2, 3, 4, 5, 6, 7, 8, 9] _;refine zm rfl <| zm rfl <| zS rfl (di rfl rfl g20) <| zS rfl (qG ai rfl rfl rfl g21 e23) <| am rfl rfl (aA rfl zi rfl (xa F x22 x24 x25 e26) ?_);refine zS rfl (ah (av := .tup _) rfl) <| zS rfl (az (av := .v _) rfl rfl) <| zS rfl (az (av := .v _) rfl rfl) <| za rfl <| za rfl <| ag <| af <| af <| aa ?_;show AR _ _ _ _ _ [0, 1] _;refine zm rfl <| zS rfl (bB rfl) <| ag <| ax rfl (fun c27 => ?_) (fun c27 => ?_)
  ·replace H := aX c27 H;refine af <| aa ?_;show AR _ _ _ _ _ [0, 1] _;refine za rfl <| za rfl <| ag <| aG ?_;obtain ⟨rfl, rfl⟩ := dw H;exact And.intro rfl (Exists.intro _ (Exists.intro _ ⟨bk rfl (.refl _) (.refl _), aB [] rfl, rfl, rfl⟩))
  ·replace H := aY c27 H;refine aC <| af ?_;obtain ⟨g28, H⟩ := aM H;refine aa ?_;show AR _ _ _ _ _ [0, 1, 2, 3, 4] _;refine zm rfl <| zm rfl <| zS rfl (di rfl rfl g28) <| za rfl <| za rfl <| ag <| aG ?_;obtain ⟨rfl, rfl⟩ := dw H;exact And.intro rfl (Exists.intro _ (Exists.intro _ ⟨bk rfl (.refl _) (.refl _), aB [] rfl, rfl, rfl⟩))
set_option maxRecDepth 100000 in
set_option maxHeartbeats 1000000 in
theorem xb (F : Nat) (a1 : List UInt8) (r2 : List UInt8) (r3 : Bool) (H : nT F a1 = some (r2, r3)) : ACalls Tryz.prog 70 [S a1] [] (Ret (.tup [S r2, B r3]) []) := by
 unfold nT at H
 refine ap Tryz.func70 rfl rfl ?_;show AW _ _ 36 _ _ _;refine af <| aa ?_;show AR _ _ _ _ _ [0, 1] _;refine za rfl <| za rfl <| ag <| af <| aa ?_;show AR _ _ _ _ _ [0] _;refine zX rfl (oW (zs := [(.pointer none), .slice none 0 0]) (by kernel_rfl)) ?_;rintro _ _ ⟨o4, rfl, rfl⟩;refine ag ?_
 refine js 0 1 1 5 rfl rfl fun t5 => ?_
 show AW _ _ _ _ _ ⟨_, _, [.tok t5 5, .obj o4 [.v (.pointer none), slE Enc.byte [] (some t5)], .ty o4 51]⟩;refine af <| aa ?_;show AR _ _ _ _ _ [0] _;refine za rfl <| ag <| aU <| dk (X := Nat × (List UInt8) × Bool × AV × (List UInt8) × Nat) (fun (n12, y6, y7, t8, y9, t10) => ⟨[(0, S y6), (4, .pt o4 0), (5, B y7)], [], [.obj o4 [t8, slE Enc.byte y9 (some t10)], .ty o4 51, .tok t10 5]⟩) (fun (n12, y6, y7, t8, y9, t10) => eT F n12 (y6, y7, y9) = some (r2, r3) ∧ (t8 = .v (.pointer none) ∨ t8 = .pt o4 0)) (fun (n12, y6, y7, t8, y9, t10) => n12) (F, a1, true, (.v (.pointer none)), [], t5) ⟨H, .inl rfl⟩ (be [1, 1, 0] (.cons (.refl _) (.cons (.refl _) (.cons (.refl _) (.nil _)))) rfl) ?_;rintro ⟨n12, y6, y7, t8, y9, t10⟩ ⟨H, ht8⟩;obtain ⟨n12, rfl, H⟩ := fC H;replace H : gE F (eT F n12) y6 y7 y9 = some (r2, r3) := H
 unfold gE at H
 refine aU <| af ?_;obtain ⟨x13, e14, H⟩ := bM H;refine aa ?_;show AR _ _ _ _ _ [0, 1, 2] _;refine zm rfl <| am rfl rfl (aA rfl zz rfl (show ACalls _ _ _ [] (Ret (i64 x13) []) from by subst e14; exact eX y6 38) ?_);refine za rfl <| ag <| af <| af <| aa ?_;show AR _ _ _ _ _ [0, 1] _;refine zm rfl <| zS rfl (cd rfl rfl) <| ag <| ax rfl (fun c15 => ?_) (fun c15 => ?_)
 ·replace H := aX c15 H;refine af ?_;obtain ⟨g16, H⟩ := aM H;obtain ⟨x17, e18, H⟩ := bM H;refine aa ?_;show AR _ _ _ _ _ [0, 1] _;refine zm rfl <| am rfl rfl (aQ [0, 0, 0] rfl qo rfl (cC  o4 (t8) ht8 y9 y6 t10 (wQ g16)) rfl (fun c A' h => by cases h.1) ?_)
  rintro av A' ⟨h, t19, rfl⟩; cases h
  rw [e18]
  refine ag <| af ?_;obtain ⟨g20, H⟩ := aM H;refine aa ?_;show AR _ _ _ _ _ [0, 1, 2, 3] _;refine am rfl rfl (aQ [0, 1] rfl zD rfl (kD  o4 (.pt o4 0) x17 t19 (okW0_s g20)) rfl (fun c A' h => by cases h.1) ?_)
  rintro av A' ⟨h, rfl⟩; cases h
  refine zm rfl <| za rfl <| za rfl <| ag <| aG ?_;obtain ⟨rfl, rfl⟩ := dw H;exact And.intro rfl (Exists.intro _ (Exists.intro _ ⟨bk rfl (.refl _) (.refl _), aB [] rfl, rfl, rfl⟩))
 ·replace H := aY c15 H;refine aC <| af ?_;obtain ⟨g21, H⟩ := aM H;obtain ⟨x22, e23, H⟩ := bM H;obtain ⟨g24, H⟩ := aM H;obtain ⟨x25, e26, H⟩ := bM H;refine aa ?_;show AR _ _ _ _ _ [0, 1, 2, 3] _;refine zm rfl <| zm rfl <| zS rfl (lx ai rfl rfl g21 e23) <| am rfl rfl (aQ [0, 0, 0] rfl qo rfl (cC  o4 (t8) ht8 y9 x22 t10 (wQ g24)) rfl (fun c A' h => by cases h.1) ?_)
  rintro av A' ⟨h, t27, rfl⟩; cases h
  rw [e26]
  refine ag <| af ?_;obtain ⟨g28, H⟩ := aM H;obtain ⟨x29, e30, H⟩ := bM H;refine aa ?_;show AR _ _ _ _ _ [0, 1, 2, 3] _;refine zm rfl <| zm rfl <| zS rfl (eG ai rfl rfl g28 e30) <| za rfl <| ag <| af ?_;obtain ⟨x31, x32, e33, H⟩ := cF H;refine aa ?_;show AR _ _ _ _ _ [0, 1, 2, 3, 4, 5, 6] _;refine zm rfl <| am rfl rfl (aA rfl zl rfl (vD F x29 x31 x32 e33) ?_);refine zS rfl (ah (av := .tup _) rfl) <| zS rfl (az (av := .v _) rfl rfl) <| zS rfl (az (av := .v _) rfl rfl) <| za rfl <| za rfl <| ag <| bL (X := Bool × (List UInt8) × Int) (fun (y35, y36, y37) => ⟨[(0, S x29), (4, .pt o4 0), (5, B y35), (7, S y36), (8, i64 y37)], [], [.obj o4 [.pt o4 0, slE Enc.byte x25 (some t27)], .ty o4 51, .tok t27 5]⟩) (fun (y35, y36, y37) => gD (eT F n12) x25 x29 y35 y36 y37 = some (r2, r3)) ?_ ?_
  ·refine af <| aa ?_;show AR _ _ _ _ _ [0, 1] _;refine zm rfl <| zS rfl (bJ rfl rfl) <| ag <| ax rfl (fun c34 => ?_) (fun c34 => ?_)
   ·replace H := aX c34 H;refine aa ?_;show AR _ _ _ _ _ [0, 1, 2] _;refine za rfl <| za rfl <| za rfl <| ag ?_;exact Exists.intro (false, ([38] : List UInt8), 1) ⟨H, be [0, 0, 0] (.cons (.refl _) (.cons (.refl _) (.cons (.refl _) (.cons (.refl _) (.cons (.refl _) (.nil _)))))) rfl⟩
   ·replace H := aY c34 H;refine aC ?_;exact Exists.intro (y7, x31, x32) ⟨H, be [0, 0, 0] (.cons (.refl _) (.cons (.refl _) (.cons (.refl _) (.cons (.refl _) (.cons (.refl _) (.nil _)))))) rfl⟩
  rintro ⟨y35, y36, y37⟩ H;replace H : gD (eT F n12) x25 x29 y35 y36 y37 = some (r2, r3) := H
  unfold gD at H
  refine af ?_;obtain ⟨g39, H⟩ := aM H;obtain ⟨x40, e41, H⟩ := bM H;refine aa ?_;show AR _ _ _ _ _ [0, 1] _;refine zm rfl <| am rfl rfl (aQ [0, 0, 0] rfl qo rfl (cC  o4 (.pt o4 0) (.inr rfl) x25 y36 t27 (wQ g39)) rfl (fun c A' h => by cases h.1) ?_)
  rintro av A' ⟨h, t42, rfl⟩; cases h
  rw [e41]
  refine ag ?_;obtain ⟨g43, H⟩ := aM H;obtain ⟨x44, e45, H⟩ := bM H;refine aa ?_;show AR _ _ _ _ _ [0, 1, 2, 3] _;refine zm rfl <| zm rfl <| zS rfl (eG ai rfl rfl g43 e45) <| za rfl <| ag ?_;exact Exists.intro (n12, x44, y35, (.pt o4 0), x40, t42) ⟨⟨H, .inr rfl⟩, Nat.lt_succ_self _, be [0, 0, 0] (.cons (.refl _) (.cons (.refl _) (.cons (.refl _) (.nil _)))) rfl⟩
set_option maxRecDepth 100000 in
set_option maxHeartbeats 1000000 in
theorem uE (F : Nat) (a1 : List UInt8) (r2 : List UInt8) (r3 : Int) (H : lm F a1 = some (r2, r3)) : ACalls Tryz.prog 60 [S a1] [] (Ret (.tup [S r2, i64 r3]) []) := by
 unfold lm at H
 refine ap Tryz.func60 rfl rfl ?_;show AW _ _ 14 _ _ _;refine af <| aa ?_;show AR _ _ _ _ _ [0, 1] _;refine za rfl <| za rfl <| ag <| af ?_;obtain ⟨x4, x5, e6, H⟩ := cF H;refine aa ?_;show AR _ _ _ _ _ [0, 1, 2, 3, 4, 5, 6] _;refine zm rfl <| am rfl rfl (aA rfl zp rfl (xb F a1 x4 x5 e6) ?_);refine zS rfl (ah (av := .tup _) rfl) <| zS rfl (az (av := .v _) rfl rfl) <| zS rfl (az (av := .v _) rfl rfl) <| za rfl <| za rfl <| ag <| af <| af <| aa ?_;show AR _ _ _ _ _ [0, 1] _;refine zm rfl <| zS rfl (bB rfl) <| ag <| ax rfl (fun c7 => ?_) (fun c7 => ?_)
 ·replace H := aX c7 H;refine af <| aa ?_;show AR _ _ _ _ _ [0, 1] _;refine za rfl <| za rfl <| ag <| aG ?_;obtain ⟨rfl, rfl⟩ := dw H;exact And.intro rfl (Exists.intro _ (Exists.intro _ ⟨bk rfl (.refl _) (.refl _), aB [] rfl, rfl, rfl⟩))
 ·replace H := aY c7 H;refine aC <| af <| aa ?_;show AR _ _ _ _ _ [0, 1, 2] _;refine zm rfl <| za rfl <| za rfl <| ag <| aG ?_;obtain ⟨rfl, rfl⟩ := dw H;exact And.intro rfl (Exists.intro _ (Exists.intro _ ⟨bk rfl (.refl _) (.refl _), aB [] rfl, rfl, rfl⟩))
end Go.Proofs.YtkbfjepffpddfaaGreatDoor
namespace Go.Pv
def xmla_k1 : List UInt8 := [65, 66, 67, 68, 69, 70, 71, 72, 73, 74, 75, 76, 77, 78, 79, 80, 81, 82, 83, 84, 85, 86, 87, 88, 89, 90, 97, 98, 99, 100, 101, 102, 103, 104, 105, 106, 107, 108, 109, 110, 111, 112, 113, 114, 115, 116, 117, 118, 119, 120, 121, 122, 95, 48, 49, 50, 51, 52, 53, 54, 55, 56, 57, 45, 46, 58]
def xmla_k2 : List UInt8 := [65, 66, 67, 68, 69, 70, 71, 72, 73, 74, 75, 76, 77, 78, 79, 80, 81, 82, 83, 84, 85, 86, 87, 88, 89, 90, 97, 98, 99, 100, 101, 102, 103, 104, 105, 106, 107, 108, 109, 110, 111, 112, 113, 114, 115, 116, 117, 118, 119, 120, 121, 122, 95]
def lH : Option Bool :=
some true
def kb (a1 : List UInt8) (rec4 : Int → Option Bool) (y3 : Int) : Option Bool :=
bif decide (y3 < (a1.length : Int)) then
  grd (dq y3 a1.length) <|
  lt (at_ a1 y3) fun x8 =>
  lt (Go.Lib.indexByte xmla_k1 x8) fun x10 =>
  bif decide (x10 < 0) then
    some false
  else
    grd (okI (y3 + 1)) <|
    rec4 (y3 + 1)
else
  lH
def ka (a1 : List UInt8) (n : Nat) : Int → Option Bool :=
  loop (fun rec x => kb a1 rec x) n
def pB (F : Nat) (a1 : List UInt8) : Option Bool :=
ka a1 F 0
def pN (F : Nat) (a1 : List UInt8) : Option Bool :=
fv ((!decide (a1 = ([] : List UInt8))) && (decide ((a1.length : Int) ≤ 60))) (kF 1 a1.length) <|
lt (to_ a1 1) fun x6 =>
fv ((!decide (a1 = ([] : List UInt8))) && (decide ((a1.length : Int) ≤ 60))) (okS xmla_k2.length) <|
lt (Go.Lib.contains xmla_k2 x6) fun x9 =>
fv (((!decide (a1 = ([] : List UInt8))) && (decide ((a1.length : Int) ≤ 60))) && x9) (okS a1.length) <|
fv (((!decide (a1 = ([] : List UInt8))) && (decide ((a1.length : Int) ≤ 60))) && x9) (okS xmla_k1.length) <|
fv (((!decide (a1 = ([] : List UInt8))) && (decide ((a1.length : Int) ≤ 60))) && x9) (jf xmla_k1) <|
lt (Go.Lib.trimS a1 xmla_k1) fun x15 =>
lE ((((!decide (a1 = ([] : List UInt8))) && (decide ((a1.length : Int) ≤ 60))) && x9) && (decide (x15 = ([] : List UInt8)))) (pB F a1) fun x18 =>
some (((((!decide (a1 = ([] : List UInt8))) && (decide ((a1.length : Int) ≤ 60))) && x9) && (decide (x15 = ([] : List UInt8)))) && x18)
def cI (F : Nat) (a1 : Bool) : Option (Res Unit) :=
bif !a1 then
  some (Res.pan 2)
else
  some (Res.ok ())
def fk (F : Nat) (a2 : List UInt8) (a3 : List (List UInt8)) (a5 : Int) (a6 : List (Int × (List UInt8) × (List UInt8) × List ((List UInt8) × List UInt8))) (a8 : List UInt8) : Option (Bool × (List UInt8)) :=
lt (Go.Lib.trimPrefix a2 a8, Go.Lib.hasPrefix a2 a8) fun x11 =>
some (x11.2, x11.1)
def iP (F : Nat) (a2 : List UInt8) (a3 : List (List UInt8)) (a5 : Int) (a6 : List (Int × (List UInt8) × (List UInt8) × List ((List UInt8) × List UInt8))) (a8 : List UInt8) : Option (Res ((List UInt8) × (List UInt8))) :=
grd (okS a2.length) <|
lt (Go.Lib.cut a2 a8) fun x12 =>
eI (cI F x12.2.2) fun x14 =>
some (Res.ok (x12.1, x12.2.1))
def kS (F : Nat) (a2 : List UInt8) (a3 : List (List UInt8)) (a5 : Int) (a6 : List (Int × (List UInt8) × (List UInt8) × List ((List UInt8) × List UInt8))) : Option (Bool × (List UInt8)) :=
grd (okS ([9, 10, 13, 32] : List UInt8).length) <|
grd (jf ([9, 10, 13, 32] : List UInt8)) <|
lt (Go.Lib.trimLeftS a2 ([9, 10, 13, 32] : List UInt8)) fun x12 =>
some (decide ((x12.length : Int) < (a2.length : Int)), x12)
def jE (F : Nat) (a2 : List UInt8) (y21 : Int) : Option (Res ((List UInt8) × (List UInt8))) :=
grd (kF y21 a2.length) <|
lt (to_ a2 y21) fun x24 =>
bnd (pN F x24) fun x26 =>
eI (cI F x26) fun x28 =>
grd (kF y21 a2.length) <|
lt (cV a2 y21) fun x32 =>
some (Res.ok (x24, x32))
def ld (F : Nat) (a2 : List UInt8) (rec11 : Int → Option (Res ((List UInt8) × (List UInt8)))) (y10 : Int) : Option (Res ((List UInt8) × (List UInt8))) :=
fv (decide (y10 < (a2.length : Int))) (dq y10 a2.length) <|
lt (at_ a2 y10) fun x15 =>
lt (Go.Lib.indexByte xmla_k1 x15) fun x17 =>
bif (decide (y10 < (a2.length : Int))) && (decide (0 ≤ x17)) then
  grd (okI (y10 + 1)) <|
  rec11 (y10 + 1)
else
  jE F a2 y10
def lc (F : Nat) (a2 : List UInt8) (n : Nat) : Int → Option (Res ((List UInt8) × (List UInt8))) :=
  loop (fun rec x => ld F a2 rec x) n
def lX (F : Nat) (a2 : List UInt8) (a3 : List (List UInt8)) (a5 : Int) (a6 : List (Int × (List UInt8) × (List UInt8) × List ((List UInt8) × List UInt8))) : Option (Res ((List UInt8) × (List UInt8))) :=
lc F a2 F 0
def jb (F : Nat) (a1 : List UInt8) : Option (Res ((List UInt8))) :=
fy (lm F a1) fun x3 x4 =>
eI (cI F (decide (x4 = 0))) fun x6 =>
some (Res.ok x3)
def oq (F : Nat) (a2 : List UInt8) (a3 : List (List UInt8)) (a5 : Int) (a6 : List (Int × (List UInt8) × (List UInt8) × List ((List UInt8) × List UInt8))) (a8 : List UInt8) : Option ((List (Int × (List UInt8) × (List UInt8) × List ((List UInt8) × List UInt8)))) :=
bif !decide (a8 = ([] : List UInt8)) then
  grd (dU (a6.length + ([(2, ([] : List UInt8), a8, ([] : List ((List UInt8) × List UInt8)))] : List (Int × (List UInt8) × (List UInt8) × List ((List UInt8) × List UInt8))).length)) <|
  lt (a6 ++ ([(2, ([] : List UInt8), a8, ([] : List ((List UInt8) × List UInt8)))] : List (Int × (List UInt8) × (List UInt8) × List ((List UInt8) × List UInt8)))) fun x14 =>
  some x14
else
  some a6
def lW (F : Nat) (a2 : List UInt8) (a3 : List (List UInt8)) (a5 : Int) (a6 : List (Int × (List UInt8) × (List UInt8) × List ((List UInt8) × List UInt8))) (a8 : List UInt8) : Option (Res ((List (Int × (List UInt8) × (List UInt8) × List ((List UInt8) × List UInt8))) × (List (List UInt8)))) :=
grd (okI ((a3.length : Int) - 1)) <|
fv (decide (0 ≤ (a3.length : Int) - 1)) (dq ((a3.length : Int) - 1) a3.length) <|
fv (decide (0 ≤ (a3.length : Int) - 1)) (dq ((a3.length : Int) - 1) a3.length) <|
lt (at_ a3 ((a3.length : Int) - 1)) fun x17 =>
eI (cI F ((decide (0 ≤ (a3.length : Int) - 1)) && (decide (x17 = a8)))) fun x19 =>
grd (kF ((a3.length : Int) - 1) a3.length) <|
lt (to_ a3 ((a3.length : Int) - 1)) fun x23 =>
grd (dU (a6.length + ([(1, a8, ([] : List UInt8), ([] : List ((List UInt8) × List UInt8)))] : List (Int × (List UInt8) × (List UInt8) × List ((List UInt8) × List UInt8))).length)) <|
lt (a6 ++ ([(1, a8, ([] : List UInt8), ([] : List ((List UInt8) × List UInt8)))] : List (Int × (List UInt8) × (List UInt8) × List ((List UInt8) × List UInt8)))) fun x27 =>
some (Res.ok (x27, x23))
def fK (F : Nat) (a2 : List UInt8) (a3 : List (List UInt8)) (a5 : Int) (a6 : List (Int × (List UInt8) × (List UInt8) × List ((List UInt8) × List UInt8))) (y15 : Int) : Option (Res (Bool × (List UInt8) × (List (Int × (List UInt8) × (List UInt8) × List ((List UInt8) × List UInt8))))) :=
bif decide (y15 = 0) then
  some (Res.ok (false, a2, a6))
else
  grd (kF y15 a2.length) <|
  lt (to_ a2 y15) fun x19 =>
  grd (kF y15 a2.length) <|
  lt (cV a2 y15) fun x22 =>
  eI (jb F x19) fun x24 =>
  bif decide ((a3.length : Int) = 0) then
    bnd (mG F x19) fun x28 =>
    eI (cI F (decide (x28 = ([] : List UInt8)))) fun x30 =>
    some (Res.ok (true, x22, a6))
  else
    bnd (oq F x22 a3 a5 a6 x24) fun x33 =>
    some (Res.ok (true, x22, x33))
def jt (F : Nat) (a2 : List UInt8) (a3 : List (List UInt8)) (a5 : Int) (a6 : List (Int × (List UInt8) × (List UInt8) × List ((List UInt8) × List UInt8))) : Option (Res (Bool × (List UInt8) × (List (Int × (List UInt8) × (List UInt8) × List ((List UInt8) × List UInt8))))) :=
lt (Go.Lib.indexByte a2 60) fun x12 =>
bif decide (x12 < 0) then
  fK F a2 a3 a5 a6 (a2.length : Int)
else
  fK F a2 a3 a5 a6 x12
def jF (F : Nat) (a2 : List UInt8) (a3 : List (List UInt8)) (a5 : Int) (a6 : List (Int × (List UInt8) × (List UInt8) × List ((List UInt8) × List UInt8))) : Option (Res (Bool × (List UInt8))) :=
fy (fk F a2 a3 a5 a6 ([60, 33, 45, 45] : List UInt8)) fun x10 x11 =>
bif !x10 then
  some (Res.ok (false, x11))
else
  eI (iP F x11 a3 a5 a6 ([45, 45, 62] : List UInt8)) fun x14 =>
  some (Res.ok (true, x14.2))
def qO (F : Nat) (a2 : List UInt8) (a3 : List (List UInt8)) (a5 : Int) (a6 : List (Int × (List UInt8) × (List UInt8) × List ((List UInt8) × List UInt8))) : Option (Res (Bool × (List UInt8))) :=
fy (fk F a2 a3 a5 a6 ([60, 63] : List UInt8)) fun x10 x11 =>
bif !x10 then
  some (Res.ok (false, x11))
else
  eI (iP F x11 a3 a5 a6 ([63, 62] : List UInt8)) fun x14 =>
  some (Res.ok (true, x14.2))
def lY (F : Nat) (a2 : List UInt8) (a3 : List (List UInt8)) (a5 : Int) (a6 : List (Int × (List UInt8) × (List UInt8) × List ((List UInt8) × List UInt8))) : Option (Res (Bool × (List UInt8) × (List (Int × (List UInt8) × (List UInt8) × List ((List UInt8) × List UInt8))))) :=
fy (fk F a2 a3 a5 a6 ([60, 33, 91, 67, 68, 65, 84, 65, 91] : List UInt8)) fun x12 x13 =>
bif !x12 then
  some (Res.ok (false, x13, a6))
else
  eI (iP F x13 a3 a5 a6 ([93, 93, 62] : List UInt8)) fun x16 =>
  eI (cI F (decide (0 < (a3.length : Int)))) fun x19 =>
  bnd (oq F x16.2 a3 a5 a6 x16.1) fun x22 =>
  some (Res.ok (true, x16.2, x22))
def qN (F : Nat) (a2 : List UInt8) (a3 : List (List UInt8)) (a5 : Int) (a6 : List (Int × (List UInt8) × (List UInt8) × List ((List UInt8) × List UInt8))) : Option (Res (Bool × (List UInt8))) :=
fy (fk F a2 a3 a5 a6 ([60, 33] : List UInt8)) fun x10 x11 =>
bif !x10 then
  some (Res.ok (false, x11))
else
  eI (iP F x11 a3 a5 a6 ([62] : List UInt8)) fun x14 =>
  some (Res.ok (true, x14.2))
def ja (F : Nat) (a2 : List UInt8) (a3 : List (List UInt8)) (a5 : Int) (a6 : List (Int × (List UInt8) × (List UInt8) × List ((List UInt8) × List UInt8))) : Option (Res (Bool × (List UInt8) × (List (Int × (List UInt8) × (List UInt8) × List ((List UInt8) × List UInt8))) × (List (List UInt8)))) :=
fy (fk F a2 a3 a5 a6 ([60, 47] : List UInt8)) fun x14 x15 =>
bif !x14 then
  some (Res.ok (false, x15, a6, a3))
else
  eI (lX F x15 a3 a5 a6) fun x18 =>
  fy (kS F x18.2 a3 a5 a6) fun x21 x22 =>
  fy (fk F x22 a3 a5 a6 ([62] : List UInt8)) fun x24 x25 =>
  eI (cI F x24) fun x27 =>
  eI (lW F x25 a3 a5 a6 x18.1) fun x30 =>
  some (Res.ok (true, x25, x30.1, x30.2))
def iE (F : Nat) (a3 : List (List UInt8)) (a5 : Int) (a6 : List (Int × (List UInt8) × (List UInt8) × List ((List UInt8) × List UInt8))) (x12 : (List UInt8) × (List UInt8)) (y26 : List UInt8) (y27 : List UInt8) : Option (Res ((List UInt8) × (List UInt8) × (List UInt8))) :=
eI (iP F y27 a3 a5 a6 y26) fun x29 =>
grd (okS x29.1.length) <|
lt (Go.Lib.contains x29.1 ([60] : List UInt8)) fun x33 =>
eI (cI F (!x33)) fun x35 =>
eI (jb F x29.1) fun x38 =>
some (Res.ok (x12.1, x38, x29.2))
def nd (F : Nat) (a2 : List UInt8) (a3 : List (List UInt8)) (a5 : Int) (a6 : List (Int × (List UInt8) × (List UInt8) × List ((List UInt8) × List UInt8))) : Option (Res ((List UInt8) × (List UInt8) × (List UInt8))) :=
eI (lX F a2 a3 a5 a6) fun x12 =>
fy (fk F x12.2 a3 a5 a6 ([61, 34] : List UInt8)) fun x16 x17 =>
bif !x16 then
  fy (fk F x17 a3 a5 a6 ([61, 39] : List UInt8)) fun x20 x21 =>
  eI (cI F x20) fun x23 =>
  iE F a3 a5 a6 x12 ([39] : List UInt8) x21
else
  iE F a3 a5 a6 x12 ([34] : List UInt8) x17
def pC (F : Nat) (a1 : List UInt8) (a2 : List UInt8) (a4 : List UInt8) (a5 : List UInt8) : Option Bool :=
some (decide (a4 = a1))
def ip : Option Int :=
some (-1)
def fV (F : Nat) (a1 : List ((List UInt8) × List UInt8)) (a4 : List UInt8) (a5 : List UInt8) (rec8 : Int → Option Int) (y7 : Int) : Option Int :=
bif decide (y7 < (a1.length : Int)) then
  grd (dq y7 a1.length) <|
  lt (at_ a1 y7) fun x12 =>
  bnd (pC F x12.1 x12.2 a4 a5) fun x14 =>
  bif x14 then
    some y7
  else
    grd (okI (y7 + 1)) <|
    rec8 (y7 + 1)
else
  ip
def eK (F : Nat) (a1 : List ((List UInt8) × List UInt8)) (a4 : List UInt8) (a5 : List UInt8) (n : Nat) : Int → Option Int :=
  loop (fun rec x => fV F a1 a4 a5 rec x) n
def kK (F : Nat) (a1 : List ((List UInt8) × List UInt8)) (a4 : List UInt8) (a5 : List UInt8) : Option Int :=
eK F a1 a4 a5 F 0
def fW (F : Nat) (a1 : List ((List UInt8) × List UInt8)) (a4 : List UInt8) (a5 : List UInt8) : Option Bool :=
bnd (kK F a1 a4 a5) fun x7 =>
some (decide (0 ≤ x7))
def ge (y57 : List UInt8) (y66 : Int) (y97 : List (List UInt8)) (y98 : List (Int × (List UInt8) × (List UInt8) × List ((List UInt8) × List UInt8))) : Option (Res (Bool × (List UInt8) × Int × (List (Int × (List UInt8) × (List UInt8) × List ((List UInt8) × List UInt8))) × (List (List UInt8)))) :=
some (Res.ok (true, y57, y66, y98, y97))
def gZ (F : Nat) (x19 : (List UInt8) × (List UInt8)) (y56 : Bool) (y57 : List UInt8) (y66 : Int) (y79 : List (List UInt8)) (y87 : List (Int × (List UInt8) × (List UInt8) × List ((List UInt8) × List UInt8))) : Option (Res (Bool × (List UInt8) × Int × (List (Int × (List UInt8) × (List UInt8) × List ((List UInt8) × List UInt8))) × (List (List UInt8)))) :=
bif y56 then
  eI (lW F y57 y79 y66 y87 x19.1) fun x91 =>
  ge y57 y66 x91.2 x91.1
else
  ge y57 y66 y79 y87
def gY (F : Nat) (a6 : List (Int × (List UInt8) × (List UInt8) × List ((List UInt8) × List UInt8))) (x19 : (List UInt8) × (List UInt8)) (y56 : Bool) (y57 : List UInt8) (y58 : List ((List UInt8) × List UInt8)) (y66 : Int) (y79 : List (List UInt8)) : Option (Res (Bool × (List UInt8) × Int × (List (Int × (List UInt8) × (List UInt8) × List ((List UInt8) × List UInt8))) × (List (List UInt8)))) :=
grd (dU (a6.length + ([(0, x19.1, ([] : List UInt8), y58)] : List (Int × (List UInt8) × (List UInt8) × List ((List UInt8) × List UInt8))).length)) <|
lt (a6 ++ ([(0, x19.1, ([] : List UInt8), y58)] : List (Int × (List UInt8) × (List UInt8) × List ((List UInt8) × List UInt8)))) fun x83 =>
gZ F x19 y56 y57 y66 y79 x83
def gX (F : Nat) (a6 : List (Int × (List UInt8) × (List UInt8) × List ((List UInt8) × List UInt8))) (x19 : (List UInt8) × (List UInt8)) (y56 : Bool) (y57 : List UInt8) (y58 : List ((List UInt8) × List UInt8)) (y66 : Int) (y75 : List (List UInt8)) : Option (Res (Bool × (List UInt8) × Int × (List (Int × (List UInt8) × (List UInt8) × List ((List UInt8) × List UInt8))) × (List (List UInt8)))) :=
bif decide (20 < (y75.length : Int)) then
  some (Res.pan 5)
else
  gY F a6 x19 y56 y57 y58 y66 y75
def eW (F : Nat) (a3 : List (List UInt8)) (a6 : List (Int × (List UInt8) × (List UInt8) × List ((List UInt8) × List UInt8))) (x19 : (List UInt8) × (List UInt8)) (y56 : Bool) (y57 : List UInt8) (y58 : List ((List UInt8) × List UInt8)) (y66 : Int) : Option (Res (Bool × (List UInt8) × Int × (List (Int × (List UInt8) × (List UInt8) × List ((List UInt8) × List UInt8))) × (List (List UInt8)))) :=
grd (dU (a3.length + ([x19.1] : List (List UInt8)).length)) <|
lt (a3 ++ ([x19.1] : List (List UInt8))) fun x69 =>
gX F a6 x19 y56 y57 y58 y66 x69
def eV (F : Nat) (a3 : List (List UInt8)) (a5 : Int) (a6 : List (Int × (List UInt8) × (List UInt8) × List ((List UInt8) × List UInt8))) (x19 : (List UInt8) × (List UInt8)) (y56 : Bool) (y57 : List UInt8) (y58 : List ((List UInt8) × List UInt8)) : Option (Res (Bool × (List UInt8) × Int × (List (Int × (List UInt8) × (List UInt8) × List ((List UInt8) × List UInt8))) × (List (List UInt8)))) :=
bif decide ((a3.length : Int) = 0) then
  grd (okI (a5 + 1)) <|
  eI (cI F (decide (a5 + 1 = 1))) fun x63 =>
  eW F a3 a6 x19 y56 y57 y58 (a5 + 1)
else
  eW F a3 a6 x19 y56 y57 y58 a5
def hH (F : Nat) (a3 : List (List UInt8)) (a5 : Int) (a6 : List (Int × (List UInt8) × (List UInt8) × List ((List UInt8) × List UInt8))) (x19 : (List UInt8) × (List UInt8)) (rec27 : ((List ((List UInt8) × List UInt8)) × (List UInt8)) → Option (Res (Bool × (List UInt8) × Int × (List (Int × (List UInt8) × (List UInt8) × List ((List UInt8) × List UInt8))) × (List (List UInt8))))) (y24 : List ((List UInt8) × List UInt8)) (y26 : List UInt8) : Option (Res (Bool × (List UInt8) × Int × (List (Int × (List UInt8) × (List UInt8) × List ((List UInt8) × List UInt8))) × (List (List UInt8)))) :=
fy (kS F y26 a3 a5 a6) fun x29 x30 =>
fy (fk F x30 a3 a5 a6 ([62] : List UInt8)) fun x32 x33 =>
bif x32 then
  eV F a3 a5 a6 x19 false x33 y24
else
  fy (fk F x33 a3 a5 a6 ([47, 62] : List UInt8)) fun x36 x37 =>
  bif x36 then
    eV F a3 a5 a6 x19 true x37 y24
  else
    eI (cI F x29) fun x40 =>
    eI (nd F x37 a3 a5 a6) fun x43 =>
    bnd (fW F y24 x43.1 x43.2.1) fun x47 =>
    eI (cI F (!x47)) fun x49 =>
    grd (dU (y24.length + ([(x43.1, x43.2.1)] : List ((List UInt8) × List UInt8)).length)) <|
    lt (y24 ++ ([(x43.1, x43.2.1)] : List ((List UInt8) × List UInt8))) fun x54 =>
    rec27 (x54, x43.2.2)
def hC (F : Nat) (a3 : List (List UInt8)) (a5 : Int) (a6 : List (Int × (List UInt8) × (List UInt8) × List ((List UInt8) × List UInt8))) (x19 : (List UInt8) × (List UInt8)) (n : Nat) : ((List ((List UInt8) × List UInt8)) × (List UInt8)) → Option (Res (Bool × (List UInt8) × Int × (List (Int × (List UInt8) × (List UInt8) × List ((List UInt8) × List UInt8))) × (List (List UInt8)))) :=
  loop (fun rec x => hH F a3 a5 a6 x19 rec x.1 x.2) n
def iC (F : Nat) (a2 : List UInt8) (a3 : List (List UInt8)) (a5 : Int) (a6 : List (Int × (List UInt8) × (List UInt8) × List ((List UInt8) × List UInt8))) : Option (Res (Bool × (List UInt8) × Int × (List (Int × (List UInt8) × (List UInt8) × List ((List UInt8) × List UInt8))) × (List (List UInt8)))) :=
fy (fk F a2 a3 a5 a6 ([60] : List UInt8)) fun x15 x16 =>
bif !x15 then
  some (Res.ok (false, x16, a5, a6, a3))
else
  eI (lX F x16 a3 a5 a6) fun x19 =>
  hC F a3 a5 a6 x19 F ([], x19.2)
def nc (F : Nat) (a2 : List UInt8) (a3 : List (List UInt8)) (a5 : Int) (a6 : List (Int × (List UInt8) × (List UInt8) × List ((List UInt8) × List UInt8))) : Option (Res ((List UInt8) × Int × (List (Int × (List UInt8) × (List UInt8) × List ((List UInt8) × List UInt8))) × (List (List UInt8)))) :=
eI (jt F a2 a3 a5 a6) fun x14 =>
bif x14.1 then
  some (Res.ok (x14.2.1, a5, x14.2.2, a3))
else
  eI (jF F x14.2.1 a3 a5 x14.2.2) fun x19 =>
  bif x19.1 then
    some (Res.ok (x19.2, a5, x14.2.2, a3))
  else
    eI (qO F x19.2 a3 a5 x14.2.2) fun x23 =>
    bif x23.1 then
      some (Res.ok (x23.2, a5, x14.2.2, a3))
    else
      eI (lY F x23.2 a3 a5 x14.2.2) fun x27 =>
      bif x27.1 then
        some (Res.ok (x27.2.1, a5, x27.2.2, a3))
      else
        eI (qN F x27.2.1 a3 a5 x27.2.2) fun x32 =>
        bif x32.1 then
          some (Res.ok (x32.2, a5, x27.2.2, a3))
        else
          eI (ja F x32.2 a3 a5 x27.2.2) fun x36 =>
          bif x36.1 then
            some (Res.ok (x36.2.1, a5, x36.2.2.1, x36.2.2.2))
          else
            eI (iC F x36.2.1 x36.2.2.2 a5 x36.2.2.1) fun x42 =>
            bif x42.1 then
              some (Res.ok (x42.2.1, x42.2.2.1, x42.2.2.2.1, x42.2.2.2.2))
            else
              some (Res.ok (x42.2.1, x42.2.2.1, x42.2.2.2.1, x42.2.2.2.2))
def jj (F : Nat) (y26 : List UInt8) (y28 : List (List UInt8)) (y29 : Int) (y30 : List (Int × (List UInt8) × (List UInt8) × List ((List UInt8) × List UInt8))) : Option ((List (Int × (List UInt8) × (List UInt8) × List ((List UInt8) × List UInt8))) × Int) :=
rj (cI F ((decide ((y28.length : Int) = 0)) && (decide (0 < y29)))) (fun p36 =>
  some ([], p36)) fun x34 =>
some (y30, 0)
def jl (F : Nat) (rec17 : ((List UInt8) × (List (List UInt8)) × Int × (List (Int × (List UInt8) × (List UInt8) × List ((List UInt8) × List UInt8)))) → Option ((List (Int × (List UInt8) × (List UInt8) × List ((List UInt8) × List UInt8))) × Int)) (y11 : List UInt8) (y13 : List (List UInt8)) (y14 : Int) (y15 : List (Int × (List UInt8) × (List UInt8) × List ((List UInt8) × List UInt8))) : Option ((List (Int × (List UInt8) × (List UInt8) × List ((List UInt8) × List UInt8))) × Int) :=
bif !decide (y11 = ([] : List UInt8)) then
  rj (nc F y11 y13 y14 y15) (fun p22 =>
    some ([], p22)) fun x20 =>
  rec17 (x20.1, x20.2.2.2, x20.2.1, x20.2.2.1)
else
  jj F y11 y13 y14 y15
def jk (F : Nat) (n : Nat) : ((List UInt8) × (List (List UInt8)) × Int × (List (Int × (List UInt8) × (List UInt8) × List ((List UInt8) × List UInt8)))) → Option ((List (Int × (List UInt8) × (List UInt8) × List ((List UInt8) × List UInt8))) × Int) :=
  loop (fun rec x => jl F rec x.1 x.2.1 x.2.2.1 x.2.2.2) n
def my (F : Nat) (a1 : List UInt8) : Option ((List (Int × (List UInt8) × (List UInt8) × List ((List UInt8) × List UInt8))) × Int) :=
bif decide (100000 < (a1.length : Int)) then
  some ([], 4)
else
  jk F F (a1, ([] : List (List UInt8)), 0, [])
end Go.Pv
namespace Go.Proofs.YtkbfjepffpddfaaGreatDoor
open Go.RowKit Go.Av Go.Pv
theorem uf : ∀ (args : Array Value) (w : World), (callFunc 18 args).run Tryz.prog w = .ok (.enter 18 args) w := fun _ _ => by kernel_rfl
theorem qn : ∀ (args : Array Value) (w : World), (callFunc 20 args).run Tryz.prog w = .ok (.enter 20 args) w := fun _ _ => by kernel_rfl
theorem ue : ∀ (args : Array Value) (w : World), (callFunc 21 args).run Tryz.prog w = .ok (.enter 21 args) w := fun _ _ => by kernel_rfl
theorem bV : ∀ (args : Array Value) (w : World), (callFunc 22 args).run Tryz.prog w = .ok (.enter 22 args) w := fun _ _ => by kernel_rfl
theorem ud : ∀ (args : Array Value) (w : World), (callFunc 31 args).run Tryz.prog w = .ok (.enter 31 args) w := fun _ _ => by kernel_rfl
theorem uc : ∀ (args : Array Value) (w : World), (callFunc 32 args).run Tryz.prog w = .ok (.enter 32 args) w := fun _ _ => by kernel_rfl
theorem ub : ∀ (args : Array Value) (w : World), (callFunc 33 args).run Tryz.prog w = .ok (.enter 33 args) w := fun _ _ => by kernel_rfl
theorem ua : ∀ (args : Array Value) (w : World), (callFunc 34 args).run Tryz.prog w = .ok (.enter 34 args) w := fun _ _ => by kernel_rfl
theorem tZ : ∀ (args : Array Value) (w : World), (callFunc 35 args).run Tryz.prog w = .ok (.enter 35 args) w := fun _ _ => by kernel_rfl
theorem tY : ∀ (args : Array Value) (w : World), (callFunc 36 args).run Tryz.prog w = .ok (.enter 36 args) w := fun _ _ => by kernel_rfl
theorem tX : ∀ (args : Array Value) (w : World), (callFunc 37 args).run Tryz.prog w = .ok (.enter 37 args) w := fun _ _ => by kernel_rfl
theorem qm : ∀ (args : Array Value) (w : World), (callFunc 40 args).run Tryz.prog w = .ok (.enter 40 args) w := fun _ _ => by kernel_rfl
theorem ql : ∀ (args : Array Value) (w : World), (callFunc 44 args).run Tryz.prog w = .ok (.enter 44 args) w := fun _ _ => by kernel_rfl
theorem oa : ∀ (args : Array Value) (w : World), (callFunc 46 args).run Tryz.prog w = .ok (.enter 46 args) w := fun _ _ => by kernel_rfl
theorem tW : ∀ (args : Array Value) (w : World), (callFunc 47 args).run Tryz.prog w = .ok (.enter 47 args) w := fun _ _ => by kernel_rfl
theorem ez : ∀ (args : Array Value) (w : World), (callFunc 48 args).run Tryz.prog w = .ok (.enter 48 args) w := fun _ _ => by kernel_rfl
theorem gr : ∀ (args : Array Value) (w : World), (callFunc 49 args).run Tryz.prog w = .ok (.enter 49 args) w := fun _ _ => by kernel_rfl
theorem kX : ∀ (args : Array Value) (w : World), (callFunc 50 args).run Tryz.prog w = .ok (.enter 50 args) w := fun _ _ => by kernel_rfl
theorem tV : ∀ (args : Array Value) (w : World), (callFunc 51 args).run Tryz.prog w = .ok (.enter 51 args) w := fun _ _ => by kernel_rfl
theorem nZ : ∀ (args : Array Value) (w : World), (callFunc 52 args).run Tryz.prog w = .ok (.enter 52 args) w := fun _ _ => by kernel_rfl
theorem tU : ∀ (args : Array Value) (w : World), (callFunc 53 args).run Tryz.prog w = .ok (.enter 53 args) w := fun _ _ => by kernel_rfl
theorem tS : ∀ (args : Array Value) (w : World), (callFunc 54 args).run Tryz.prog w = .ok (.enter 54 args) w := fun _ _ => by kernel_rfl
theorem zy : ∀ (args : Array Value) (w : World), (callFunc 55 args).run Tryz.prog w = .ok (.enter 55 args) w := fun _ _ => by kernel_rfl
theorem zw : ∀ (args : Array Value) (w : World), (callFunc 60 args).run Tryz.prog w = .ok (.enter 60 args) w := fun _ _ => by kernel_rfl
theorem zv : ∀ (args : Array Value) (w : World), (callFunc 61 args).run Tryz.prog w = .ok (.enter 61 args) w := fun _ _ => by kernel_rfl
theorem zu : ∀ (args : Array Value) (w : World), (callFunc 62 args).run Tryz.prog w = .ok (.enter 62 args) w := fun _ _ => by kernel_rfl
theorem tQ : ∀ (args : Array Value) (w : World), (callFunc 63 args).run Tryz.prog w = .ok (.enter 63 args) w := fun _ _ => by kernel_rfl
theorem zt : ∀ (args : Array Value) (w : World), (callFunc 64 args).run Tryz.prog w = .ok (.enter 64 args) w := fun _ _ => by kernel_rfl
theorem zr : ∀ (args : Array Value) (w : World), (callFunc 65 args).run Tryz.prog w = .ok (.enter 65 args) w := fun _ _ => by kernel_rfl
theorem zo : ∀ (args : Array Value) (w : World), (callFunc 73 args).run Tryz.prog w = .ok (.enter 73 args) w := fun _ _ => by kernel_rfl
theorem zn : ∀ (args : Array Value) (w : World), (callFunc 74 args).run Tryz.prog w = .ok (.enter 74 args) w := fun _ _ => by kernel_rfl
set_option maxRecDepth 100000 in
set_option maxHeartbeats 1000000 in
theorem wV (F : Nat) (a1 : List UInt8) (r2 : Bool) (H : pB F a1 = some r2) : ACalls Tryz.prog 74 [S a1] [] (Ret (B r2) []) := by
 unfold pB at H
 refine ap Tryz.func74 rfl rfl ?_;show AW _ _ 15 _ _ _;refine af <| aa ?_;show AR _ _ _ _ _ [0] _;refine za rfl <| ag <| bL (X := Unit) (fun _ => ⟨[], [], []⟩) (fun _ => lH = some r2) ?_ ?_
 ·refine af <| aa ?_;show AR _ _ _ _ _ [0, 1, 2] _;refine zm rfl <| zS rfl (bt ai rfl) <| zm rfl <| ag <| aU <| dk (X := Nat × Int) (fun (n5, y3) => ⟨[(0, S a1), (5, i64 (a1.length : Int)), (6, i64 y3)], [], []⟩) (fun (n5, y3) => ka a1 n5 y3 = some r2) (fun (n5, y3) => n5) (F, 0) H (be [] (.cons (.refl _) (.cons (.refl _) (.cons (.refl _) (.nil _)))) rfl) ?_;rintro ⟨n5, y3⟩ H;obtain ⟨n5, rfl, H⟩ := fC H;replace H : kb a1 (ka a1 n5) y3 = some r2 := H
  unfold kb at H
  refine af <| aa ?_;show AR _ _ _ _ _ [0] _;refine zS rfl (cd rfl rfl) <| ag <| af <| ax rfl (fun c6 => ?_) (fun c6 => ?_)
  ·replace H := aX c6 H;refine aC <| af <| aU <| af <| aa ?_;show AR _ _ _ _ _ [0, 1] _;refine zm rfl <| za rfl <| ag <| af ?_;obtain ⟨g7, H⟩ := aM H;obtain ⟨x8, e9, H⟩ := bM H;obtain ⟨x10, e11, H⟩ := bM H;refine aa ?_;show AR _ _ _ _ _ [0, 1, 2, 3, 4] _;refine zm rfl <| zm rfl <| zS rfl (bo ai rfl rfl g7 e9) <| am rfl rfl (aA rfl ql rfl (show ACalls _ _ _ [] (Ret (i64 x10) []) from by subst e11; exact eX xmla_k1 x8) ?_);refine zS rfl (cd rfl rfl) <| ag <| ax rfl (fun c12 => ?_) (fun c12 => ?_)
   ·replace H := aX c12 H;refine af <| aa ?_;show AR _ _ _ _ _ [0] _;refine za rfl <| ag <| aG ?_;obtain rfl := ak H;exact And.intro rfl (Exists.intro _ (Exists.intro _ ⟨aF rfl (.refl _), aB [] rfl, rfl, rfl⟩))
   ·replace H := aY c12 H;refine aC ?_;obtain ⟨g13, H⟩ := aM H;refine aa ?_;show AR _ _ _ _ _ [0, 1] _;refine zS rfl (di rfl rfl g13) <| zm rfl <| ag ?_;exact Exists.intro (n5, y3 + 1) ⟨H, Nat.lt_succ_self _, be [] (.cons (.refl _) (.cons (.refl _) (.cons (.refl _) (.nil _)))) rfl⟩
  ·replace H := aY c6 H;refine cB ?_;exact Exists.intro () ⟨H, be [] (.nil _) rfl⟩
 rintro _ H;replace H : lH = some r2 := H
 unfold lH at H
 refine af <| aa ?_;show AR _ _ _ _ _ [0] _;refine za rfl <| ag <| aG ?_;obtain rfl := ak H;exact And.intro rfl (Exists.intro _ (Exists.intro _ ⟨aF rfl (.refl _), aB [] rfl, rfl, rfl⟩))
set_option maxRecDepth 100000 in
set_option maxHeartbeats 1000000 in
theorem tj (F : Nat) (a1 : List UInt8) (r2 : Bool) (H : pN F a1 = some r2) : ACalls Tryz.prog 63 [S a1] [] (Ret (B r2) []) := by
 unfold pN at H
 refine ap Tryz.func63 rfl rfl ?_;show AW _ _ 24 _ _ _;refine af <| aa ?_;show AR _ _ _ _ _ [0] _;refine za rfl <| ag <| af ?_;obtain ⟨g5, H⟩ := cN H;obtain ⟨x6, e7, H⟩ := bM H;obtain ⟨g8, H⟩ := cN H;obtain ⟨x9, e10, H⟩ := bM H;obtain ⟨g12, H⟩ := cN H;obtain ⟨g13, H⟩ := cN H;obtain ⟨g14, H⟩ := cN H;obtain ⟨x15, e16, H⟩ := bM H;obtain ⟨x18, e19, H⟩ := fM H;refine aa ?_;show AR _ _ _ _ _ [0, 1, 2, 3, 4, 5, 6, 7, 8, 9, 10, 11, 12, 13, 14, 15, 16, 17, 18, 19, 20, 21] _;refine zm rfl <| zS rfl (ni rfl rfl) <| zm rfl <| aW (l := [7, 8, 9, 10, 11, 12, 13, 14, 15, 16, 17, 18, 19, 20, 21]) 9 (B ((!decide (a1 = ([] : List UInt8))) && (decide ((a1.length : Int) ≤ 60)))) (fun K => ?_) ?_
 ·rcases aj (!decide (a1 = ([] : List UInt8))) with h3 | h3
  ·refine zM h3 rfl <| zU h3 rfl (bt ai rfl) <| zU h3 rfl (fL rfl rfl) <| zS rfl (aD (av := .v _) rfl h3 rfl) ?_;exact K _ 3 _ (ay (cz h3)) rfl rfl
  ·refine zF h3 rfl <| zF h3 rfl <| zF h3 rfl <| zS rfl (aE (av := .v _) rfl h3 rfl) ?_;exact K _ 3 _ (ay (cA h3)) rfl rfl
 refine zm rfl <| aW (l := [12, 13, 14, 15, 16, 17, 18, 19, 20, 21]) 14 (B (((!decide (a1 = ([] : List UInt8))) && (decide ((a1.length : Int) ≤ 60))) && x9)) (fun K => ?_) ?_
 ·rcases aj ((!decide (a1 = ([] : List UInt8))) && (decide ((a1.length : Int) ≤ 60))) with h4 | h4
  ·refine zM h4 rfl <| zU h4 rfl (lx ai rfl rfl (g5 h4) e7) <| zT h4 rfl (aA rfl qm rfl (show ACalls _ _ _ [] (Ret (B x9) []) from by subst e10; exact gS xmla_k2 x6 (nb (g8 h4))) ?_);refine zS rfl (aD (av := .v _) rfl h4 rfl) ?_;exact K _ 3 _ (ay (cz h4)) rfl rfl
  ·refine zF h4 rfl <| zF h4 rfl <| zF h4 rfl <| zS rfl (aE (av := .v _) rfl h4 rfl) ?_;exact K _ 3 _ (ay (cA h4)) rfl rfl
 refine zm rfl <| aW (l := [17, 18, 19, 20, 21]) 19 (B ((((!decide (a1 = ([] : List UInt8))) && (decide ((a1.length : Int) ≤ 60))) && x9) && (decide (x15 = ([] : List UInt8))))) (fun K => ?_) ?_
 ·rcases aj (((!decide (a1 = ([] : List UInt8))) && (decide ((a1.length : Int) ≤ 60))) && x9) with h11 | h11
  ·refine zM h11 rfl <| zT h11 rfl (aA rfl zo rfl (show ACalls _ _ _ [] (Ret (S x15) []) from by subst e16; exact lib_Trim a1 xmla_k1 (nb (g12 h11)) (nb (g13 h11)) (g14 h11)) ?_);refine zU h11 rfl (dr rfl rfl) <| zS rfl (aD (av := .v _) rfl h11 rfl) ?_;exact K _ 3 _ (ay (cz h11)) rfl rfl
  ·refine zF h11 rfl <| zF h11 rfl <| zF h11 rfl <| zS rfl (aE (av := .v _) rfl h11 rfl) ?_;exact K _ 3 _ (ay (cA h11)) rfl rfl
 refine zm rfl <| aW (l := [21]) 23 (B (((((!decide (a1 = ([] : List UInt8))) && (decide ((a1.length : Int) ≤ 60))) && x9) && (decide (x15 = ([] : List UInt8)))) && x18)) (fun K => ?_) ?_
 ·rcases aj ((((!decide (a1 = ([] : List UInt8))) && (decide ((a1.length : Int) ≤ 60))) && x9) && (decide (x15 = ([] : List UInt8)))) with h17 | h17
  ·refine zM h17 rfl <| zT h17 rfl (aA rfl zn rfl (wV F a1 x18 (e19 h17)) ?_);refine zS rfl (aD (av := .v _) rfl h17 rfl) ?_;exact K _ 2 _ (ay (cz h17)) rfl rfl
  ·refine zF h17 rfl <| zF h17 rfl <| zS rfl (aE (av := .v _) rfl h17 rfl) ?_;exact K _ 2 _ (ay (cA h17)) rfl rfl
 refine za rfl <| ag <| aG ?_;obtain rfl := ak H;exact And.intro rfl (Exists.intro _ (Exists.intro _ ⟨aF rfl (.refl _), aB [] rfl, rfl, rfl⟩))
set_option maxRecDepth 100000 in
set_option maxHeartbeats 1000000 in
theorem qr (F : Nat) (a1 : Bool) (rv : Res Unit) (H : cI F a1 = some rv) : ACalls Tryz.prog 22 [B a1] [] (jz (fun (r : Unit) => (Ret (.tup []) [])) (fun e => ce (.iface 58 (.agg #[.int .i64 e]))) rv) := by
 unfold cI at H
 refine ap Tryz.func22 rfl rfl ?_;show AW _ _ 6 _ _ _;refine af <| aa ?_;show AR _ _ _ _ _ [0, 1] _;refine zm rfl <| zS rfl (bB rfl) <| ag <| ax rfl (fun c2 => ?_) (fun c2 => ?_)
 ·replace H := aX c2 H;obtain rfl := ak H;refine aa ?_;show AR _ _ _ _ _ [0, 1, 2] _;refine zS rfl (cP (zs := [.int .i64 0]) (ps := [(0, 1)]) (cs := [i64 2]) (by kernel_rfl) rfl rfl) <| zS rfl (bf (a := .agg _) Tryz.underlying58 rfl rfl) <| am rfl rfl (AO.panicT (c := ce (.iface 58 (.agg #[.int .i64 2]))) rfl rfl ?_);exact And.intro rfl (Exists.intro [] ⟨ba _, rfl, rfl⟩)
 ·replace H := aY c2 H;refine aC ?_;obtain rfl := ak H;exact And.intro rfl (Exists.intro _ (Exists.intro _ ⟨bj rfl, aB [] rfl, rfl, rfl⟩))
theorem cm (F : Nat) (a1 : Bool) (H : cI F a1 = some (Res.ok ())) : ACalls Tryz.prog 22 [B a1] [] (Ret (.tup []) []) := qr F a1 _ H
theorem bX (F : Nat) (a1 : Bool) (e : Int) (H : cI F a1 = some (Res.pan e)) : ACalls Tryz.prog 22 [B a1] [] (fun ae A' => ae = .pan ((fun e => ce (.iface 58 (.agg #[.int .i64 e]))) e) ∧ A' = []) := qr F a1 _ H
set_option maxRecDepth 100000 in
set_option maxHeartbeats 1000000 in
theorem eu (F : Nat) (o1 : Nat) (a2 : List UInt8) (a3 : List (List UInt8)) (t4 : Nat) (a5 : Int) (a6 : List (Int × (List UInt8) × (List UInt8) × List ((List UInt8) × List UInt8))) (t7 : Nat) (a8 : List UInt8) (r9 : Bool) (r10 : List UInt8) (H : fk F a2 a3 a5 a6 a8 = some (r9, r10)) : ACalls Tryz.prog 48 [.pt o1 0, S a8] [.obj o1 [S a2, .sk t4 a3.length, i64 a5, slE (ab Enc.int (ab Enc.str (ab Enc.str (Enc.sl (ab Enc.str Enc.str))))) a6 (some t7)], .stk t4 (Enc.str.fl a3), .tok t7 43] (fun e A' => e = .ret (B r9) ∧ A' = [.obj o1 [S r10, .sk t4 a3.length, i64 a5, slE (ab Enc.int (ab Enc.str (ab Enc.str (Enc.sl (ab Enc.str Enc.str))))) a6 (some t7)], .stk t4 (Enc.str.fl a3), .tok t7 43]) := by
 unfold fk at H
 refine ap Tryz.func48 rfl rfl ?_;show AW _ _ 21 _ _ _;refine af <| aa ?_;show AR _ _ _ _ _ [0] _;refine za rfl <| ag <| af ?_;obtain ⟨x11, e12, H⟩ := bM H;refine aa ?_;show AR _ _ _ _ _ [0, 1, 2, 3, 4, 5, 6, 7, 8, 9, 10] _;refine zS rfl (ah (av := .pt _ _) rfl) <| zS rfl (ar rfl) <| zS rfl (an (n := 0) (by kernel_rfl) rfl) <| zR rfl (ao (i := 0) ai rfl rfl rfl rfl) <| zm rfl <| am rfl rfl (aA rfl zv rfl (show ACalls _ _ _ [] (Ret (.tup [S x11.1, B x11.2]) []) from by subst e12; exact lU a2 a8) ?_);refine zS rfl (ah (av := .tup _) rfl) <| zS rfl (az (av := .v _) rfl rfl) <| zS rfl (az (av := .v _) rfl rfl) <| za rfl <| za rfl <| ag <| af <| aa ?_;show AR _ _ _ _ _ [0, 1, 2, 3, 4] _;refine zS rfl (ah (av := .pt _ _) rfl) <| zm rfl <| zS rfl (ar rfl) <| zS rfl (an (n := 0) (by kernel_rfl) rfl) <| s0 rfl rfl (aq (i := 0) (c := .v _) (by kernel_rfl) rfl rfl rfl rfl (ac rfl)) <| ag <| af <| aa ?_;show AR _ _ _ _ _ [0, 1] _;refine zm rfl <| za rfl <| ag <| aG ?_;obtain ⟨rfl, rfl⟩ := dw H;exact And.intro rfl (Exists.intro _ (Exists.intro _ ⟨aF rfl (.refl _), aB [0, 0, 0] rfl, rfl, rfl⟩))
set_option maxRecDepth 100000 in
set_option maxHeartbeats 1000000 in
theorem tc (F : Nat) (o1 : Nat) (a2 : List UInt8) (a3 : List (List UInt8)) (t4 : Nat) (a5 : Int) (a6 : List (Int × (List UInt8) × (List UInt8) × List ((List UInt8) × List UInt8))) (t7 : Nat) (a8 : List UInt8) (rv : Res ((List UInt8) × (List UInt8))) (H : iP F a2 a3 a5 a6 a8 = some rv) : ACalls Tryz.prog 49 [.pt o1 0, S a8] [.obj o1 [S a2, .sk t4 a3.length, i64 a5, slE (ab Enc.int (ab Enc.str (ab Enc.str (Enc.sl (ab Enc.str Enc.str))))) a6 (some t7)], .stk t4 (Enc.str.fl a3), .tok t7 43] (jz (fun (r : (List UInt8) × (List UInt8)) => (fun e A' => e = .ret (S r.1) ∧ A' = [.obj o1 [S r.2, .sk t4 a3.length, i64 a5, slE (ab Enc.int (ab Enc.str (ab Enc.str (Enc.sl (ab Enc.str Enc.str))))) a6 (some t7)], .stk t4 (Enc.str.fl a3), .tok t7 43])) (fun e => ce (.iface 58 (.agg #[.int .i64 e]))) rv) := by
 unfold iP at H
 refine ap Tryz.func49 rfl rfl ?_;show AW _ _ 25 _ _ _;refine af <| aa ?_;show AR _ _ _ _ _ [0] _;refine za rfl <| ag <| af ?_;obtain ⟨g11, H⟩ := aM H;obtain ⟨x12, e13, H⟩ := bM H;refine aa ?_;show AR _ _ _ _ _ [0, 1, 2, 3, 4, 5, 6, 7, 8, 9, 10, 11, 12] _;refine zS rfl (ah (av := .pt _ _) rfl) <| zS rfl (ar rfl) <| zS rfl (an (n := 0) (by kernel_rfl) rfl) <| zR rfl (ao (i := 0) ai rfl rfl rfl rfl) <| zm rfl <| am rfl rfl (aA rfl zu rfl (show ACalls _ _ _ [] (Ret (.tup [S x12.1, S x12.2.1, B x12.2.2]) []) from by subst e13; exact lib_Cut a2 a8 (nb g11)) ?_);refine zS rfl (ah (av := .tup _) rfl) <| zS rfl (az (av := .v _) rfl rfl) <| zS rfl (az (av := .v _) rfl rfl) <| zS rfl (az (av := .v _) rfl rfl) <| za rfl <| za rfl <| za rfl <| ag <| af ?_
 rcases Or.symm (co H) with ⟨p16, e15, H⟩ | ⟨x14, e15, H⟩
 ·subst H;refine aa ?_;show AR _ _ _ _ _ [0, 1] _;refine zm rfl <| am rfl rfl (bb (c := ce (.iface 58 (.agg #[.int .i64 p16]))) [] rfl bV rfl (bX F x12.2.2 p16 e15) rfl ?_);exact And.intro rfl (Exists.intro [] ⟨ba _, rfl, rfl⟩)
 refine aa ?_;show AR _ _ _ _ _ [0, 1] _;refine zm rfl <| am rfl rfl (aA rfl bV rfl (cm F x12.2.2 e15) ?_);refine ag <| af <| aa ?_;show AR _ _ _ _ _ [0, 1, 2, 3, 4] _;refine zS rfl (ah (av := .pt _ _) rfl) <| zm rfl <| zS rfl (ar rfl) <| zS rfl (an (n := 0) (by kernel_rfl) rfl) <| s0 rfl rfl (aq (i := 0) (c := .v _) (by kernel_rfl) rfl rfl rfl rfl (ac rfl)) <| ag <| af <| aa ?_;show AR _ _ _ _ _ [0, 1] _;refine zm rfl <| za rfl <| ag <| aG ?_;obtain rfl := ak H;exact And.intro rfl (Exists.intro _ (Exists.intro _ ⟨aF rfl (.refl _), aB [0, 0, 0] rfl, rfl, rfl⟩))
theorem jm (F : Nat) (o1 : Nat) (a2 : List UInt8) (a3 : List (List UInt8)) (t4 : Nat) (a5 : Int) (a6 : List (Int × (List UInt8) × (List UInt8) × List ((List UInt8) × List UInt8))) (t7 : Nat) (a8 : List UInt8) (r9 : List UInt8) (r10 : List UInt8) (H : iP F a2 a3 a5 a6 a8 = some (Res.ok (r9, r10))) : ACalls Tryz.prog 49 [.pt o1 0, S a8] [.obj o1 [S a2, .sk t4 a3.length, i64 a5, slE (ab Enc.int (ab Enc.str (ab Enc.str (Enc.sl (ab Enc.str Enc.str))))) a6 (some t7)], .stk t4 (Enc.str.fl a3), .tok t7 43] (fun e A' => e = .ret (S r9) ∧ A' = [.obj o1 [S r10, .sk t4 a3.length, i64 a5, slE (ab Enc.int (ab Enc.str (ab Enc.str (Enc.sl (ab Enc.str Enc.str))))) a6 (some t7)], .stk t4 (Enc.str.fl a3), .tok t7 43]) := tc F o1 a2 a3 t4 a5 a6 t7 a8 _ H
theorem hP (F : Nat) (o1 : Nat) (a2 : List UInt8) (a3 : List (List UInt8)) (t4 : Nat) (a5 : Int) (a6 : List (Int × (List UInt8) × (List UInt8) × List ((List UInt8) × List UInt8))) (t7 : Nat) (a8 : List UInt8) (e : Int) (H : iP F a2 a3 a5 a6 a8 = some (Res.pan e)) : ACalls Tryz.prog 49 [.pt o1 0, S a8] [.obj o1 [S a2, .sk t4 a3.length, i64 a5, slE (ab Enc.int (ab Enc.str (ab Enc.str (Enc.sl (ab Enc.str Enc.str))))) a6 (some t7)], .stk t4 (Enc.str.fl a3), .tok t7 43] (fun ae A' => ae = .pan ((fun e => ce (.iface 58 (.agg #[.int .i64 e]))) e) ∧ A' = []) := tc F o1 a2 a3 t4 a5 a6 t7 a8 _ H
set_option maxRecDepth 100000 in
set_option maxHeartbeats 1000000 in
theorem qs (F : Nat) (o1 : Nat) (a2 : List UInt8) (a3 : List (List UInt8)) (t4 : Nat) (a5 : Int) (a6 : List (Int × (List UInt8) × (List UInt8) × List ((List UInt8) × List UInt8))) (t7 : Nat) (r8 : Bool) (r9 : List UInt8) (H : kS F a2 a3 a5 a6 = some (r8, r9)) : ACalls Tryz.prog 51 [.pt o1 0] [.obj o1 [S a2, .sk t4 a3.length, i64 a5, slE (ab Enc.int (ab Enc.str (ab Enc.str (Enc.sl (ab Enc.str Enc.str))))) a6 (some t7)], .stk t4 (Enc.str.fl a3), .tok t7 43] (fun e A' => e = .ret (B r8) ∧ A' = [.obj o1 [S r9, .sk t4 a3.length, i64 a5, slE (ab Enc.int (ab Enc.str (ab Enc.str (Enc.sl (ab Enc.str Enc.str))))) a6 (some t7)], .stk t4 (Enc.str.fl a3), .tok t7 43]) := by
 unfold kS at H
 refine ap Tryz.func51 rfl rfl ?_;show AW _ _ 24 _ _ _;refine af <| aa ?_;show AR _ _ _ _ _ [0] _;refine za rfl <| ag <| af <| aa ?_;show AR _ _ _ _ _ [0, 1, 2, 3, 4, 5] _;refine zS rfl (ah (av := .pt _ _) rfl) <| zS rfl (ar rfl) <| zS rfl (an (n := 0) (by kernel_rfl) rfl) <| zR rfl (ao (i := 0) ai rfl rfl rfl rfl) <| zS rfl (bt ai rfl) <| za rfl <| ag <| af ?_;obtain ⟨g10, H⟩ := aM H;obtain ⟨g11, H⟩ := aM H;obtain ⟨x12, e13, H⟩ := bM H;refine aa ?_;show AR _ _ _ _ _ [0, 1, 2, 3, 4, 5, 6, 7, 8] _;refine zS rfl (ah (av := .pt _ _) rfl) <| zS rfl (ah (av := .pt _ _) rfl) <| zS rfl (ar rfl) <| zS rfl (an (n := 0) (by kernel_rfl) rfl) <| zR rfl (ao (i := 0) ai rfl rfl rfl rfl) <| am rfl rfl (aA rfl zt rfl (show ACalls _ _ _ [] (Ret (S x12) []) from by subst e13; exact uN a2 ([9, 10, 13, 32] : List UInt8) (nb g10) g11) ?_);refine zS rfl (ar rfl) <| zS rfl (an (n := 0) (by kernel_rfl) rfl) <| s0 rfl rfl (aq (i := 0) (c := .v _) (by kernel_rfl) rfl rfl rfl rfl (ac rfl)) <| ag <| af <| aa ?_;show AR _ _ _ _ _ [0, 1, 2, 3, 4, 5, 6, 7] _
 refine zS rfl (ah (av := .pt _ _) rfl) <| zS rfl (ar rfl) <| zS rfl (an (n := 0) (by kernel_rfl) rfl) <| zR rfl (ao (i := 0) ai rfl rfl rfl rfl) <| zS rfl (bt ai rfl) <| zm rfl <| zS rfl (cd rfl rfl) <| za rfl <| ag <| aG ?_;obtain ⟨rfl, rfl⟩ := dw H;exact And.intro rfl (Exists.intro _ (Exists.intro _ ⟨aF rfl (.refl _), aB [0, 0, 0] rfl, rfl, rfl⟩))
set_option maxRecDepth 100000 in
set_option maxHeartbeats 1000000 in
theorem tg (F : Nat) (o1 : Nat) (a2 : List UInt8) (a3 : List (List UInt8)) (t4 : Nat) (a5 : Int) (a6 : List (Int × (List UInt8) × (List UInt8) × List ((List UInt8) × List UInt8))) (t7 : Nat) (rv : Res ((List UInt8) × (List UInt8))) (H : lX F a2 a3 a5 a6 = some rv) : ACalls Tryz.prog 50 [.pt o1 0] [.obj o1 [S a2, .sk t4 a3.length, i64 a5, slE (ab Enc.int (ab Enc.str (ab Enc.str (Enc.sl (ab Enc.str Enc.str))))) a6 (some t7)], .stk t4 (Enc.str.fl a3), .tok t7 43] (jz (fun (r : (List UInt8) × (List UInt8)) => (fun e A' => e = .ret (S r.1) ∧ A' = [.obj o1 [S r.2, .sk t4 a3.length, i64 a5, slE (ab Enc.int (ab Enc.str (ab Enc.str (Enc.sl (ab Enc.str Enc.str))))) a6 (some t7)], .stk t4 (Enc.str.fl a3), .tok t7 43])) (fun e => ce (.iface 58 (.agg #[.int .i64 e]))) rv) := by
 unfold lX at H
 refine ap Tryz.func50 rfl rfl ?_;show AW _ _ 43 _ _ _;refine af <| aa ?_;show AR _ _ _ _ _ [0] _;refine za rfl <| ag <| af <| aa ?_;show AR _ _ _ _ _ [0] _;refine za rfl <| ag <| bL (X := Int) (fun y21 => ⟨[(0, .pt o1 0), (3, i64 y21)], [], [.obj o1 [S a2, .sk t4 a3.length, i64 a5, slE (ab Enc.int (ab Enc.str (ab Enc.str (Enc.sl (ab Enc.str Enc.str))))) a6 (some t7)], .stk t4 (Enc.str.fl a3), .tok t7 43]⟩) (fun y21 => jE F a2 y21 = some rv) ?_ ?_
 ·refine aU <| dk (X := Nat × Int) (fun (n12, y10) => ⟨[(0, .pt o1 0), (3, i64 y10)], [], [.obj o1 [S a2, .sk t4 a3.length, i64 a5, slE (ab Enc.int (ab Enc.str (ab Enc.str (Enc.sl (ab Enc.str Enc.str))))) a6 (some t7)], .stk t4 (Enc.str.fl a3), .tok t7 43]⟩) (fun (n12, y10) => lc F a2 n12 y10 = some rv) (fun (n12, y10) => n12) (F, 0) H (be [0, 0, 0] (.cons (.refl _) (.cons (.refl _) (.nil _))) rfl) ?_;rintro ⟨n12, y10⟩ H;obtain ⟨n12, rfl, H⟩ := fC H;replace H : ld F a2 (lc F a2 n12) y10 = some rv := H
  unfold ld at H
  refine af <| af ?_;obtain ⟨g14, H⟩ := cN H;obtain ⟨x15, e16, H⟩ := bM H;obtain ⟨x17, e18, H⟩ := bM H;refine aa ?_;show AR _ _ _ _ _ [0, 1, 2, 3, 4, 5, 6, 7, 8, 9, 10, 11, 12, 13, 14, 15, 16] _;refine zm rfl <| zS rfl (ah (av := .pt _ _) rfl) <| zS rfl (ar rfl) <| zS rfl (an (n := 0) (by kernel_rfl) rfl) <| zR rfl (ao (i := 0) ai rfl rfl rfl rfl) <| zS rfl (bt ai rfl) <| zS rfl (cd rfl rfl) <| zm rfl <| aW (l := []) 21 (B ((decide (y10 < (a2.length : Int))) && (decide (0 ≤ x17)))) (fun K => ?_) ?_
  ·rcases aj (decide (y10 < (a2.length : Int))) with h13 | h13
   ·refine zU h13 rfl (ah (av := .pt _ _) rfl) <| zU h13 rfl (ar rfl) <| zU h13 rfl (an (n := 0) (by kernel_rfl) rfl) <| zT h13 rfl (ck rfl rfl (ao (i := 0) ai rfl rfl rfl rfl) ?_);refine zM h13 rfl <| zU h13 rfl (bo ai rfl rfl (g14 h13) e16) <| zT h13 rfl (aA rfl ql rfl (show ACalls _ _ _ [] (Ret (i64 x17) []) from by subst e18; exact eX xmla_k1 x15) ?_);refine zU h13 rfl (fB rfl rfl) <| zS rfl (aD (av := .v _) rfl h13 rfl) ?_;exact K _ 8 _ (ay (cz h13)) rfl rfl
   ·refine zF h13 rfl <| zF h13 rfl <| zF h13 rfl <| zF h13 rfl <| zF h13 rfl <| zF h13 rfl <| zF h13 rfl <| zF h13 rfl <| zS rfl (aE (av := .v _) rfl h13 rfl) ?_;exact K _ 8 _ (ay (cA h13)) rfl rfl
  refine ag <| ax rfl (fun c19 => ?_) (fun c19 => ?_)
  ·replace H := aX c19 H;refine aC <| aU ?_;obtain ⟨g20, H⟩ := aM H;refine aa ?_;show AR _ _ _ _ _ [0, 1, 2] _;refine zm rfl <| zS rfl (di rfl rfl g20) <| za rfl <| ag ?_;exact Exists.intro (n12, y10 + 1) ⟨H, Nat.lt_succ_self _, be [0, 0, 0] (.cons (.refl _) (.cons (.refl _) (.nil _))) rfl⟩
  ·replace H := aY c19 H;refine cB ?_;exact Exists.intro y10 ⟨H, be [0, 0, 0] (.cons (.refl _) (.cons (.refl _) (.nil _))) rfl⟩
 rintro y21 H;replace H : jE F a2 y21 = some rv := H
 unfold jE at H
 refine af ?_;obtain ⟨g23, H⟩ := aM H;obtain ⟨x24, e25, H⟩ := bM H;refine aa ?_;show AR _ _ _ _ _ [0, 1, 2, 3, 4, 5, 6] _;refine zS rfl (ah (av := .pt _ _) rfl) <| zS rfl (ar rfl) <| zS rfl (an (n := 0) (by kernel_rfl) rfl) <| zR rfl (ao (i := 0) ai rfl rfl rfl rfl) <| zm rfl <| zS rfl (lx ai rfl rfl g23 e25) <| za rfl <| ag <| af ?_;obtain ⟨x26, e27, H⟩ := bW H
 rcases Or.symm (co H) with ⟨p30, e29, H⟩ | ⟨x28, e29, H⟩
 ·subst H;refine aa ?_;show AR _ _ _ _ _ [0, 1, 2] _;refine zm rfl <| am rfl rfl (aA rfl tQ rfl (tj F x24 x26 e27) ?_);refine am rfl rfl (bb (c := ce (.iface 58 (.agg #[.int .i64 p30]))) [] rfl bV rfl (bX F x26 p30 e29) rfl ?_);exact And.intro rfl (Exists.intro [] ⟨ba _, rfl, rfl⟩)
 refine aa ?_;show AR _ _ _ _ _ [0, 1, 2] _;refine zm rfl <| am rfl rfl (aA rfl tQ rfl (tj F x24 x26 e27) ?_);refine am rfl rfl (aA rfl bV rfl (cm F x26 e29) ?_);refine ag <| af ?_;obtain ⟨g31, H⟩ := aM H;obtain ⟨x32, e33, H⟩ := bM H;refine aa ?_;show AR _ _ _ _ _ [0, 1, 2, 3, 4, 5, 6, 7, 8, 9] _;refine zS rfl (ah (av := .pt _ _) rfl) <| zS rfl (ah (av := .pt _ _) rfl) <| zS rfl (ar rfl) <| zS rfl (an (n := 0) (by kernel_rfl) rfl) <| zR rfl (ao (i := 0) ai rfl rfl rfl rfl) <| zm rfl <| zS rfl (eG ai rfl rfl g31 e33) <| zS rfl (ar rfl) <| zS rfl (an (n := 0) (by kernel_rfl) rfl) <| s0 rfl rfl (aq (i := 0) (c := .v _) (by kernel_rfl) rfl rfl rfl rfl (ac rfl)) <| ag <| af <| aa ?_;show AR _ _ _ _ _ [0, 1] _;refine zm rfl <| za rfl <| ag <| aG ?_;obtain rfl := ak H;exact And.intro rfl (Exists.intro _ (Exists.intro _ ⟨aF rfl (.refl _), aB [0, 0, 0] rfl, rfl, rfl⟩))
theorem mI (F : Nat) (o1 : Nat) (a2 : List UInt8) (a3 : List (List UInt8)) (t4 : Nat) (a5 : Int) (a6 : List (Int × (List UInt8) × (List UInt8) × List ((List UInt8) × List UInt8))) (t7 : Nat) (r8 : List UInt8) (r9 : List UInt8) (H : lX F a2 a3 a5 a6 = some (Res.ok (r8, r9))) : ACalls Tryz.prog 50 [.pt o1 0] [.obj o1 [S a2, .sk t4 a3.length, i64 a5, slE (ab Enc.int (ab Enc.str (ab Enc.str (Enc.sl (ab Enc.str Enc.str))))) a6 (some t7)], .stk t4 (Enc.str.fl a3), .tok t7 43] (fun e A' => e = .ret (S r8) ∧ A' = [.obj o1 [S r9, .sk t4 a3.length, i64 a5, slE (ab Enc.int (ab Enc.str (ab Enc.str (Enc.sl (ab Enc.str Enc.str))))) a6 (some t7)], .stk t4 (Enc.str.fl a3), .tok t7 43]) := tg F o1 a2 a3 t4 a5 a6 t7 _ H
theorem lQ (F : Nat) (o1 : Nat) (a2 : List UInt8) (a3 : List (List UInt8)) (t4 : Nat) (a5 : Int) (a6 : List (Int × (List UInt8) × (List UInt8) × List ((List UInt8) × List UInt8))) (t7 : Nat) (e : Int) (H : lX F a2 a3 a5 a6 = some (Res.pan e)) : ACalls Tryz.prog 50 [.pt o1 0] [.obj o1 [S a2, .sk t4 a3.length, i64 a5, slE (ab Enc.int (ab Enc.str (ab Enc.str (Enc.sl (ab Enc.str Enc.str))))) a6 (some t7)], .stk t4 (Enc.str.fl a3), .tok t7 43] (fun ae A' => ae = .pan ((fun e => ce (.iface 58 (.agg #[.int .i64 e]))) e) ∧ A' = []) := tg F o1 a2 a3 t4 a5 a6 t7 _ H
set_option maxRecDepth 100000 in
set_option maxHeartbeats 1000000 in
theorem qu (F : Nat) (a1 : List UInt8) (rv : Res ((List UInt8))) (H : jb F a1 = some rv) : ACalls Tryz.prog 46 [S a1] [] (jz (fun (r : (List UInt8)) => (Ret (S r) [])) (fun e => ce (.iface 58 (.agg #[.int .i64 e]))) rv) := by
 unfold jb at H
 refine ap Tryz.func46 rfl rfl ?_;show AW _ _ 14 _ _ _;refine af <| aa ?_;show AR _ _ _ _ _ [0] _;refine za rfl <| ag <| af ?_;obtain ⟨x3, x4, e5, H⟩ := cF H;refine aa ?_;show AR _ _ _ _ _ [0, 1, 2, 3, 4, 5, 6] _;refine zm rfl <| am rfl rfl (aA rfl zw rfl (uE F a1 x3 x4 e5) ?_);refine zS rfl (ah (av := .tup _) rfl) <| zS rfl (az (av := .v _) rfl rfl) <| zS rfl (az (av := .v _) rfl rfl) <| za rfl <| za rfl <| ag <| af ?_
 rcases Or.symm (co H) with ⟨p8, e7, H⟩ | ⟨x6, e7, H⟩
 ·subst H;refine aa ?_;show AR _ _ _ _ _ [0, 1, 2] _;refine zm rfl <| zS rfl (bJ rfl rfl) <| am rfl rfl (bb (c := ce (.iface 58 (.agg #[.int .i64 p8]))) [] rfl bV rfl (bX F (decide (x4 = 0)) p8 e7) rfl ?_);exact And.intro rfl (Exists.intro [] ⟨ba _, rfl, rfl⟩)
 refine aa ?_;show AR _ _ _ _ _ [0, 1, 2] _;refine zm rfl <| zS rfl (bJ rfl rfl) <| am rfl rfl (aA rfl bV rfl (cm F (decide (x4 = 0)) e7) ?_);refine ag <| af <| aa ?_;show AR _ _ _ _ _ [0, 1] _;refine zm rfl <| za rfl <| ag <| aG ?_;obtain rfl := ak H;exact And.intro rfl (Exists.intro _ (Exists.intro _ ⟨aF rfl (.refl _), aB [] rfl, rfl, rfl⟩))
theorem nx (F : Nat) (a1 : List UInt8) (r2 : List UInt8) (H : jb F a1 = some (Res.ok r2)) : ACalls Tryz.prog 46 [S a1] [] (Ret (S r2) []) := qu F a1 _ H
theorem mS (F : Nat) (a1 : List UInt8) (e : Int) (H : jb F a1 = some (Res.pan e)) : ACalls Tryz.prog 46 [S a1] [] (fun ae A' => ae = .pan ((fun e => ce (.iface 58 (.agg #[.int .i64 e]))) e) ∧ A' = []) := qu F a1 _ H
set_option maxRecDepth 100000 in
set_option maxHeartbeats 1000000 in
theorem td (F : Nat) (o1 : Nat) (a2 : List UInt8) (a3 : List (List UInt8)) (t4 : Nat) (a5 : Int) (a6 : List (Int × (List UInt8) × (List UInt8) × List ((List UInt8) × List UInt8))) (t7 : Nat) (a8 : List UInt8) (r9 : List (Int × (List UInt8) × (List UInt8) × List ((List UInt8) × List UInt8))) (H : oq F a2 a3 a5 a6 a8 = some r9) : ACalls Tryz.prog 47 [.pt o1 0, S a8] [.obj o1 [S a2, .sk t4 a3.length, i64 a5, slE (ab Enc.int (ab Enc.str (ab Enc.str (Enc.sl (ab Enc.str Enc.str))))) a6 (some t7)], .stk t4 (Enc.str.fl a3), .tok t7 43] (fun e A' => e = .ret (.tup []) ∧ ∃ t10, A' = [.obj o1 [S a2, .sk t4 a3.length, i64 a5, slE (ab Enc.int (ab Enc.str (ab Enc.str (Enc.sl (ab Enc.str Enc.str))))) r9 (some t10)], .stk t4 (Enc.str.fl a3), .tok t10 43]) := by
 unfold oq at H
 refine ap Tryz.func47 rfl rfl ?_;show AW _ _ 17 _ _ _;refine af <| aa ?_;show AR _ _ _ _ _ [0, 1] _;refine zm rfl <| zS rfl (ni rfl rfl) <| ag <| ax rfl (fun c11 => ?_) (fun c11 => ?_)
 ·replace H := aX c11 H;obtain ⟨g13, H⟩ := aM H;obtain ⟨x14, e15, H⟩ := bM H;refine aa ?_;show AR _ _ _ _ _ [0, 1, 2, 3, 4, 5, 6, 7, 8, 9, 10, 11] _;refine zS rfl (ah (av := .pt _ _) rfl) <| zS rfl (ah (av := .pt _ _) rfl) <| zS rfl (ar rfl) <| zS rfl (an (n := 3) (by kernel_rfl) rfl) <| zR rfl (ao (i := 0) aO rfl rfl rfl rfl) <| zm rfl <| zS rfl (cP (zs := [.int .i64 0, .string ⟨#[]⟩, .string ⟨#[]⟩, .slice none 0 0]) (ps := [(0, 1), (1, 1), (2, 1), (3, 1)]) (cs := [i64 2, S ([] : List UInt8), S a8, eH]) (by kernel_rfl) rfl rfl) <| zR rfl (jL (ds := [i64 2, S ([] : List UInt8), S a8, slE (ab Enc.str Enc.str) ([] : List ((List UInt8) × List UInt8)) none]) 12 (.cons (.refl _) (.cons (.refl _) (.cons (.refl _) (.cons (.nil _) (.nil))))) (hc := rfl) <| dZ (E := (ab Enc.int (ab Enc.str (ab Enc.str (Enc.sl (ab Enc.str Enc.str)))))) (bytes := 64) (zs := [.int .i64 0, .string ⟨#[]⟩, .string ⟨#[]⟩, .slice none 0 0]) (l := ([(2, ([] : List UInt8), a8, ([] : List ((List UInt8) × List UInt8)))] : List (Int × (List UInt8) × (List UInt8) × List ((List UInt8) × List UInt8)))) aO (by kernel_rfl) (by kernel_rfl) rfl rfl rfl rfl rfl) <| zX rfl (kr (E := (ab Enc.int (ab Enc.str (ab Enc.str (Enc.sl (ab Enc.str Enc.str)))))) (bytes := 64) 2 aO aO rfl (by kernel_rfl) rfl rfl rfl rfl g13 e15) ?_;rintro _ _ ⟨t12, rfl, rfl⟩
  refine zS rfl (ar rfl) <| zS rfl (an (n := 3) (by kernel_rfl) rfl) <| s0 rfl rfl (aq (i := 0) (c := slE _ _ _) (by kernel_rfl) rfl rfl rfl rfl (ac rfl)) <| ag ?_;obtain rfl := ak H;exact And.intro rfl (Exists.intro _ (Exists.intro _ ⟨bj rfl, aB [0, 0, 0] rfl, rfl, t12, rfl⟩))
 ·replace H := aY c11 H;refine aC ?_;obtain rfl := ak H;exact And.intro rfl (Exists.intro _ (Exists.intro _ ⟨bj rfl, aB [0, 0, 0] rfl, rfl, t7, rfl⟩))
set_option maxRecDepth 100000 in
set_option maxHeartbeats 1000000 in
theorem tf (F : Nat) (o1 : Nat) (a2 : List UInt8) (a3 : List (List UInt8)) (t4 : Nat) (a5 : Int) (a6 : List (Int × (List UInt8) × (List UInt8) × List ((List UInt8) × List UInt8))) (t7 : Nat) (a8 : List UInt8) (rv : Res ((List (Int × (List UInt8) × (List UInt8) × List ((List UInt8) × List UInt8))) × (List (List UInt8)))) (H : lW F a2 a3 a5 a6 a8 = some rv) : ACalls Tryz.prog 52 [.pt o1 0, S a8] [.obj o1 [S a2, .sk t4 a3.length, i64 a5, slE (ab Enc.int (ab Enc.str (ab Enc.str (Enc.sl (ab Enc.str Enc.str))))) a6 (some t7)], .stk t4 (Enc.str.fl a3), .tok t7 43] (jz (fun (r : (List (Int × (List UInt8) × (List UInt8) × List ((List UInt8) × List UInt8))) × (List (List UInt8))) => (fun e A' => e = .ret (.tup []) ∧ ∃ t10 t12, A' = [.obj o1 [S a2, .sk t10 r.2.length, i64 a5, slE (ab Enc.int (ab Enc.str (ab Enc.str (Enc.sl (ab Enc.str Enc.str))))) r.1 (some t12)], .stk t10 (Enc.str.fl r.2), .tok t12 43])) (fun e => ce (.iface 58 (.agg #[.int .i64 e]))) rv) := by
 unfold lW at H
 refine ap Tryz.func52 rfl rfl ?_;show AW _ _ 45 _ _ _;refine af ?_;obtain ⟨g13, H⟩ := aM H;refine aa ?_;show AR _ _ _ _ _ [0, 1, 2, 3, 4, 5, 6] _;refine zS rfl (ah (av := .pt _ _) rfl) <| zS rfl (ar rfl) <| zS rfl (an (n := 1) (by kernel_rfl) rfl) <| zR rfl (ao (i := 0) au rfl rfl rfl rfl) <| zS rfl (fh au rfl) <| zS rfl (lP rfl rfl g13) <| za rfl <| ag <| af ?_;obtain ⟨g15, H⟩ := cN H;obtain ⟨g16, H⟩ := cN H;obtain ⟨x17, e18, H⟩ := bM H
 rcases Or.symm (co H) with ⟨p21, e20, H⟩ | ⟨x19, e20, H⟩
 ·subst H;refine aa ?_;show AR _ _ _ _ _ [0, 1, 2, 3, 4, 5, 6, 7, 8, 9, 10, 11, 12, 13] _;refine zm rfl <| zS rfl (fB rfl rfl) <| zm rfl <| aW (l := [13]) 23 (B ((decide (0 ≤ (a3.length : Int) - 1)) && (decide (x17 = a8)))) (fun K => ?_) ?_
  ·rcases aj (decide (0 ≤ (a3.length : Int) - 1)) with h14 | h14
   ·refine zU h14 rfl (ah (av := .pt _ _) rfl) <| zU h14 rfl (ar rfl) <| zU h14 rfl (an (n := 1) (by kernel_rfl) rfl) <| zT h14 rfl (ck rfl rfl (ao (i := 0) au rfl rfl rfl rfl) ?_);refine zM h14 rfl <| zU h14 rfl (lb au (by kernel_rfl) rfl rfl (g15 h14)) <| zT h14 rfl (ck rfl rfl (oY (E := Enc.str) 1 ai rfl rfl rfl rfl (g16 h14) e18 rfl) ?_);refine zM h14 rfl <| zU h14 rfl (dr rfl rfl) <| zS rfl (aD (av := .v _) rfl h14 rfl) ?_;exact K _ 9 _ (ay (cz h14)) rfl rfl
   ·refine zF h14 rfl <| zF h14 rfl <| zF h14 rfl <| zF h14 rfl <| zF h14 rfl <| zF h14 rfl <| zF h14 rfl <| zF h14 rfl <| zF h14 rfl <| zS rfl (aE (av := .v _) rfl h14 rfl) ?_;exact K _ 9 _ (ay (cA h14)) rfl rfl
  refine am rfl rfl (bb (c := ce (.iface 58 (.agg #[.int .i64 p21]))) [] rfl bV rfl (bX F ((decide (0 ≤ (a3.length : Int) - 1)) && (decide (x17 = a8))) p21 e20) rfl ?_);exact And.intro rfl (Exists.intro [] ⟨ba _, rfl, rfl⟩)
 refine aa ?_;show AR _ _ _ _ _ [0, 1, 2, 3, 4, 5, 6, 7, 8, 9, 10, 11, 12, 13] _;refine zm rfl <| zS rfl (fB rfl rfl) <| zm rfl <| aW (l := [13]) 23 (B ((decide (0 ≤ (a3.length : Int) - 1)) && (decide (x17 = a8)))) (fun K => ?_) ?_
 ·rcases aj (decide (0 ≤ (a3.length : Int) - 1)) with h14 | h14
  ·refine zU h14 rfl (ah (av := .pt _ _) rfl) <| zU h14 rfl (ar rfl) <| zU h14 rfl (an (n := 1) (by kernel_rfl) rfl) <| zT h14 rfl (ck rfl rfl (ao (i := 0) au rfl rfl rfl rfl) ?_);refine zM h14 rfl <| zU h14 rfl (lb au (by kernel_rfl) rfl rfl (g15 h14)) <| zT h14 rfl (ck rfl rfl (oY (E := Enc.str) 1 ai rfl rfl rfl rfl (g16 h14) e18 rfl) ?_);refine zM h14 rfl <| zU h14 rfl (dr rfl rfl) <| zS rfl (aD (av := .v _) rfl h14 rfl) ?_;exact K _ 9 _ (ay (cz h14)) rfl rfl
  ·refine zF h14 rfl <| zF h14 rfl <| zF h14 rfl <| zF h14 rfl <| zF h14 rfl <| zF h14 rfl <| zF h14 rfl <| zF h14 rfl <| zF h14 rfl <| zS rfl (aE (av := .v _) rfl h14 rfl) ?_;exact K _ 9 _ (ay (cA h14)) rfl rfl
 refine am rfl rfl (aA rfl bV rfl (cm F ((decide (0 ≤ (a3.length : Int) - 1)) && (decide (x17 = a8))) e20) ?_);refine ag <| af ?_;obtain ⟨g22, H⟩ := aM H;obtain ⟨x23, e24, H⟩ := bM H;refine aa ?_;show AR _ _ _ _ _ [0, 1, 2, 3, 4, 5, 6, 7, 8, 9] _;refine zS rfl (ah (av := .pt _ _) rfl) <| zS rfl (ah (av := .pt _ _) rfl) <| zS rfl (ar rfl) <| zS rfl (an (n := 1) (by kernel_rfl) rfl) <| zR rfl (ao (i := 0) au rfl rfl rfl rfl) <| zm rfl <| zR rfl (rR (E := Enc.str) 1 au (by kernel_rfl) rfl rfl rfl rfl g22 e24) <| zS rfl (ar rfl) <| zS rfl (an (n := 1) (by kernel_rfl) rfl) <| s0 rfl rfl (aq (i := 0) (c := .sk _ _) (by kernel_rfl) rfl rfl rfl rfl (ac rfl)) <| ag ?_;obtain ⟨g26, H⟩ := aM H;obtain ⟨x27, e28, H⟩ := bM H;refine aa ?_;show AR _ _ _ _ _ [0, 1, 2, 3, 4, 5, 6, 7, 8, 9, 10, 11] _
 refine zS rfl (ah (av := .pt _ _) rfl) <| zS rfl (ah (av := .pt _ _) rfl) <| zS rfl (ar rfl) <| zS rfl (an (n := 3) (by kernel_rfl) rfl) <| zR rfl (ao (i := 0) aO rfl rfl rfl rfl) <| zm rfl <| zS rfl (cP (zs := [.int .i64 0, .string ⟨#[]⟩, .string ⟨#[]⟩, .slice none 0 0]) (ps := [(0, 1), (1, 1), (2, 1), (3, 1)]) (cs := [i64 1, S a8, S ([] : List UInt8), eH]) (by kernel_rfl) rfl rfl) <| zR rfl (jL (ds := [i64 1, S a8, S ([] : List UInt8), slE (ab Enc.str Enc.str) ([] : List ((List UInt8) × List UInt8)) none]) 40 (.cons (.refl _) (.cons (.refl _) (.cons (.refl _) (.cons (.nil _) (.nil))))) (hc := rfl) <| dZ (E := (ab Enc.int (ab Enc.str (ab Enc.str (Enc.sl (ab Enc.str Enc.str)))))) (bytes := 64) (zs := [.int .i64 0, .string ⟨#[]⟩, .string ⟨#[]⟩, .slice none 0 0]) (l := ([(1, a8, ([] : List UInt8), ([] : List ((List UInt8) × List UInt8)))] : List (Int × (List UInt8) × (List UInt8) × List ((List UInt8) × List UInt8)))) aO (by kernel_rfl) (by kernel_rfl) rfl rfl rfl rfl rfl) <| zX rfl (kr (E := (ab Enc.int (ab Enc.str (ab Enc.str (Enc.sl (ab Enc.str Enc.str)))))) (bytes := 64) 2 aO aO rfl (by kernel_rfl) rfl rfl rfl rfl g26 e28) ?_;rintro _ _ ⟨t25, rfl, rfl⟩;refine zS rfl (ar rfl) <| zS rfl (an (n := 3) (by kernel_rfl) rfl) <| s0 rfl rfl (aq (i := 0) (c := slE _ _ _) (by kernel_rfl) rfl rfl rfl rfl (ac rfl)) <| ag ?_
 obtain rfl := ak H;exact And.intro rfl (Exists.intro _ (Exists.intro _ ⟨bj rfl, aB [0, 0, 0] rfl, rfl, t4, t25, rfl⟩))
theorem pf (F : Nat) (o1 : Nat) (a2 : List UInt8) (a3 : List (List UInt8)) (t4 : Nat) (a5 : Int) (a6 : List (Int × (List UInt8) × (List UInt8) × List ((List UInt8) × List UInt8))) (t7 : Nat) (a8 : List UInt8) (r11 : List (Int × (List UInt8) × (List UInt8) × List ((List UInt8) × List UInt8))) (r9 : List (List UInt8)) (H : lW F a2 a3 a5 a6 a8 = some (Res.ok (r11, r9))) : ACalls Tryz.prog 52 [.pt o1 0, S a8] [.obj o1 [S a2, .sk t4 a3.length, i64 a5, slE (ab Enc.int (ab Enc.str (ab Enc.str (Enc.sl (ab Enc.str Enc.str))))) a6 (some t7)], .stk t4 (Enc.str.fl a3), .tok t7 43] (fun e A' => e = .ret (.tup []) ∧ ∃ t10 t12, A' = [.obj o1 [S a2, .sk t10 r9.length, i64 a5, slE (ab Enc.int (ab Enc.str (ab Enc.str (Enc.sl (ab Enc.str Enc.str))))) r11 (some t12)], .stk t10 (Enc.str.fl r9), .tok t12 43]) := tf F o1 a2 a3 t4 a5 a6 t7 a8 _ H
theorem oB (F : Nat) (o1 : Nat) (a2 : List UInt8) (a3 : List (List UInt8)) (t4 : Nat) (a5 : Int) (a6 : List (Int × (List UInt8) × (List UInt8) × List ((List UInt8) × List UInt8))) (t7 : Nat) (a8 : List UInt8) (e : Int) (H : lW F a2 a3 a5 a6 a8 = some (Res.pan e)) : ACalls Tryz.prog 52 [.pt o1 0, S a8] [.obj o1 [S a2, .sk t4 a3.length, i64 a5, slE (ab Enc.int (ab Enc.str (ab Enc.str (Enc.sl (ab Enc.str Enc.str))))) a6 (some t7)], .stk t4 (Enc.str.fl a3), .tok t7 43] (fun ae A' => ae = .pan ((fun e => ce (.iface 58 (.agg #[.int .i64 e]))) e) ∧ A' = []) := tf F o1 a2 a3 t4 a5 a6 t7 a8 _ H
set_option maxRecDepth 100000 in
set_option maxHeartbeats 1000000 in
theorem rL (F : Nat) (o1 : Nat) (a2 : List UInt8) (a3 : List (List UInt8)) (t4 : Nat) (a5 : Int) (a6 : List (Int × (List UInt8) × (List UInt8) × List ((List UInt8) × List UInt8))) (t7 : Nat) (rv : Res (Bool × (List UInt8) × (List (Int × (List UInt8) × (List UInt8) × List ((List UInt8) × List UInt8))))) (H : jt F a2 a3 a5 a6 = some rv) : ACalls Tryz.prog 31 [.pt o1 0] [.obj o1 [S a2, .sk t4 a3.length, i64 a5, slE (ab Enc.int (ab Enc.str (ab Enc.str (Enc.sl (ab Enc.str Enc.str))))) a6 (some t7)], .stk t4 (Enc.str.fl a3), .tok t7 43] (jz (fun (r : Bool × (List UInt8) × (List (Int × (List UInt8) × (List UInt8) × List ((List UInt8) × List UInt8)))) => (fun e A' => e = .ret (B r.1) ∧ ∃ t11, A' = [.obj o1 [S r.2.1, .sk t4 a3.length, i64 a5, slE (ab Enc.int (ab Enc.str (ab Enc.str (Enc.sl (ab Enc.str Enc.str))))) r.2.2 (some t11)], .stk t4 (Enc.str.fl a3), .tok t11 43])) (fun e => ce (.iface 58 (.agg #[.int .i64 e]))) rv) := by
 unfold jt at H
 refine ap Tryz.func31 rfl rfl ?_;show AW _ _ 50 _ _ _;refine af <| aa ?_;show AR _ _ _ _ _ [0] _;refine za rfl <| ag <| af ?_;obtain ⟨x12, e13, H⟩ := bM H;refine aa ?_;show AR _ _ _ _ _ [0, 1, 2, 3, 4, 5] _;refine zS rfl (ah (av := .pt _ _) rfl) <| zS rfl (ar rfl) <| zS rfl (an (n := 0) (by kernel_rfl) rfl) <| zR rfl (ao (i := 0) ai rfl rfl rfl rfl) <| am rfl rfl (aA rfl ql rfl (show ACalls _ _ _ [] (Ret (i64 x12) []) from by subst e13; exact eX a2 60) ?_);refine za rfl <| ag <| bL (X := Int) (fun y15 => ⟨[(0, .pt o1 0), (3, i64 y15)], [], [.obj o1 [S a2, .sk t4 a3.length, i64 a5, slE (ab Enc.int (ab Enc.str (ab Enc.str (Enc.sl (ab Enc.str Enc.str))))) a6 (some t7)], .stk t4 (Enc.str.fl a3), .tok t7 43]⟩) (fun y15 => fK F a2 a3 a5 a6 y15 = some rv) ?_ ?_
 ·refine af <| aa ?_;show AR _ _ _ _ _ [0, 1] _;refine zm rfl <| zS rfl (cd rfl rfl) <| ag <| ax rfl (fun c14 => ?_) (fun c14 => ?_)
  ·replace H := aX c14 H;refine aa ?_;show AR _ _ _ _ _ [0, 1, 2, 3, 4, 5] _;refine zS rfl (ah (av := .pt _ _) rfl) <| zS rfl (ar rfl) <| zS rfl (an (n := 0) (by kernel_rfl) rfl) <| zR rfl (ao (i := 0) ai rfl rfl rfl rfl) <| zS rfl (bt ai rfl) <| za rfl <| ag ?_;exact Exists.intro (a2.length : Int) ⟨H, be [0, 0, 0] (.cons (.refl _) (.cons (.refl _) (.nil _))) rfl⟩
  ·replace H := aY c14 H;refine aC ?_;exact Exists.intro x12 ⟨H, be [0, 0, 0] (.cons (.refl _) (.cons (.refl _) (.nil _))) rfl⟩
 rintro y15 H;replace H : fK F a2 a3 a5 a6 y15 = some rv := H
 unfold fK at H
 refine af <| af <| aa ?_;show AR _ _ _ _ _ [0, 1] _;refine zm rfl <| zS rfl (bJ rfl rfl) <| ag <| ax rfl (fun c17 => ?_) (fun c17 => ?_)
 ·replace H := aX c17 H;refine af <| aa ?_;show AR _ _ _ _ _ [0] _;refine za rfl <| ag <| aG ?_;obtain rfl := ak H;exact And.intro rfl (Exists.intro _ (Exists.intro _ ⟨aF rfl (.refl _), aB [0, 0, 0] rfl, rfl, t7, rfl⟩))
 ·replace H := aY c17 H;refine aC <| af ?_;obtain ⟨g18, H⟩ := aM H;obtain ⟨x19, e20, H⟩ := bM H;refine aa ?_;show AR _ _ _ _ _ [0, 1, 2, 3, 4, 5, 6] _;refine zS rfl (ah (av := .pt _ _) rfl) <| zS rfl (ar rfl) <| zS rfl (an (n := 0) (by kernel_rfl) rfl) <| zR rfl (ao (i := 0) ai rfl rfl rfl rfl) <| zm rfl <| zS rfl (lx ai rfl rfl g18 e20) <| za rfl <| ag <| af ?_;obtain ⟨g21, H⟩ := aM H;obtain ⟨x22, e23, H⟩ := bM H;refine aa ?_;show AR _ _ _ _ _ [0, 1, 2, 3, 4, 5, 6, 7, 8, 9] _;refine zS rfl (ah (av := .pt _ _) rfl) <| zS rfl (ah (av := .pt _ _) rfl) <| zS rfl (ar rfl) <| zS rfl (an (n := 0) (by kernel_rfl) rfl) <| zR rfl (ao (i := 0) ai rfl rfl rfl rfl) <| zm rfl <| zS rfl (eG ai rfl rfl g21 e23) <| zS rfl (ar rfl) <| zS rfl (an (n := 0) (by kernel_rfl) rfl) <| s0 rfl rfl (aq (i := 0) (c := .v _) (by kernel_rfl) rfl rfl rfl rfl (ac rfl)) <| ag <| af ?_
  rcases Or.symm (co H) with ⟨p26, e25, H⟩ | ⟨x24, e25, H⟩
  ·subst H;refine aa ?_;show AR _ _ _ _ _ [0, 1, 2] _;refine zm rfl <| am rfl rfl (bb (c := ce (.iface 58 (.agg #[.int .i64 p26]))) [] rfl oa rfl (mS F x19 p26 e25) rfl ?_);exact And.intro rfl (Exists.intro [] ⟨ba _, rfl, rfl⟩)
  refine aa ?_;show AR _ _ _ _ _ [0, 1, 2] _;refine zm rfl <| am rfl rfl (aA rfl oa rfl (nx F x19 x24 e25) ?_);refine za rfl <| ag <| af <| af <| aa ?_;show AR _ _ _ _ _ [0, 1, 2, 3, 4, 5] _;refine zS rfl (ah (av := .pt _ _) rfl) <| zS rfl (ar rfl) <| zS rfl (an (n := 1) (by kernel_rfl) rfl) <| zR rfl (ao (i := 0) au rfl rfl rfl rfl) <| zS rfl (fh au rfl) <| zS rfl (bJ rfl rfl) <| ag <| ax rfl (fun c27 => ?_) (fun c27 => ?_)
  ·replace H := aX c27 H;refine af ?_;obtain ⟨x28, e29, H⟩ := bW H
   rcases Or.symm (co H) with ⟨p32, e31, H⟩ | ⟨x30, e31, H⟩
   ·subst H;refine aa ?_;show AR _ _ _ _ _ [0, 1, 2, 3] _;refine zm rfl <| am rfl rfl (aA rfl uf rfl (oT F x19 x28 e29) ?_);refine zS rfl (dr rfl rfl) <| am rfl rfl (bb (c := ce (.iface 58 (.agg #[.int .i64 p32]))) [] rfl bV rfl (bX F (decide (x28 = ([] : List UInt8))) p32 e31) rfl ?_);exact And.intro rfl (Exists.intro [] ⟨ba _, rfl, rfl⟩)
   refine aa ?_;show AR _ _ _ _ _ [0, 1, 2, 3] _;refine zm rfl <| am rfl rfl (aA rfl uf rfl (oT F x19 x28 e29) ?_);refine zS rfl (dr rfl rfl) <| am rfl rfl (aA rfl bV rfl (cm F (decide (x28 = ([] : List UInt8))) e31) ?_);refine ag <| af <| aa ?_;show AR _ _ _ _ _ [0] _;refine za rfl <| ag <| aG ?_;obtain rfl := ak H;exact And.intro rfl (Exists.intro _ (Exists.intro _ ⟨aF rfl (.refl _), aB [0, 0, 0] rfl, rfl, t7, rfl⟩))
  ·replace H := aY c27 H;refine aC <| af ?_;obtain ⟨x33, e34, H⟩ := bW H;refine aa ?_;show AR _ _ _ _ _ [0, 1, 2] _;refine zS rfl (ah (av := .pt _ _) rfl) <| zm rfl <| am rfl rfl (aQ [0, 0, 0] rfl tW rfl (td F o1 x22 a3 t4 a5 a6 t7 x24 x33 e34) rfl (fun c A' h => by cases h.1) ?_)
   rintro av A' ⟨h, t35, rfl⟩; cases h
   refine ag <| af <| aa ?_;show AR _ _ _ _ _ [0] _;refine za rfl <| ag <| aG ?_;obtain rfl := ak H;exact And.intro rfl (Exists.intro _ (Exists.intro _ ⟨aF rfl (.refl _), aB [0, 0, 0] rfl, rfl, t35, rfl⟩))
theorem sv (F : Nat) (o1 : Nat) (a2 : List UInt8) (a3 : List (List UInt8)) (t4 : Nat) (a5 : Int) (a6 : List (Int × (List UInt8) × (List UInt8) × List ((List UInt8) × List UInt8))) (t7 : Nat) (r8 : Bool) (r9 : List UInt8) (r10 : List (Int × (List UInt8) × (List UInt8) × List ((List UInt8) × List UInt8))) (H : jt F a2 a3 a5 a6 = some (Res.ok (r8, r9, r10))) : ACalls Tryz.prog 31 [.pt o1 0] [.obj o1 [S a2, .sk t4 a3.length, i64 a5, slE (ab Enc.int (ab Enc.str (ab Enc.str (Enc.sl (ab Enc.str Enc.str))))) a6 (some t7)], .stk t4 (Enc.str.fl a3), .tok t7 43] (fun e A' => e = .ret (B r8) ∧ ∃ t11, A' = [.obj o1 [S r9, .sk t4 a3.length, i64 a5, slE (ab Enc.int (ab Enc.str (ab Enc.str (Enc.sl (ab Enc.str Enc.str))))) r10 (some t11)], .stk t4 (Enc.str.fl a3), .tok t11 43]) := rL F o1 a2 a3 t4 a5 a6 t7 _ H
theorem rx (F : Nat) (o1 : Nat) (a2 : List UInt8) (a3 : List (List UInt8)) (t4 : Nat) (a5 : Int) (a6 : List (Int × (List UInt8) × (List UInt8) × List ((List UInt8) × List UInt8))) (t7 : Nat) (e : Int) (H : jt F a2 a3 a5 a6 = some (Res.pan e)) : ACalls Tryz.prog 31 [.pt o1 0] [.obj o1 [S a2, .sk t4 a3.length, i64 a5, slE (ab Enc.int (ab Enc.str (ab Enc.str (Enc.sl (ab Enc.str Enc.str))))) a6 (some t7)], .stk t4 (Enc.str.fl a3), .tok t7 43] (fun ae A' => ae = .pan ((fun e => ce (.iface 58 (.agg #[.int .i64 e]))) e) ∧ A' = []) := rL F o1 a2 a3 t4 a5 a6 t7 _ H
set_option maxRecDepth 100000 in
set_option maxHeartbeats 1000000 in
theorem ph (F : Nat) (o1 : Nat) (a2 : List UInt8) (a3 : List (List UInt8)) (t4 : Nat) (a5 : Int) (a6 : List (Int × (List UInt8) × (List UInt8) × List ((List UInt8) × List UInt8))) (t7 : Nat) (rv : Res (Bool × (List UInt8))) (H : jF F a2 a3 a5 a6 = some rv) : ACalls Tryz.prog 32 [.pt o1 0] [.obj o1 [S a2, .sk t4 a3.length, i64 a5, slE (ab Enc.int (ab Enc.str (ab Enc.str (Enc.sl (ab Enc.str Enc.str))))) a6 (some t7)], .stk t4 (Enc.str.fl a3), .tok t7 43] (jz (fun (r : Bool × (List UInt8)) => (fun e A' => e = .ret (B r.1) ∧ A' = [.obj o1 [S r.2, .sk t4 a3.length, i64 a5, slE (ab Enc.int (ab Enc.str (ab Enc.str (Enc.sl (ab Enc.str Enc.str))))) a6 (some t7)], .stk t4 (Enc.str.fl a3), .tok t7 43])) (fun e => ce (.iface 58 (.agg #[.int .i64 e]))) rv) := by
 unfold jF at H
 refine ap Tryz.func32 rfl rfl ?_;show AW _ _ 8 _ _ _;refine af <| aa ?_;show AR _ _ _ _ _ [0] _;refine za rfl <| ag <| af <| af ?_;obtain ⟨x10, x11, e12, H⟩ := cF H;refine aa ?_;show AR _ _ _ _ _ [0, 1, 2] _;refine zS rfl (ah (av := .pt _ _) rfl) <| am rfl rfl (aQ [0, 0, 0] rfl ez rfl (eu F o1 a2 a3 t4 a5 a6 t7 ([60, 33, 45, 45] : List UInt8) x10 x11 e12) rfl (fun c A' h => by cases h.1) ?_)
 rintro av A' ⟨h, rfl⟩; cases h
 refine zS rfl (bB rfl) <| ag <| ax rfl (fun c13 => ?_) (fun c13 => ?_)
 ·replace H := aX c13 H;refine af <| aa ?_;show AR _ _ _ _ _ [0] _;refine za rfl <| ag <| aG ?_;obtain rfl := ak H;exact And.intro rfl (Exists.intro _ (Exists.intro _ ⟨aF rfl (.refl _), aB [0, 0, 0] rfl, rfl, rfl⟩))
 ·replace H := aY c13 H;refine aC <| af ?_
  rcases Or.symm (co H) with ⟨p16, e15, H⟩ | ⟨x14, e15, H⟩
  ·subst H;refine aa ?_;show AR _ _ _ _ _ [0, 1] _;refine zS rfl (ah (av := .pt _ _) rfl) <| am rfl rfl (bb (c := ce (.iface 58 (.agg #[.int .i64 p16]))) [0, 0, 0] rfl gr rfl (hP F o1 x11 a3 t4 a5 a6 t7 ([45, 45, 62] : List UInt8) p16 e15) rfl ?_);exact And.intro rfl (Exists.intro [] ⟨ba _, rfl, rfl⟩)
  refine aa ?_;show AR _ _ _ _ _ [0, 1] _;refine zS rfl (ah (av := .pt _ _) rfl) <| am rfl rfl (aQ [0, 0, 0] rfl gr rfl (jm F o1 x11 a3 t4 a5 a6 t7 ([45, 45, 62] : List UInt8) x14.1 x14.2 e15) rfl (fun c A' h => by cases h.1) ?_)
  rintro av A' ⟨h, rfl⟩; cases h
  refine ag <| af <| aa ?_;show AR _ _ _ _ _ [0] _;refine za rfl <| ag <| aG ?_;obtain rfl := ak H;exact And.intro rfl (Exists.intro _ (Exists.intro _ ⟨aF rfl (.refl _), aB [0, 0, 0] rfl, rfl, rfl⟩))
theorem qV (F : Nat) (o1 : Nat) (a2 : List UInt8) (a3 : List (List UInt8)) (t4 : Nat) (a5 : Int) (a6 : List (Int × (List UInt8) × (List UInt8) × List ((List UInt8) × List UInt8))) (t7 : Nat) (r8 : Bool) (r9 : List UInt8) (H : jF F a2 a3 a5 a6 = some (Res.ok (r8, r9))) : ACalls Tryz.prog 32 [.pt o1 0] [.obj o1 [S a2, .sk t4 a3.length, i64 a5, slE (ab Enc.int (ab Enc.str (ab Enc.str (Enc.sl (ab Enc.str Enc.str))))) a6 (some t7)], .stk t4 (Enc.str.fl a3), .tok t7 43] (fun e A' => e = .ret (B r8) ∧ A' = [.obj o1 [S r9, .sk t4 a3.length, i64 a5, slE (ab Enc.int (ab Enc.str (ab Enc.str (Enc.sl (ab Enc.str Enc.str))))) a6 (some t7)], .stk t4 (Enc.str.fl a3), .tok t7 43]) := ph F o1 a2 a3 t4 a5 a6 t7 _ H
theorem pV (F : Nat) (o1 : Nat) (a2 : List UInt8) (a3 : List (List UInt8)) (t4 : Nat) (a5 : Int) (a6 : List (Int × (List UInt8) × (List UInt8) × List ((List UInt8) × List UInt8))) (t7 : Nat) (e : Int) (H : jF F a2 a3 a5 a6 = some (Res.pan e)) : ACalls Tryz.prog 32 [.pt o1 0] [.obj o1 [S a2, .sk t4 a3.length, i64 a5, slE (ab Enc.int (ab Enc.str (ab Enc.str (Enc.sl (ab Enc.str Enc.str))))) a6 (some t7)], .stk t4 (Enc.str.fl a3), .tok t7 43] (fun ae A' => ae = .pan ((fun e => ce (.iface 58 (.agg #[.int .i64 e]))) e) ∧ A' = []) := ph F o1 a2 a3 t4 a5 a6 t7 _ H
set_option maxRecDepth 100000 in
set_option maxHeartbeats 1000000 in
theorem wa (F : Nat) (o1 : Nat) (a2 : List UInt8) (a3 : List (List UInt8)) (t4 : Nat) (a5 : Int) (a6 : List (Int × (List UInt8) × (List UInt8) × List ((List UInt8) × List UInt8))) (t7 : Nat) (rv : Res (Bool × (List UInt8))) (H : qO F a2 a3 a5 a6 = some rv) : ACalls Tryz.prog 33 [.pt o1 0] [.obj o1 [S a2, .sk t4 a3.length, i64 a5, slE (ab Enc.int (ab Enc.str (ab Enc.str (Enc.sl (ab Enc.str Enc.str))))) a6 (some t7)], .stk t4 (Enc.str.fl a3), .tok t7 43] (jz (fun (r : Bool × (List UInt8)) => (fun e A' => e = .ret (B r.1) ∧ A' = [.obj o1 [S r.2, .sk t4 a3.length, i64 a5, slE (ab Enc.int (ab Enc.str (ab Enc.str (Enc.sl (ab Enc.str Enc.str))))) a6 (some t7)], .stk t4 (Enc.str.fl a3), .tok t7 43])) (fun e => ce (.iface 58 (.agg #[.int .i64 e]))) rv) := by
 unfold qO at H
 refine ap Tryz.func33 rfl rfl ?_;show AW _ _ 8 _ _ _;refine af <| aa ?_;show AR _ _ _ _ _ [0] _;refine za rfl <| ag <| af <| af ?_;obtain ⟨x10, x11, e12, H⟩ := cF H;refine aa ?_;show AR _ _ _ _ _ [0, 1, 2] _;refine zS rfl (ah (av := .pt _ _) rfl) <| am rfl rfl (aQ [0, 0, 0] rfl ez rfl (eu F o1 a2 a3 t4 a5 a6 t7 ([60, 63] : List UInt8) x10 x11 e12) rfl (fun c A' h => by cases h.1) ?_)
 rintro av A' ⟨h, rfl⟩; cases h
 refine zS rfl (bB rfl) <| ag <| ax rfl (fun c13 => ?_) (fun c13 => ?_)
 ·replace H := aX c13 H;refine af <| aa ?_;show AR _ _ _ _ _ [0] _;refine za rfl <| ag <| aG ?_;obtain rfl := ak H;exact And.intro rfl (Exists.intro _ (Exists.intro _ ⟨aF rfl (.refl _), aB [0, 0, 0] rfl, rfl, rfl⟩))
 ·replace H := aY c13 H;refine aC <| af ?_
  rcases Or.symm (co H) with ⟨p16, e15, H⟩ | ⟨x14, e15, H⟩
  ·subst H;refine aa ?_;show AR _ _ _ _ _ [0, 1] _;refine zS rfl (ah (av := .pt _ _) rfl) <| am rfl rfl (bb (c := ce (.iface 58 (.agg #[.int .i64 p16]))) [0, 0, 0] rfl gr rfl (hP F o1 x11 a3 t4 a5 a6 t7 ([63, 62] : List UInt8) p16 e15) rfl ?_);exact And.intro rfl (Exists.intro [] ⟨ba _, rfl, rfl⟩)
  refine aa ?_;show AR _ _ _ _ _ [0, 1] _;refine zS rfl (ah (av := .pt _ _) rfl) <| am rfl rfl (aQ [0, 0, 0] rfl gr rfl (jm F o1 x11 a3 t4 a5 a6 t7 ([63, 62] : List UInt8) x14.1 x14.2 e15) rfl (fun c A' h => by cases h.1) ?_)
  rintro av A' ⟨h, rfl⟩; cases h
  refine ag <| af <| aa ?_;show AR _ _ _ _ _ [0] _;refine za rfl <| ag <| aG ?_;obtain rfl := ak H;exact And.intro rfl (Exists.intro _ (Exists.intro _ ⟨aF rfl (.refl _), aB [0, 0, 0] rfl, rfl, rfl⟩))
theorem vx (F : Nat) (o1 : Nat) (a2 : List UInt8) (a3 : List (List UInt8)) (t4 : Nat) (a5 : Int) (a6 : List (Int × (List UInt8) × (List UInt8) × List ((List UInt8) × List UInt8))) (t7 : Nat) (r8 : Bool) (r9 : List UInt8) (H : qO F a2 a3 a5 a6 = some (Res.ok (r8, r9))) : ACalls Tryz.prog 33 [.pt o1 0] [.obj o1 [S a2, .sk t4 a3.length, i64 a5, slE (ab Enc.int (ab Enc.str (ab Enc.str (Enc.sl (ab Enc.str Enc.str))))) a6 (some t7)], .stk t4 (Enc.str.fl a3), .tok t7 43] (fun e A' => e = .ret (B r8) ∧ A' = [.obj o1 [S r9, .sk t4 a3.length, i64 a5, slE (ab Enc.int (ab Enc.str (ab Enc.str (Enc.sl (ab Enc.str Enc.str))))) a6 (some t7)], .stk t4 (Enc.str.fl a3), .tok t7 43]) := wa F o1 a2 a3 t4 a5 a6 t7 _ H
theorem uz (F : Nat) (o1 : Nat) (a2 : List UInt8) (a3 : List (List UInt8)) (t4 : Nat) (a5 : Int) (a6 : List (Int × (List UInt8) × (List UInt8) × List ((List UInt8) × List UInt8))) (t7 : Nat) (e : Int) (H : qO F a2 a3 a5 a6 = some (Res.pan e)) : ACalls Tryz.prog 33 [.pt o1 0] [.obj o1 [S a2, .sk t4 a3.length, i64 a5, slE (ab Enc.int (ab Enc.str (ab Enc.str (Enc.sl (ab Enc.str Enc.str))))) a6 (some t7)], .stk t4 (Enc.str.fl a3), .tok t7 43] (fun ae A' => ae = .pan ((fun e => ce (.iface 58 (.agg #[.int .i64 e]))) e) ∧ A' = []) := wa F o1 a2 a3 t4 a5 a6 t7 _ H
set_option maxRecDepth 100000 in
set_option maxHeartbeats 1000000 in
theorem th (F : Nat) (o1 : Nat) (a2 : List UInt8) (a3 : List (List UInt8)) (t4 : Nat) (a5 : Int) (a6 : List (Int × (List UInt8) × (List UInt8) × List ((List UInt8) × List UInt8))) (t7 : Nat) (rv : Res (Bool × (List UInt8) × (List (Int × (List UInt8) × (List UInt8) × List ((List UInt8) × List UInt8))))) (H : lY F a2 a3 a5 a6 = some rv) : ACalls Tryz.prog 34 [.pt o1 0] [.obj o1 [S a2, .sk t4 a3.length, i64 a5, slE (ab Enc.int (ab Enc.str (ab Enc.str (Enc.sl (ab Enc.str Enc.str))))) a6 (some t7)], .stk t4 (Enc.str.fl a3), .tok t7 43] (jz (fun (r : Bool × (List UInt8) × (List (Int × (List UInt8) × (List UInt8) × List ((List UInt8) × List UInt8)))) => (fun e A' => e = .ret (B r.1) ∧ ∃ t11, A' = [.obj o1 [S r.2.1, .sk t4 a3.length, i64 a5, slE (ab Enc.int (ab Enc.str (ab Enc.str (Enc.sl (ab Enc.str Enc.str))))) r.2.2 (some t11)], .stk t4 (Enc.str.fl a3), .tok t11 43])) (fun e => ce (.iface 58 (.agg #[.int .i64 e]))) rv) := by
 unfold lY at H
 refine ap Tryz.func34 rfl rfl ?_;show AW _ _ 19 _ _ _;refine af <| aa ?_;show AR _ _ _ _ _ [0] _;refine za rfl <| ag <| af <| af ?_;obtain ⟨x12, x13, e14, H⟩ := cF H;refine aa ?_;show AR _ _ _ _ _ [0, 1, 2] _;refine zS rfl (ah (av := .pt _ _) rfl) <| am rfl rfl (aQ [0, 0, 0] rfl ez rfl (eu F o1 a2 a3 t4 a5 a6 t7 ([60, 33, 91, 67, 68, 65, 84, 65, 91] : List UInt8) x12 x13 e14) rfl (fun c A' h => by cases h.1) ?_)
 rintro av A' ⟨h, rfl⟩; cases h
 refine zS rfl (bB rfl) <| ag <| ax rfl (fun c15 => ?_) (fun c15 => ?_)
 ·replace H := aX c15 H;refine af <| aa ?_;show AR _ _ _ _ _ [0] _;refine za rfl <| ag <| aG ?_;obtain rfl := ak H;exact And.intro rfl (Exists.intro _ (Exists.intro _ ⟨aF rfl (.refl _), aB [0, 0, 0] rfl, rfl, t7, rfl⟩))
 ·replace H := aY c15 H;refine aC <| af ?_
  rcases Or.symm (co H) with ⟨p18, e17, H⟩ | ⟨x16, e17, H⟩
  ·subst H;refine aa ?_;show AR _ _ _ _ _ [0, 1, 2] _;refine zS rfl (ah (av := .pt _ _) rfl) <| am rfl rfl (bb (c := ce (.iface 58 (.agg #[.int .i64 p18]))) [0, 0, 0] rfl gr rfl (hP F o1 x13 a3 t4 a5 a6 t7 ([93, 93, 62] : List UInt8) p18 e17) rfl ?_);exact And.intro rfl (Exists.intro [] ⟨ba _, rfl, rfl⟩)
  refine aa ?_;show AR _ _ _ _ _ [0, 1, 2] _;refine zS rfl (ah (av := .pt _ _) rfl) <| am rfl rfl (aQ [0, 0, 0] rfl gr rfl (jm F o1 x13 a3 t4 a5 a6 t7 ([93, 93, 62] : List UInt8) x16.1 x16.2 e17) rfl (fun c A' h => by cases h.1) ?_)
  rintro av A' ⟨h, rfl⟩; cases h
  refine za rfl <| ag <| af ?_
  rcases Or.symm (co H) with ⟨p21, e20, H⟩ | ⟨x19, e20, H⟩
  ·subst H;refine aa ?_;show AR _ _ _ _ _ [0, 1, 2, 3, 4, 5, 6] _;refine zS rfl (ah (av := .pt _ _) rfl) <| zS rfl (ar rfl) <| zS rfl (an (n := 1) (by kernel_rfl) rfl) <| zR rfl (ao (i := 0) au rfl rfl rfl rfl) <| zS rfl (fh au rfl) <| zS rfl (gp rfl rfl) <| am rfl rfl (bb (c := ce (.iface 58 (.agg #[.int .i64 p21]))) [] rfl bV rfl (bX F (decide (0 < (a3.length : Int))) p21 e20) rfl ?_);exact And.intro rfl (Exists.intro [] ⟨ba _, rfl, rfl⟩)
  refine aa ?_;show AR _ _ _ _ _ [0, 1, 2, 3, 4, 5, 6] _;refine zS rfl (ah (av := .pt _ _) rfl) <| zS rfl (ar rfl) <| zS rfl (an (n := 1) (by kernel_rfl) rfl) <| zR rfl (ao (i := 0) au rfl rfl rfl rfl) <| zS rfl (fh au rfl) <| zS rfl (gp rfl rfl) <| am rfl rfl (aA rfl bV rfl (cm F (decide (0 < (a3.length : Int))) e20) ?_);refine ag <| af ?_;obtain ⟨x22, e23, H⟩ := bW H;refine aa ?_;show AR _ _ _ _ _ [0, 1, 2] _;refine zS rfl (ah (av := .pt _ _) rfl) <| zm rfl <| am rfl rfl (aQ [0, 0, 0] rfl tW rfl (td F o1 x16.2 a3 t4 a5 a6 t7 x16.1 x22 e23) rfl (fun c A' h => by cases h.1) ?_)
  rintro av A' ⟨h, t24, rfl⟩; cases h
  refine ag <| af <| aa ?_;show AR _ _ _ _ _ [0] _;refine za rfl <| ag <| aG ?_;obtain rfl := ak H;exact And.intro rfl (Exists.intro _ (Exists.intro _ ⟨aF rfl (.refl _), aB [0, 0, 0] rfl, rfl, t24, rfl⟩))
theorem ux (F : Nat) (o1 : Nat) (a2 : List UInt8) (a3 : List (List UInt8)) (t4 : Nat) (a5 : Int) (a6 : List (Int × (List UInt8) × (List UInt8) × List ((List UInt8) × List UInt8))) (t7 : Nat) (r8 : Bool) (r9 : List UInt8) (r10 : List (Int × (List UInt8) × (List UInt8) × List ((List UInt8) × List UInt8))) (H : lY F a2 a3 a5 a6 = some (Res.ok (r8, r9, r10))) : ACalls Tryz.prog 34 [.pt o1 0] [.obj o1 [S a2, .sk t4 a3.length, i64 a5, slE (ab Enc.int (ab Enc.str (ab Enc.str (Enc.sl (ab Enc.str Enc.str))))) a6 (some t7)], .stk t4 (Enc.str.fl a3), .tok t7 43] (fun e A' => e = .ret (B r8) ∧ ∃ t11, A' = [.obj o1 [S r9, .sk t4 a3.length, i64 a5, slE (ab Enc.int (ab Enc.str (ab Enc.str (Enc.sl (ab Enc.str Enc.str))))) r10 (some t11)], .stk t4 (Enc.str.fl a3), .tok t11 43]) := th F o1 a2 a3 t4 a5 a6 t7 _ H
theorem sw (F : Nat) (o1 : Nat) (a2 : List UInt8) (a3 : List (List UInt8)) (t4 : Nat) (a5 : Int) (a6 : List (Int × (List UInt8) × (List UInt8) × List ((List UInt8) × List UInt8))) (t7 : Nat) (e : Int) (H : lY F a2 a3 a5 a6 = some (Res.pan e)) : ACalls Tryz.prog 34 [.pt o1 0] [.obj o1 [S a2, .sk t4 a3.length, i64 a5, slE (ab Enc.int (ab Enc.str (ab Enc.str (Enc.sl (ab Enc.str Enc.str))))) a6 (some t7)], .stk t4 (Enc.str.fl a3), .tok t7 43] (fun ae A' => ae = .pan ((fun e => ce (.iface 58 (.agg #[.int .i64 e]))) e) ∧ A' = []) := th F o1 a2 a3 t4 a5 a6 t7 _ H
set_option maxRecDepth 100000 in
set_option maxHeartbeats 1000000 in
theorem vZ (F : Nat) (o1 : Nat) (a2 : List UInt8) (a3 : List (List UInt8)) (t4 : Nat) (a5 : Int) (a6 : List (Int × (List UInt8) × (List UInt8) × List ((List UInt8) × List UInt8))) (t7 : Nat) (rv : Res (Bool × (List UInt8))) (H : qN F a2 a3 a5 a6 = some rv) : ACalls Tryz.prog 35 [.pt o1 0] [.obj o1 [S a2, .sk t4 a3.length, i64 a5, slE (ab Enc.int (ab Enc.str (ab Enc.str (Enc.sl (ab Enc.str Enc.str))))) a6 (some t7)], .stk t4 (Enc.str.fl a3), .tok t7 43] (jz (fun (r : Bool × (List UInt8)) => (fun e A' => e = .ret (B r.1) ∧ A' = [.obj o1 [S r.2, .sk t4 a3.length, i64 a5, slE (ab Enc.int (ab Enc.str (ab Enc.str (Enc.sl (ab Enc.str Enc.str))))) a6 (some t7)], .stk t4 (Enc.str.fl a3), .tok t7 43])) (fun e => ce (.iface 58 (.agg #[.int .i64 e]))) rv) := by
 unfold qN at H
 refine ap Tryz.func35 rfl rfl ?_;show AW _ _ 8 _ _ _;refine af <| aa ?_;show AR _ _ _ _ _ [0] _;refine za rfl <| ag <| af <| af ?_;obtain ⟨x10, x11, e12, H⟩ := cF H;refine aa ?_;show AR _ _ _ _ _ [0, 1, 2] _;refine zS rfl (ah (av := .pt _ _) rfl) <| am rfl rfl (aQ [0, 0, 0] rfl ez rfl (eu F o1 a2 a3 t4 a5 a6 t7 ([60, 33] : List UInt8) x10 x11 e12) rfl (fun c A' h => by cases h.1) ?_)
 rintro av A' ⟨h, rfl⟩; cases h
 refine zS rfl (bB rfl) <| ag <| ax rfl (fun c13 => ?_) (fun c13 => ?_)
 ·replace H := aX c13 H;refine af <| aa ?_;show AR _ _ _ _ _ [0] _;refine za rfl <| ag <| aG ?_;obtain rfl := ak H;exact And.intro rfl (Exists.intro _ (Exists.intro _ ⟨aF rfl (.refl _), aB [0, 0, 0] rfl, rfl, rfl⟩))
 ·replace H := aY c13 H;refine aC <| af ?_
  rcases Or.symm (co H) with ⟨p16, e15, H⟩ | ⟨x14, e15, H⟩
  ·subst H;refine aa ?_;show AR _ _ _ _ _ [0, 1] _;refine zS rfl (ah (av := .pt _ _) rfl) <| am rfl rfl (bb (c := ce (.iface 58 (.agg #[.int .i64 p16]))) [0, 0, 0] rfl gr rfl (hP F o1 x11 a3 t4 a5 a6 t7 ([62] : List UInt8) p16 e15) rfl ?_);exact And.intro rfl (Exists.intro [] ⟨ba _, rfl, rfl⟩)
  refine aa ?_;show AR _ _ _ _ _ [0, 1] _;refine zS rfl (ah (av := .pt _ _) rfl) <| am rfl rfl (aQ [0, 0, 0] rfl gr rfl (jm F o1 x11 a3 t4 a5 a6 t7 ([62] : List UInt8) x14.1 x14.2 e15) rfl (fun c A' h => by cases h.1) ?_)
  rintro av A' ⟨h, rfl⟩; cases h
  refine ag <| af <| aa ?_;show AR _ _ _ _ _ [0] _;refine za rfl <| ag <| aG ?_;obtain rfl := ak H;exact And.intro rfl (Exists.intro _ (Exists.intro _ ⟨aF rfl (.refl _), aB [0, 0, 0] rfl, rfl, rfl⟩))
theorem vv (F : Nat) (o1 : Nat) (a2 : List UInt8) (a3 : List (List UInt8)) (t4 : Nat) (a5 : Int) (a6 : List (Int × (List UInt8) × (List UInt8) × List ((List UInt8) × List UInt8))) (t7 : Nat) (r8 : Bool) (r9 : List UInt8) (H : qN F a2 a3 a5 a6 = some (Res.ok (r8, r9))) : ACalls Tryz.prog 35 [.pt o1 0] [.obj o1 [S a2, .sk t4 a3.length, i64 a5, slE (ab Enc.int (ab Enc.str (ab Enc.str (Enc.sl (ab Enc.str Enc.str))))) a6 (some t7)], .stk t4 (Enc.str.fl a3), .tok t7 43] (fun e A' => e = .ret (B r8) ∧ A' = [.obj o1 [S r9, .sk t4 a3.length, i64 a5, slE (ab Enc.int (ab Enc.str (ab Enc.str (Enc.sl (ab Enc.str Enc.str))))) a6 (some t7)], .stk t4 (Enc.str.fl a3), .tok t7 43]) := vZ F o1 a2 a3 t4 a5 a6 t7 _ H
theorem uw (F : Nat) (o1 : Nat) (a2 : List UInt8) (a3 : List (List UInt8)) (t4 : Nat) (a5 : Int) (a6 : List (Int × (List UInt8) × (List UInt8) × List ((List UInt8) × List UInt8))) (t7 : Nat) (e : Int) (H : qN F a2 a3 a5 a6 = some (Res.pan e)) : ACalls Tryz.prog 35 [.pt o1 0] [.obj o1 [S a2, .sk t4 a3.length, i64 a5, slE (ab Enc.int (ab Enc.str (ab Enc.str (Enc.sl (ab Enc.str Enc.str))))) a6 (some t7)], .stk t4 (Enc.str.fl a3), .tok t7 43] (fun ae A' => ae = .pan ((fun e => ce (.iface 58 (.agg #[.int .i64 e]))) e) ∧ A' = []) := vZ F o1 a2 a3 t4 a5 a6 t7 _ H
set_option maxRecDepth 100000 in
set_option maxHeartbeats 1000000 in
theorem qt (F : Nat) (o1 : Nat) (a2 : List UInt8) (a3 : List (List UInt8)) (t4 : Nat) (a5 : Int) (a6 : List (Int × (List UInt8) × (List UInt8) × List ((List UInt8) × List UInt8))) (t7 : Nat) (rv : Res (Bool × (List UInt8) × (List (Int × (List UInt8) × (List UInt8) × List ((List UInt8) × List UInt8))) × (List (List UInt8)))) (H : ja F a2 a3 a5 a6 = some rv) : ACalls Tryz.prog 36 [.pt o1 0] [.obj o1 [S a2, .sk t4 a3.length, i64 a5, slE (ab Enc.int (ab Enc.str (ab Enc.str (Enc.sl (ab Enc.str Enc.str))))) a6 (some t7)], .stk t4 (Enc.str.fl a3), .tok t7 43] (jz (fun (r : Bool × (List UInt8) × (List (Int × (List UInt8) × (List UInt8) × List ((List UInt8) × List UInt8))) × (List (List UInt8))) => (fun e A' => e = .ret (B r.1) ∧ ∃ t11 t13, A' = [.obj o1 [S r.2.1, .sk t11 r.2.2.2.length, i64 a5, slE (ab Enc.int (ab Enc.str (ab Enc.str (Enc.sl (ab Enc.str Enc.str))))) r.2.2.1 (some t13)], .stk t11 (Enc.str.fl r.2.2.2), .tok t13 43])) (fun e => ce (.iface 58 (.agg #[.int .i64 e]))) rv) := by
 unfold ja at H
 refine ap Tryz.func36 rfl rfl ?_;show AW _ _ 17 _ _ _;refine af <| aa ?_;show AR _ _ _ _ _ [0] _;refine za rfl <| ag <| af <| af ?_;obtain ⟨x14, x15, e16, H⟩ := cF H;refine aa ?_;show AR _ _ _ _ _ [0, 1, 2] _;refine zS rfl (ah (av := .pt _ _) rfl) <| am rfl rfl (aQ [0, 0, 0] rfl ez rfl (eu F o1 a2 a3 t4 a5 a6 t7 ([60, 47] : List UInt8) x14 x15 e16) rfl (fun c A' h => by cases h.1) ?_)
 rintro av A' ⟨h, rfl⟩; cases h
 refine zS rfl (bB rfl) <| ag <| ax rfl (fun c17 => ?_) (fun c17 => ?_)
 ·replace H := aX c17 H;refine af <| aa ?_;show AR _ _ _ _ _ [0] _;refine za rfl <| ag <| aG ?_;obtain rfl := ak H;exact And.intro rfl (Exists.intro _ (Exists.intro _ ⟨aF rfl (.refl _), aB [0, 0, 0] rfl, rfl, t4, t7, rfl⟩))
 ·replace H := aY c17 H;refine aC <| af ?_
  rcases Or.symm (co H) with ⟨p20, e19, H⟩ | ⟨x18, e19, H⟩
  ·subst H;refine aa ?_;show AR _ _ _ _ _ [0, 1, 2] _;refine zS rfl (ah (av := .pt _ _) rfl) <| am rfl rfl (bb (c := ce (.iface 58 (.agg #[.int .i64 p20]))) [0, 0, 0] rfl kX rfl (lQ F o1 x15 a3 t4 a5 a6 t7 p20 e19) rfl ?_);exact And.intro rfl (Exists.intro [] ⟨ba _, rfl, rfl⟩)
  refine aa ?_;show AR _ _ _ _ _ [0, 1, 2] _;refine zS rfl (ah (av := .pt _ _) rfl) <| am rfl rfl (aQ [0, 0, 0] rfl kX rfl (mI F o1 x15 a3 t4 a5 a6 t7 x18.1 x18.2 e19) rfl (fun c A' h => by cases h.1) ?_)
  rintro av A' ⟨h, rfl⟩; cases h
  refine za rfl <| ag <| af ?_;obtain ⟨x21, x22, e23, H⟩ := cF H;refine aa ?_;show AR _ _ _ _ _ [0, 1] _;refine zS rfl (ah (av := .pt _ _) rfl) <| am rfl rfl (aQ [0, 0, 0] rfl tV rfl (qs F o1 x18.2 a3 t4 a5 a6 t7 x21 x22 e23) rfl (fun c A' h => by cases h.1) ?_)
  rintro av A' ⟨h, rfl⟩; cases h
  refine ag <| af ?_;obtain ⟨x24, x25, e26, H⟩ := cF H
  rcases Or.symm (co H) with ⟨p29, e28, H⟩ | ⟨x27, e28, H⟩
  ·subst H;refine aa ?_;show AR _ _ _ _ _ [0, 1, 2] _;refine zS rfl (ah (av := .pt _ _) rfl) <| am rfl rfl (aQ [0, 0, 0] rfl ez rfl (eu F o1 x22 a3 t4 a5 a6 t7 ([62] : List UInt8) x24 x25 e26) rfl (fun c A' h => by cases h.1) ?_)
   rintro av A' ⟨h, rfl⟩; cases h
   refine am rfl rfl (bb (c := ce (.iface 58 (.agg #[.int .i64 p29]))) [] rfl bV rfl (bX F x24 p29 e28) rfl ?_);exact And.intro rfl (Exists.intro [] ⟨ba _, rfl, rfl⟩)
  refine aa ?_;show AR _ _ _ _ _ [0, 1, 2] _;refine zS rfl (ah (av := .pt _ _) rfl) <| am rfl rfl (aQ [0, 0, 0] rfl ez rfl (eu F o1 x22 a3 t4 a5 a6 t7 ([62] : List UInt8) x24 x25 e26) rfl (fun c A' h => by cases h.1) ?_)
  rintro av A' ⟨h, rfl⟩; cases h
  refine am rfl rfl (aA rfl bV rfl (cm F x24 e28) ?_);refine ag <| af ?_
  rcases Or.symm (co H) with ⟨p32, e31, H⟩ | ⟨x30, e31, H⟩
  ·subst H;refine aa ?_;show AR _ _ _ _ _ [0, 1, 2] _;refine zS rfl (ah (av := .pt _ _) rfl) <| zm rfl <| am rfl rfl (bb (c := ce (.iface 58 (.agg #[.int .i64 p32]))) [0, 0, 0] rfl nZ rfl (oB F o1 x25 a3 t4 a5 a6 t7 x18.1 p32 e31) rfl ?_);exact And.intro rfl (Exists.intro [] ⟨ba _, rfl, rfl⟩)
  refine aa ?_;show AR _ _ _ _ _ [0, 1, 2] _;refine zS rfl (ah (av := .pt _ _) rfl) <| zm rfl <| am rfl rfl (aQ [0, 0, 0] rfl nZ rfl (pf F o1 x25 a3 t4 a5 a6 t7 x18.1 x30.1 x30.2 e31) rfl (fun c A' h => by cases h.1) ?_)
  rintro av A' ⟨h, t33, t34, rfl⟩; cases h
  refine ag <| af <| aa ?_;show AR _ _ _ _ _ [0] _;refine za rfl <| ag <| aG ?_;obtain rfl := ak H;exact And.intro rfl (Exists.intro _ (Exists.intro _ ⟨aF rfl (.refl _), aB [0, 0, 0] rfl, rfl, t33, t34, rfl⟩))
theorem ry (F : Nat) (o1 : Nat) (a2 : List UInt8) (a3 : List (List UInt8)) (t4 : Nat) (a5 : Int) (a6 : List (Int × (List UInt8) × (List UInt8) × List ((List UInt8) × List UInt8))) (t7 : Nat) (r8 : Bool) (r9 : List UInt8) (r12 : List (Int × (List UInt8) × (List UInt8) × List ((List UInt8) × List UInt8))) (r10 : List (List UInt8)) (H : ja F a2 a3 a5 a6 = some (Res.ok (r8, r9, r12, r10))) : ACalls Tryz.prog 36 [.pt o1 0] [.obj o1 [S a2, .sk t4 a3.length, i64 a5, slE (ab Enc.int (ab Enc.str (ab Enc.str (Enc.sl (ab Enc.str Enc.str))))) a6 (some t7)], .stk t4 (Enc.str.fl a3), .tok t7 43] (fun e A' => e = .ret (B r8) ∧ ∃ t11 t13, A' = [.obj o1 [S r9, .sk t11 r10.length, i64 a5, slE (ab Enc.int (ab Enc.str (ab Enc.str (Enc.sl (ab Enc.str Enc.str))))) r12 (some t13)], .stk t11 (Enc.str.fl r10), .tok t13 43]) := qt F o1 a2 a3 t4 a5 a6 t7 _ H
theorem qT (F : Nat) (o1 : Nat) (a2 : List UInt8) (a3 : List (List UInt8)) (t4 : Nat) (a5 : Int) (a6 : List (Int × (List UInt8) × (List UInt8) × List ((List UInt8) × List UInt8))) (t7 : Nat) (e : Int) (H : ja F a2 a3 a5 a6 = some (Res.pan e)) : ACalls Tryz.prog 36 [.pt o1 0] [.obj o1 [S a2, .sk t4 a3.length, i64 a5, slE (ab Enc.int (ab Enc.str (ab Enc.str (Enc.sl (ab Enc.str Enc.str))))) a6 (some t7)], .stk t4 (Enc.str.fl a3), .tok t7 43] (fun ae A' => ae = .pan ((fun e => ce (.iface 58 (.agg #[.int .i64 e]))) e) ∧ A' = []) := qt F o1 a2 a3 t4 a5 a6 t7 _ H
set_option maxRecDepth 100000 in
set_option maxHeartbeats 1000000 in
theorem ti (F : Nat) (o1 : Nat) (a2 : List UInt8) (a3 : List (List UInt8)) (t4 : Nat) (a5 : Int) (a6 : List (Int × (List UInt8) × (List UInt8) × List ((List UInt8) × List UInt8))) (t7 : Nat) (rv : Res ((List UInt8) × (List UInt8) × (List UInt8))) (H : nd F a2 a3 a5 a6 = some rv) : ACalls Tryz.prog 53 [.pt o1 0] [.obj o1 [S a2, .sk t4 a3.length, i64 a5, slE (ab Enc.int (ab Enc.str (ab Enc.str (Enc.sl (ab Enc.str Enc.str))))) a6 (some t7)], .stk t4 (Enc.str.fl a3), .tok t7 43] (jz (fun (r : (List UInt8) × (List UInt8) × (List UInt8)) => (fun e A' => e = .ret (.agg [S r.1, S r.2.1]) ∧ A' = [.obj o1 [S r.2.2, .sk t4 a3.length, i64 a5, slE (ab Enc.int (ab Enc.str (ab Enc.str (Enc.sl (ab Enc.str Enc.str))))) a6 (some t7)], .stk t4 (Enc.str.fl a3), .tok t7 43])) (fun e => ce (.iface 58 (.agg #[.int .i64 e]))) rv) := by
 unfold nd at H
 refine ap Tryz.func53 rfl rfl ?_;show AW _ _ 26 _ _ _;refine af <| aa ?_;show AR _ _ _ _ _ [0] _;refine zX rfl (bg (zs := [.string ⟨#[]⟩, .string ⟨#[]⟩]) (by kernel_rfl)) ?_;rintro _ _ ⟨o11, rfl, rfl⟩;refine ag <| af ?_
 rcases Or.symm (co H) with ⟨p14, e13, H⟩ | ⟨x12, e13, H⟩
 ·subst H;refine aa ?_;show AR _ _ _ _ _ [0, 1, 2, 3, 4] _;refine zS rfl (ah (av := .pt _ _) rfl) <| am rfl rfl (bb (c := ce (.iface 58 (.agg #[.int .i64 p14]))) [1, 1, 1] rfl kX rfl (lQ F o1 a2 a3 t4 a5 a6 t7 p14 e13) rfl ?_);exact And.intro rfl (Exists.intro [] ⟨ba _, rfl, rfl⟩)
 refine aa ?_;show AR _ _ _ _ _ [0, 1, 2, 3, 4] _;refine zS rfl (ah (av := .pt _ _) rfl) <| am rfl rfl (aQ [1, 1, 1] rfl kX rfl (mI F o1 a2 a3 t4 a5 a6 t7 x12.1 x12.2 e13) rfl (fun c A' h => by cases h.1) ?_)
 rintro av A' ⟨h, rfl⟩; cases h
 refine zS rfl (cP (zs := [.string ⟨#[]⟩, .string ⟨#[]⟩]) (ps := [(0, 1), (1, 1)]) (cs := [S x12.1, S ([] : List UInt8)]) (by kernel_rfl) rfl rfl) <| zX rfl (bg (zs := [.string ⟨#[]⟩, .string ⟨#[]⟩]) (by kernel_rfl)) ?_;rintro _ _ ⟨o15, rfl, rfl⟩;refine s0 rfl rfl (aV (i := 0) (vs := [S x12.1, S ([] : List UInt8)]) (by kernel_rfl) rfl rfl (by simp [bA, slE]) rfl (ac rfl)) <| ag <| af <| aa ?_;show AR _ _ _ _ _ [0] _;refine za rfl <| ag <| bL (X := (List UInt8) × (List UInt8)) (fun (y26, y27) => ⟨[(0, .pt o1 0), (2, .pt o11 0), (3, .pt o15 0), (4, S y26)], [], [.obj o1 [S y27, .sk t4 a3.length, i64 a5, slE (ab Enc.int (ab Enc.str (ab Enc.str (Enc.sl (ab Enc.str Enc.str))))) a6 (some t7)], .obj o15 [S x12.1, S ([] : List UInt8)], .obj o11 [S ([] : List UInt8), S ([] : List UInt8)], .stk t4 (Enc.str.fl a3), .tok t7 43]⟩) (fun (y26, y27) => iE F a3 a5 a6 x12 y26 y27 = some rv) ?_ ?_
 ·refine af ?_;obtain ⟨x16, x17, e18, H⟩ := cF H;refine aa ?_;show AR _ _ _ _ _ [0, 1, 2] _;refine zS rfl (ah (av := .pt _ _) rfl) <| am rfl rfl (aQ [1, 1, 1] rfl ez rfl (eu F o1 x12.2 a3 t4 a5 a6 t7 ([61, 34] : List UInt8) x16 x17 e18) rfl (fun c A' h => by cases h.1) ?_)
  rintro av A' ⟨h, rfl⟩; cases h
  refine zS rfl (bB rfl) <| ag <| ax rfl (fun c19 => ?_) (fun c19 => ?_)
  ·replace H := aX c19 H;refine af ?_;obtain ⟨x20, x21, e22, H⟩ := cF H
   rcases Or.symm (co H) with ⟨p25, e24, H⟩ | ⟨x23, e24, H⟩
   ·subst H;refine aa ?_;show AR _ _ _ _ _ [0, 1, 2] _;refine zS rfl (ah (av := .pt _ _) rfl) <| am rfl rfl (aQ [0, 0, 0] rfl ez rfl (eu F o1 x17 a3 t4 a5 a6 t7 ([61, 39] : List UInt8) x20 x21 e22) rfl (fun c A' h => by cases h.1) ?_)
    rintro av A' ⟨h, rfl⟩; cases h
    refine am rfl rfl (bb (c := ce (.iface 58 (.agg #[.int .i64 p25]))) [] rfl bV rfl (bX F x20 p25 e24) rfl ?_);exact And.intro rfl (Exists.intro [] ⟨ba _, rfl, rfl⟩)
   refine aa ?_;show AR _ _ _ _ _ [0, 1, 2] _;refine zS rfl (ah (av := .pt _ _) rfl) <| am rfl rfl (aQ [0, 0, 0] rfl ez rfl (eu F o1 x17 a3 t4 a5 a6 t7 ([61, 39] : List UInt8) x20 x21 e22) rfl (fun c A' h => by cases h.1) ?_)
   rintro av A' ⟨h, rfl⟩; cases h
   refine am rfl rfl (aA rfl bV rfl (cm F x20 e24) ?_);refine ag <| aa ?_;show AR _ _ _ _ _ [0] _;refine za rfl <| ag ?_;exact Exists.intro (([39] : List UInt8), x21) ⟨H, be [0, 2, 2, 0, 0] (.cons (.refl _) (.cons (.refl _) (.cons (.refl _) (.cons (.refl _) (.nil _))))) rfl⟩
  ·replace H := aY c19 H;refine aC ?_;exact Exists.intro (([34] : List UInt8), x17) ⟨H, be [0, 2, 2, 0, 0] (.cons (.refl _) (.cons (.refl _) (.cons (.refl _) (.cons (.refl _) (.nil _))))) rfl⟩
 rintro ⟨y26, y27⟩ H;replace H : iE F a3 a5 a6 x12 y26 y27 = some rv := H
 unfold iE at H
 refine af ?_
 rcases Or.symm (co H) with ⟨p31, e30, H⟩ | ⟨x29, e30, H⟩
 ·subst H;refine aa ?_;show AR _ _ _ _ _ [0, 1, 2, 3] _;refine zS rfl (ah (av := .pt _ _) rfl) <| zm rfl <| am rfl rfl (bb (c := ce (.iface 58 (.agg #[.int .i64 p31]))) [0, 2, 2] rfl gr rfl (hP F o1 y27 a3 t4 a5 a6 t7 y26 p31 e30) rfl ?_);exact And.intro rfl (Exists.intro [] ⟨ba _, rfl, rfl⟩)
 refine aa ?_;show AR _ _ _ _ _ [0, 1, 2, 3] _;refine zS rfl (ah (av := .pt _ _) rfl) <| zm rfl <| am rfl rfl (aQ [0, 2, 2] rfl gr rfl (jm F o1 y27 a3 t4 a5 a6 t7 y26 x29.1 x29.2 e30) rfl (fun c A' h => by cases h.1) ?_)
 rintro av A' ⟨h, rfl⟩; cases h
 refine za rfl <| ag <| af ?_;obtain ⟨g32, H⟩ := aM H;obtain ⟨x33, e34, H⟩ := bM H
 rcases Or.symm (co H) with ⟨p37, e36, H⟩ | ⟨x35, e36, H⟩
 ·subst H;refine aa ?_;show AR _ _ _ _ _ [0, 1, 2, 3] _;refine zm rfl <| am rfl rfl (aA rfl qm rfl (show ACalls _ _ _ [] (Ret (B x33) []) from by subst e34; exact gS x29.1 ([60] : List UInt8) (nb g32)) ?_);refine zS rfl (bB rfl) <| am rfl rfl (bb (c := ce (.iface 58 (.agg #[.int .i64 p37]))) [] rfl bV rfl (bX F (!x33) p37 e36) rfl ?_);exact And.intro rfl (Exists.intro [] ⟨ba _, rfl, rfl⟩)
 refine aa ?_;show AR _ _ _ _ _ [0, 1, 2, 3] _;refine zm rfl <| am rfl rfl (aA rfl qm rfl (show ACalls _ _ _ [] (Ret (B x33) []) from by subst e34; exact gS x29.1 ([60] : List UInt8) (nb g32)) ?_);refine zS rfl (bB rfl) <| am rfl rfl (aA rfl bV rfl (cm F (!x33) e36) ?_);refine ag <| af ?_
 rcases Or.symm (co H) with ⟨p40, e39, H⟩ | ⟨x38, e39, H⟩
 ·subst H;refine aa ?_;show AR _ _ _ _ _ [0, 1, 2, 3] _;refine zm rfl <| am rfl rfl (bb (c := ce (.iface 58 (.agg #[.int .i64 p40]))) [] rfl oa rfl (mS F x29.1 p40 e39) rfl ?_);exact And.intro rfl (Exists.intro [] ⟨ba _, rfl, rfl⟩)
 refine aa ?_;show AR _ _ _ _ _ [0, 1, 2, 3] _;refine zm rfl <| am rfl rfl (aA rfl oa rfl (nx F x29.1 x38 e39) ?_);refine zS rfl (an (n := 1) (by kernel_rfl) rfl) <| s0 rfl rfl (aq (i := 3) (c := .v _) (by kernel_rfl) rfl rfl rfl rfl (ac rfl)) <| ag <| af <| aa ?_;show AR _ _ _ _ _ [0, 1] _;refine zR rfl (dY (i := 3) (n := 2) Tryz.underlying94 rfl (by kernel_rfl) rfl rfl (ac rfl)) <| s0 rfl rfl (aV (i := 4) (vs := [S x12.1, S x38]) (by kernel_rfl) rfl rfl (by simp [bA, slE]) rfl (ac rfl)) <| ag <| aG ?_;obtain rfl := ak H;exact And.intro rfl (Exists.intro _ (Exists.intro _ ⟨dh (lM rfl (CellV.agg (off := 0) (cs := [S x12.1, S x38]) (n := 2) 4 Tryz.underlying94 rfl (by kernel_rfl) rfl rfl (ac rfl))), aB [0, 0, 0] rfl, rfl, rfl⟩))
theorem uy (F : Nat) (o1 : Nat) (a2 : List UInt8) (a3 : List (List UInt8)) (t4 : Nat) (a5 : Int) (a6 : List (Int × (List UInt8) × (List UInt8) × List ((List UInt8) × List UInt8))) (t7 : Nat) (r8 : List UInt8) (r9 : List UInt8) (r10 : List UInt8) (H : nd F a2 a3 a5 a6 = some (Res.ok (r8, r9, r10))) : ACalls Tryz.prog 53 [.pt o1 0] [.obj o1 [S a2, .sk t4 a3.length, i64 a5, slE (ab Enc.int (ab Enc.str (ab Enc.str (Enc.sl (ab Enc.str Enc.str))))) a6 (some t7)], .stk t4 (Enc.str.fl a3), .tok t7 43] (fun e A' => e = .ret (.agg [S r8, S r9]) ∧ A' = [.obj o1 [S r10, .sk t4 a3.length, i64 a5, slE (ab Enc.int (ab Enc.str (ab Enc.str (Enc.sl (ab Enc.str Enc.str))))) a6 (some t7)], .stk t4 (Enc.str.fl a3), .tok t7 43]) := ti F o1 a2 a3 t4 a5 a6 t7 _ H
theorem sx (F : Nat) (o1 : Nat) (a2 : List UInt8) (a3 : List (List UInt8)) (t4 : Nat) (a5 : Int) (a6 : List (Int × (List UInt8) × (List UInt8) × List ((List UInt8) × List UInt8))) (t7 : Nat) (e : Int) (H : nd F a2 a3 a5 a6 = some (Res.pan e)) : ACalls Tryz.prog 53 [.pt o1 0] [.obj o1 [S a2, .sk t4 a3.length, i64 a5, slE (ab Enc.int (ab Enc.str (ab Enc.str (Enc.sl (ab Enc.str Enc.str))))) a6 (some t7)], .stk t4 (Enc.str.fl a3), .tok t7 43] (fun ae A' => ae = .pan ((fun e => ce (.iface 58 (.agg #[.int .i64 e]))) e) ∧ A' = []) := ti F o1 a2 a3 t4 a5 a6 t7 _ H
set_option maxRecDepth 100000 in
set_option maxHeartbeats 1000000 in
theorem wW (F : Nat) (a1 : List UInt8) (a2 : List UInt8) (o3 : Nat) (a4 : List UInt8) (a5 : List UInt8) (r6 : Bool) (H : pC F a1 a2 a4 a5 = some r6) : ACalls Tryz.prog 55 [.agg [S a1, S a2], .pt o3 0] [.obj o3 [S a4, S a5]] (fun e A' => e = .ret (B r6) ∧ A' = [.obj o3 [S a4, S a5]]) := by
 unfold pC at H
 refine ap Tryz.func55 rfl rfl ?_;show AW _ _ 9 _ _ _;refine af <| aa ?_;show AR _ _ _ _ _ [0, 1] _;refine zR rfl (dQ rfl (.inr ⟨_, rfl⟩)) <| za rfl <| ag <| af <| aa ?_;show AR _ _ _ _ _ [0, 1, 2, 3, 4, 5] _;refine zS rfl (an (n := 0) (by kernel_rfl) rfl) <| zR rfl (ao (i := 0) ai rfl rfl rfl rfl) <| zS rfl (aP (n := 0) (by kernel_rfl) rfl (ac rfl)) <| zS rfl (aL ai rfl rfl) <| zS rfl (dr rfl rfl) <| za rfl <| ag <| aG ?_;obtain rfl := ak H;exact And.intro rfl (Exists.intro _ (Exists.intro _ ⟨aF rfl (.refl _), aB [0] rfl, rfl, rfl⟩))
set_option maxRecDepth 100000 in
set_option maxHeartbeats 1000000 in
theorem rz (F : Nat) (a1 : List ((List UInt8) × List UInt8)) (q2 : Option Nat) (o3 : Nat) (a4 : List UInt8) (a5 : List UInt8) (r6 : Int) (H : kK F a1 a4 a5 = some r6) : ACalls Tryz.prog 65 [slE (ab Enc.str Enc.str) a1 q2, .fn (.func 55) [] [.pt o3 0]] [.obj o3 [S a4, S a5]] (fun e A' => e = .ret (i64 r6) ∧ A' = [.obj o3 [S a4, S a5]]) := by
 unfold kK at H
 refine ap Tryz.func65 rfl rfl ?_;show AW _ _ 19 _ _ _;refine af <| aa ?_;show AR _ _ _ _ _ [0] _;refine za rfl <| ag <| bL (X := Unit) (fun _ => ⟨[], [], [.obj o3 [S a4, S a5]]⟩) (fun _ => ip = some r6) ?_ ?_
 ·refine af <| aa ?_;show AR _ _ _ _ _ [0, 1, 2] _;refine zS rfl (ah (av := slE _ _ _) rfl) <| zS rfl (bE cn rfl) <| zm rfl <| ag <| aU <| dk (X := Nat × Int) (fun (n9, y7) => ⟨[(0, slE (ab Enc.str Enc.str) a1 q2), (1, .fn (.func 55) [] [.pt o3 0]), (7, i64 (a1.length : Int)), (8, i64 y7)], [], [.obj o3 [S a4, S a5]]⟩) (fun (n9, y7) => eK F a1 a4 a5 n9 y7 = some r6) (fun (n9, y7) => n9) (F, 0) H (be [0] (.cons (.refl _) (.cons (.refl _) (.cons (.refl _) (.cons (.refl _) (.nil _))))) rfl) ?_;rintro ⟨n9, y7⟩ H;obtain ⟨n9, rfl, H⟩ := fC H;replace H : fV F a1 a4 a5 (eK F a1 a4 a5 n9) y7 = some r6 := H
  unfold fV at H
  refine af <| aa ?_;show AR _ _ _ _ _ [0] _;refine zS rfl (cd rfl rfl) <| ag <| af <| ax rfl (fun c10 => ?_) (fun c10 => ?_)
  ·replace H := aX c10 H;refine aC <| af <| aU <| af <| aa ?_;show AR _ _ _ _ _ [0, 1] _;refine zm rfl <| za rfl <| ag <| af ?_;obtain ⟨g11, H⟩ := aM H;obtain ⟨x12, e13, H⟩ := bM H;obtain ⟨x14, e15, H⟩ := bW H;refine aa ?_;show AR _ _ _ _ _ [0, 1, 2, 3, 4, 5] _;refine zS rfl (ah (av := .fn _ _ _) rfl) <| zS rfl (ah (av := slE _ _ _) rfl) <| zm rfl <| zS rfl (dF (E := (ab Enc.str Enc.str)) cn (by kernel_rfl) rfl rfl g11 e13) <| zS rfl (ct Tryz.underlying94 rfl (n := 2) (by kernel_rfl) rfl (ac rfl)) <| am rfl rfl (fu [0] rfl (.inl rfl) zy rfl (wW F x12.1 x12.2 o3 a4 a5 x14 e15) rfl (fun c A' h => by cases h.1) ?_)
   rintro av A' ⟨h, rfl⟩; cases h
   refine ag <| ax rfl (fun c16 => ?_) (fun c16 => ?_)
   ·replace H := aX c16 H;refine af <| aa ?_;show AR _ _ _ _ _ [0, 1] _;refine zm rfl <| za rfl <| ag <| aG ?_;obtain rfl := ak H;exact And.intro rfl (Exists.intro _ (Exists.intro _ ⟨aF rfl (.refl _), aB [0] rfl, rfl, rfl⟩))
   ·replace H := aY c16 H;refine aC ?_;obtain ⟨g17, H⟩ := aM H;refine aa ?_;show AR _ _ _ _ _ [0, 1] _;refine zS rfl (di rfl rfl g17) <| zm rfl <| ag ?_;exact Exists.intro (n9, y7 + 1) ⟨H, Nat.lt_succ_self _, be [0] (.cons (.refl _) (.cons (.refl _) (.cons (.refl _) (.cons (.refl _) (.nil _))))) rfl⟩
  ·replace H := aY c10 H;refine cB ?_;exact Exists.intro () ⟨H, be [0] (.nil _) rfl⟩
 rintro _ H;replace H : ip = some r6 := H
 unfold ip at H
 refine af <| aa ?_;show AR _ _ _ _ _ [0] _;refine za rfl <| ag <| aG ?_;obtain rfl := ak H;exact And.intro rfl (Exists.intro _ (Exists.intro _ ⟨aF rfl (.refl _), aB [0] rfl, rfl, rfl⟩))
set_option maxRecDepth 100000 in
set_option maxHeartbeats 1000000 in
theorem lF (F : Nat) (a1 : List ((List UInt8) × List UInt8)) (q2 : Option Nat) (o3 : Nat) (a4 : List UInt8) (a5 : List UInt8) (r6 : Bool) (H : fW F a1 a4 a5 = some r6) : ACalls Tryz.prog 54 [slE (ab Enc.str Enc.str) a1 q2, .fn (.func 55) [] [.pt o3 0]] [.obj o3 [S a4, S a5]] (fun e A' => e = .ret (B r6) ∧ A' = [.obj o3 [S a4, S a5]]) := by
 unfold fW at H
 refine ap Tryz.func54 rfl rfl ?_;show AW _ _ 9 _ _ _;refine af <| aa ?_;show AR _ _ _ _ _ [0] _;refine za rfl <| ag <| af ?_;obtain ⟨x7, e8, H⟩ := bW H;refine aa ?_;show AR _ _ _ _ _ [0, 1, 2, 3, 4] _;refine zS rfl (ah (av := slE _ _ _) rfl) <| zS rfl (ah (av := .fn _ _ _) rfl) <| am rfl rfl (aQ [0] rfl zr rfl (rz F a1 q2 o3 a4 a5 x7 e8) rfl (fun c A' h => by cases h.1) ?_)
 rintro av A' ⟨h, rfl⟩; cases h
 refine zS rfl (fB rfl rfl) <| za rfl <| ag <| aG ?_;obtain rfl := ak H;exact And.intro rfl (Exists.intro _ (Exists.intro _ ⟨aF rfl (.refl _), aB [0] rfl, rfl, rfl⟩))
set_option maxRecDepth 100000 in
set_option maxHeartbeats 1000000 in
theorem pg (F : Nat) (o1 : Nat) (a2 : List UInt8) (a3 : List (List UInt8)) (t4 : Nat) (a5 : Int) (a6 : List (Int × (List UInt8) × (List UInt8) × List ((List UInt8) × List UInt8))) (t7 : Nat) (rv : Res (Bool × (List UInt8) × Int × (List (Int × (List UInt8) × (List UInt8) × List ((List UInt8) × List UInt8))) × (List (List UInt8)))) (H : iC F a2 a3 a5 a6 = some rv) : ACalls Tryz.prog 37 [.pt o1 0] [.obj o1 [S a2, .sk t4 a3.length, i64 a5, slE (ab Enc.int (ab Enc.str (ab Enc.str (Enc.sl (ab Enc.str Enc.str))))) a6 (some t7)], .stk t4 (Enc.str.fl a3), .tok t7 43] (jz (fun (r : Bool × (List UInt8) × Int × (List (Int × (List UInt8) × (List UInt8) × List ((List UInt8) × List UInt8))) × (List (List UInt8))) => (fun e A' => e = .ret (B r.1) ∧ ∃ t11 t14, A' = [.obj o1 [S r.2.1, .sk t11 r.2.2.2.2.length, i64 r.2.2.1, slE (ab Enc.int (ab Enc.str (ab Enc.str (Enc.sl (ab Enc.str Enc.str))))) r.2.2.2.1 (some t14)], .stk t11 (Enc.str.fl r.2.2.2.2), .tok t14 43])) (fun e => ce (.iface 58 (.agg #[.int .i64 e]))) rv) := by
 unfold iC at H
 refine ap Tryz.func37 rfl rfl ?_;show AW _ _ 88 _ _ _;refine af <| aa ?_;show AR _ _ _ _ _ [0] _;refine za rfl <| ag <| af <| af ?_;obtain ⟨x15, x16, e17, H⟩ := cF H;refine aa ?_;show AR _ _ _ _ _ [0, 1, 2] _;refine zS rfl (ah (av := .pt _ _) rfl) <| am rfl rfl (aQ [0, 0, 0] rfl ez rfl (eu F o1 a2 a3 t4 a5 a6 t7 ([60] : List UInt8) x15 x16 e17) rfl (fun c A' h => by cases h.1) ?_)
 rintro av A' ⟨h, rfl⟩; cases h
 refine zS rfl (bB rfl) <| ag <| ax rfl (fun c18 => ?_) (fun c18 => ?_)
 ·replace H := aX c18 H;refine af <| aa ?_;show AR _ _ _ _ _ [0] _;refine za rfl <| ag <| aG ?_;obtain rfl := ak H;exact And.intro rfl (Exists.intro _ (Exists.intro _ ⟨aF rfl (.refl _), aB [0, 0, 0] rfl, rfl, t4, t7, rfl⟩))
 ·replace H := aY c18 H;refine aC <| af ?_
  rcases Or.symm (co H) with ⟨p21, e20, H⟩ | ⟨x19, e20, H⟩
  ·subst H;refine aa ?_;show AR _ _ _ _ _ [0, 1, 2, 3, 4] _;refine zS rfl (ah (av := .pt _ _) rfl) <| am rfl rfl (bb (c := ce (.iface 58 (.agg #[.int .i64 p21]))) [0, 0, 0] rfl kX rfl (lQ F o1 x16 a3 t4 a5 a6 t7 p21 e20) rfl ?_);exact And.intro rfl (Exists.intro [] ⟨ba _, rfl, rfl⟩)
  refine aa ?_;show AR _ _ _ _ _ [0, 1, 2, 3, 4] _;refine zS rfl (ah (av := .pt _ _) rfl) <| am rfl rfl (aQ [0, 0, 0] rfl kX rfl (mI F o1 x16 a3 t4 a5 a6 t7 x19.1 x19.2 e20) rfl (fun c A' h => by cases h.1) ?_)
  rintro av A' ⟨h, rfl⟩; cases h
  refine zS rfl (cP (zs := [.int .i64 0, .string ⟨#[]⟩, .string ⟨#[]⟩, .slice none 0 0]) (ps := [(0, 1), (1, 1), (2, 1), (3, 1)]) (cs := [i64 0, S x19.1, S ([] : List UInt8), eH]) (by kernel_rfl) rfl rfl) <| zX rfl (bg (zs := [.int .i64 0, .string ⟨#[]⟩, .string ⟨#[]⟩, .slice none 0 0]) (by kernel_rfl)) ?_;rintro _ _ ⟨o22, rfl, rfl⟩;refine s0 rfl rfl (aV (i := 0) (vs := [i64 0, S x19.1, S ([] : List UInt8), eH]) (by kernel_rfl) rfl rfl (by simp [bA, slE]) rfl (ac rfl)) <| ag ?_
  refine js 0 3 2 94 rfl rfl fun t23 => ?_
  show AW _ _ _ _ _ ⟨_, _, [.tok t23 94, .obj o22 [i64 0, S x19.1, S ([] : List UInt8), slE (ab Enc.str Enc.str) [] (some t23)], .obj o1 [S x19.2, .sk t4 a3.length, i64 a5, slE (ab Enc.int (ab Enc.str (ab Enc.str (Enc.sl (ab Enc.str Enc.str))))) a6 (some t7)], .stk t4 (Enc.str.fl a3), .tok t7 43]⟩;refine af <| aa ?_;show AR _ _ _ _ _ [0] _;refine za rfl <| ag <| bL (X := Bool × (List UInt8) × (List ((List UInt8) × List UInt8)) × Nat) (fun (y56, y57, y58, t59) => ⟨[(0, .pt o1 0), (3, .pt o22 0), (4, B y56)], [], [.obj o1 [S y57, .sk t4 a3.length, i64 a5, slE (ab Enc.int (ab Enc.str (ab Enc.str (Enc.sl (ab Enc.str Enc.str))))) a6 (some t7)], .obj o22 [i64 0, S x19.1, S ([] : List UInt8), slE (ab Enc.str Enc.str) y58 (some t59)], .stk t4 (Enc.str.fl a3), .tok t7 43, .tok t59 94]⟩) (fun (y56, y57, y58, t59) => eV F a3 a5 a6 x19 y56 y57 y58 = some rv) ?_ ?_
  ·refine aU <| dk (X := Nat × (List ((List UInt8) × List UInt8)) × Nat × (List UInt8)) (fun (n28, y24, t25, y26) => ⟨[(0, .pt o1 0), (3, .pt o22 0), (4, B false)], [], [.obj o22 [i64 0, S x19.1, S ([] : List UInt8), slE (ab Enc.str Enc.str) y24 (some t25)], .obj o1 [S y26, .sk t4 a3.length, i64 a5, slE (ab Enc.int (ab Enc.str (ab Enc.str (Enc.sl (ab Enc.str Enc.str))))) a6 (some t7)], .stk t4 (Enc.str.fl a3), .tok t25 94, .tok t7 43]⟩) (fun (n28, y24, t25, y26) => hC F a3 a5 a6 x19 n28 (y24, y26) = some rv) (fun (n28, y24, t25, y26) => n28) (F, [], t23, x19.2) H (be [1, 1, 1, 0, 0] (.cons (.refl _) (.cons (.refl _) (.cons (.refl _) (.nil _)))) rfl) ?_;rintro ⟨n28, y24, t25, y26⟩ H;obtain ⟨n28, rfl, H⟩ := fC H;replace H : hH F a3 a5 a6 x19 (hC F a3 a5 a6 x19 n28) y24 y26 = some rv := H
   unfold hH at H
   refine aU <| af ?_;obtain ⟨x29, x30, e31, H⟩ := cF H;refine aa ?_;show AR _ _ _ _ _ [0, 1, 2] _;refine zS rfl (ah (av := .pt _ _) rfl) <| am rfl rfl (aQ [1, 1, 2] rfl tV rfl (qs F o1 y26 a3 t4 a5 a6 t7 x29 x30 e31) rfl (fun c A' h => by cases h.1) ?_)
   rintro av A' ⟨h, rfl⟩; cases h
   refine za rfl <| ag <| af <| af ?_;obtain ⟨x32, x33, e34, H⟩ := cF H;refine aa ?_;show AR _ _ _ _ _ [0, 1] _;refine zS rfl (ah (av := .pt _ _) rfl) <| am rfl rfl (aQ [0, 0, 0] rfl ez rfl (eu F o1 x30 a3 t4 a5 a6 t7 ([62] : List UInt8) x32 x33 e34) rfl (fun c A' h => by cases h.1) ?_)
   rintro av A' ⟨h, rfl⟩; cases h
   refine ag <| ax rfl (fun c35 => ?_) (fun c35 => ?_)
   ·replace H := aX c35 H;refine cB ?_;exact Exists.intro (false, x33, y24, t25) ⟨H, be [0, 2, 0, 0, 0] (.cons (.refl _) (.cons (.refl _) (.cons (.refl _) (.nil _)))) rfl⟩
   ·replace H := aY c35 H;refine aC <| af <| af ?_;obtain ⟨x36, x37, e38, H⟩ := cF H;refine aa ?_;show AR _ _ _ _ _ [0, 1] _;refine zS rfl (ah (av := .pt _ _) rfl) <| am rfl rfl (aQ [0, 0, 0] rfl ez rfl (eu F o1 x33 a3 t4 a5 a6 t7 ([47, 62] : List UInt8) x36 x37 e38) rfl (fun c A' h => by cases h.1) ?_)
    rintro av A' ⟨h, rfl⟩; cases h
    refine ag <| ax rfl (fun c39 => ?_) (fun c39 => ?_)
    ·replace H := aX c39 H;refine af <| aa ?_;show AR _ _ _ _ _ [0] _;refine za rfl <| ag <| cB ?_;exact Exists.intro (true, x37, y24, t25) ⟨H, be [0, 2, 0, 0, 0] (.cons (.refl _) (.cons (.refl _) (.cons (.refl _) (.nil _)))) rfl⟩
    ·replace H := aY c39 H;refine aC <| af ?_
     rcases Or.symm (co H) with ⟨p42, e41, H⟩ | ⟨x40, e41, H⟩
     ·subst H;refine aa ?_;show AR _ _ _ _ _ [0, 1] _;refine zm rfl <| am rfl rfl (bb (c := ce (.iface 58 (.agg #[.int .i64 p42]))) [] rfl bV rfl (bX F x29 p42 e41) rfl ?_);exact And.intro rfl (Exists.intro [] ⟨ba _, rfl, rfl⟩)
     refine aa ?_;show AR _ _ _ _ _ [0, 1] _;refine zm rfl <| am rfl rfl (aA rfl bV rfl (cm F x29 e41) ?_);refine ag <| af ?_
     rcases Or.symm (co H) with ⟨p45, e44, H⟩ | ⟨x43, e44, H⟩
     ·subst H;refine aa ?_;show AR _ _ _ _ _ [0, 1, 2, 3] _;refine zS rfl (ah (av := .pt _ _) rfl) <| am rfl rfl (bb (c := ce (.iface 58 (.agg #[.int .i64 p45]))) [0, 0, 0] rfl tU rfl (sx F o1 x37 a3 t4 a5 a6 t7 p45 e44) rfl ?_);exact And.intro rfl (Exists.intro [] ⟨ba _, rfl, rfl⟩)
     refine aa ?_;show AR _ _ _ _ _ [0, 1, 2, 3] _;refine zS rfl (ah (av := .pt _ _) rfl) <| am rfl rfl (aQ [0, 0, 0] rfl tU rfl (uy F o1 x37 a3 t4 a5 a6 t7 x43.1 x43.2.1 x43.2.2 e44) rfl (fun c A' h => by cases h.1) ?_)
     rintro av A' ⟨h, rfl⟩; cases h
     refine zX rfl (bg (zs := [.string ⟨#[]⟩, .string ⟨#[]⟩]) (by kernel_rfl)) ?_;rintro _ _ ⟨o46, rfl, rfl⟩;refine s0 rfl rfl (aV (i := 0) (vs := [S x43.1, S x43.2.1]) (by kernel_rfl) rfl rfl (by simp [bA, slE]) rfl (ac rfl)) <| ag <| af ?_;obtain ⟨x47, e48, H⟩ := bW H
     rcases Or.symm (co H) with ⟨p51, e50, H⟩ | ⟨x49, e50, H⟩
     ·subst H;refine aa ?_;show AR _ _ _ _ _ [0, 1, 2, 3, 4, 5] _;refine zS rfl (an (n := 3) (by kernel_rfl) rfl) <| zR rfl (ao (i := 4) cn rfl rfl rfl rfl) <| zS rfl (fP rfl rfl) <| am rfl rfl (aQ [0] rfl tS rfl (lF F y24 (some t25) o46 x43.1 x43.2.1 x47 e48) rfl (fun c A' h => by cases h.1) ?_)
      rintro av A' ⟨h, rfl⟩; cases h
      refine zS rfl (bB rfl) <| am rfl rfl (bb (c := ce (.iface 58 (.agg #[.int .i64 p51]))) [] rfl bV rfl (bX F (!x47) p51 e50) rfl ?_);exact And.intro rfl (Exists.intro [] ⟨ba _, rfl, rfl⟩)
     refine aa ?_;show AR _ _ _ _ _ [0, 1, 2, 3, 4, 5] _;refine zS rfl (an (n := 3) (by kernel_rfl) rfl) <| zR rfl (ao (i := 4) cn rfl rfl rfl rfl) <| zS rfl (fP rfl rfl) <| am rfl rfl (aQ [0] rfl tS rfl (lF F y24 (some t25) o46 x43.1 x43.2.1 x47 e48) rfl (fun c A' h => by cases h.1) ?_)
     rintro av A' ⟨h, rfl⟩; cases h
     refine zS rfl (bB rfl) <| am rfl rfl (aA rfl bV rfl (cm F (!x47) e50) ?_);refine ag ?_;obtain ⟨g53, H⟩ := aM H;obtain ⟨x54, e55, H⟩ := bM H;refine aa ?_;show AR _ _ _ _ _ [0, 1, 2, 3, 4, 5, 6] _;refine zS rfl (an (n := 3) (by kernel_rfl) rfl) <| zR rfl (ao (i := 4) cn rfl rfl rfl rfl) <| zR rfl (dY (i := 0) (n := 2) Tryz.underlying94 rfl (by kernel_rfl) rfl rfl (ac rfl)) <| zR rfl (dZ (E := (ab Enc.str Enc.str)) (bytes := 32) (zs := [.string ⟨#[]⟩, .string ⟨#[]⟩]) (l := ([(x43.1, x43.2.1)] : List ((List UInt8) × List UInt8))) cn (by kernel_rfl) (by kernel_rfl) rfl rfl rfl rfl rfl) <| zX rfl (kr (E := (ab Enc.str Enc.str)) (bytes := 32) 5 cn cn rfl (by kernel_rfl) rfl rfl rfl rfl g53 e55) ?_;rintro _ _ ⟨t52, rfl, rfl⟩;refine zS rfl (an (n := 3) (by kernel_rfl) rfl) <| s0 rfl rfl (aq (i := 4) (c := slE _ _ _) (by kernel_rfl) rfl rfl rfl rfl (ac rfl)) <| ag ?_;exact Exists.intro (n28, x54, t52, x43.2.2) ⟨H, Nat.lt_succ_self _, be [4, 1, 1, 2, 1] (.cons (.refl _) (.cons (.refl _) (.cons (.refl _) (.nil _)))) rfl⟩
  rintro ⟨y56, y57, y58, t59⟩ H;replace H : eV F a3 a5 a6 x19 y56 y57 y58 = some rv := H
  unfold eV at H
  refine bL (X := Int) (fun y66 => ⟨[(0, .pt o1 0), (3, .pt o22 0), (4, B y56)], [], [.obj o1 [S y57, .sk t4 a3.length, i64 y66, slE (ab Enc.int (ab Enc.str (ab Enc.str (Enc.sl (ab Enc.str Enc.str))))) a6 (some t7)], .obj o22 [i64 0, S x19.1, S ([] : List UInt8), slE (ab Enc.str Enc.str) y58 (some t59)], .stk t4 (Enc.str.fl a3), .tok t7 43, .tok t59 94]⟩) (fun y66 => eW F a3 a6 x19 y56 y57 y58 y66 = some rv) ?_ ?_
  ·refine af <| aa ?_;show AR _ _ _ _ _ [0, 1, 2, 3, 4, 5] _;refine zS rfl (ah (av := .pt _ _) rfl) <| zS rfl (ar rfl) <| zS rfl (an (n := 1) (by kernel_rfl) rfl) <| zR rfl (ao (i := 0) au rfl rfl rfl rfl) <| zS rfl (fh au rfl) <| zS rfl (bJ rfl rfl) <| ag <| ax rfl (fun c61 => ?_) (fun c61 => ?_)
   ·replace H := aX c61 H;refine af ?_;obtain ⟨g62, H⟩ := aM H;refine aa ?_;show AR _ _ _ _ _ [0, 1, 2, 3, 4, 5, 6, 7] _;refine zS rfl (ah (av := .pt _ _) rfl) <| zS rfl (ar rfl) <| zS rfl (an (n := 2) (by kernel_rfl) rfl) <| zR rfl (ao (i := 0) aK rfl rfl rfl rfl) <| zS rfl (di rfl rfl g62) <| zS rfl (ar rfl) <| zS rfl (an (n := 2) (by kernel_rfl) rfl) <| s0 rfl rfl (aq (i := 0) (c := .v _) (by kernel_rfl) rfl rfl rfl rfl (ac rfl)) <| ag ?_
    rcases Or.symm (co H) with ⟨p65, e64, H⟩ | ⟨x63, e64, H⟩
    ·subst H;refine aa ?_;show AR _ _ _ _ _ [0, 1, 2, 3, 4, 5] _;refine zS rfl (ah (av := .pt _ _) rfl) <| zS rfl (ar rfl) <| zS rfl (an (n := 2) (by kernel_rfl) rfl) <| zR rfl (ao (i := 0) aK rfl rfl rfl rfl) <| zS rfl (bJ rfl rfl) <| am rfl rfl (bb (c := ce (.iface 58 (.agg #[.int .i64 p65]))) [] rfl bV rfl (bX F (decide (a5 + 1 = 1)) p65 e64) rfl ?_);exact And.intro rfl (Exists.intro [] ⟨ba _, rfl, rfl⟩)
    refine aa ?_;show AR _ _ _ _ _ [0, 1, 2, 3, 4, 5] _;refine zS rfl (ah (av := .pt _ _) rfl) <| zS rfl (ar rfl) <| zS rfl (an (n := 2) (by kernel_rfl) rfl) <| zR rfl (ao (i := 0) aK rfl rfl rfl rfl) <| zS rfl (bJ rfl rfl) <| am rfl rfl (aA rfl bV rfl (cm F (decide (a5 + 1 = 1)) e64) ?_);refine ag ?_;exact Exists.intro (a5 + 1) ⟨H, be [0, 0, 0, 0, 0] (.cons (.refl _) (.cons (.refl _) (.cons (.refl _) (.nil _)))) rfl⟩
   ·replace H := aY c61 H;refine aC ?_;exact Exists.intro a5 ⟨H, be [0, 0, 0, 0, 0] (.cons (.refl _) (.cons (.refl _) (.cons (.refl _) (.nil _)))) rfl⟩
  rintro y66 H;replace H : eW F a3 a6 x19 y56 y57 y58 y66 = some rv := H
  unfold eW at H
  refine bL (X := Nat × (List (List UInt8))) (fun (t78, y79) => ⟨[(0, .pt o1 0), (3, .pt o22 0), (4, B y56)], [], [.obj o1 [S y57, .sk t78 y79.length, i64 y66, slE (ab Enc.int (ab Enc.str (ab Enc.str (Enc.sl (ab Enc.str Enc.str))))) a6 (some t7)], .obj o22 [i64 0, S x19.1, S ([] : List UInt8), slE (ab Enc.str Enc.str) y58 (some t59)], .stk t78 (Enc.str.fl y79), .tok t7 43, .tok t59 94]⟩) (fun (t78, y79) => gY F a6 x19 y56 y57 y58 y66 y79 = some rv) ?_ ?_
  ·refine bL (X := Nat × (List (List UInt8))) (fun (t74, y75) => ⟨[(0, .pt o1 0), (3, .pt o22 0), (4, B y56)], [], [.obj o1 [S y57, .sk t74 y75.length, i64 y66, slE (ab Enc.int (ab Enc.str (ab Enc.str (Enc.sl (ab Enc.str Enc.str))))) a6 (some t7)], .obj o22 [i64 0, S x19.1, S ([] : List UInt8), slE (ab Enc.str Enc.str) y58 (some t59)], .stk t74 (Enc.str.fl y75), .tok t7 43, .tok t59 94]⟩) (fun (t74, y75) => gX F a6 x19 y56 y57 y58 y66 y75 = some rv) ?_ ?_
   ·obtain ⟨g68, H⟩ := aM H;obtain ⟨x69, e70, H⟩ := bM H;refine cw (by kernel_rfl) ?_;show AI _ _ _ _ _ 12 (Array.replicate 12 false) _;refine zk 0 rfl (ah (av := .pt _ _) rfl) ?_;show AI _ _ _ _ _ _ #[true, false, false, false, false, false, false, false, false, false, false, false] _;refine zk 1 rfl (ah (av := .pt _ _) rfl) ?_;show AI _ _ _ _ _ _ #[true, true, false, false, false, false, false, false, false, false, false, false] _;refine zk 2 rfl (ar rfl) ?_;show AI _ _ _ _ _ _ #[true, true, true, false, false, false, false, false, false, false, false, false] _;refine zk 3 rfl (an (n := 1) (by kernel_rfl) rfl) ?_;show AI _ _ _ _ _ _ #[true, true, true, true, false, false, false, false, false, false, false, false] _;refine zk 5 rfl (an (n := 1) (by kernel_rfl) rfl) ?_;show AI _ _ _ _ _ _ #[true, true, true, true, false, true, false, false, false, false, false, false] _;refine AI.two (i := 4) (j := 6) (by kernel_rfl) rfl rfl rfl rfl ?_ ?_
    ·refine bw rfl (ao (i := 0) au rfl rfl rfl rfl) ?_;show AI _ _ _ _ _ _ #[true, true, true, true, true, true, false, false, false, false, false, false] _;refine cj (i := 6) (by kernel_rfl) rfl rfl <| bw rfl (ao (i := 1) ai rfl rfl rfl rfl) ?_;show AI _ _ _ _ _ _ #[true, true, true, true, true, true, true, false, false, false, false, false] _;refine cj (i := 7) (by kernel_rfl) rfl rfl <| bw rfl (cO (E := Enc.str) (bytes := 16) (xs := [.tmp 60]) (l := ([x19.1] : List (List UInt8))) au (by kernel_rfl) rfl rfl (by decide) rfl rfl) ?_;show AI _ _ _ _ _ _ #[true, true, true, true, true, true, true, true, false, false, false, false] _;refine cj (i := 8) (by kernel_rfl) rfl rfl <| AIO.opx rfl (kM (E := Enc.str) (bytes := 16) 2 au au rfl (by kernel_rfl) rfl rfl rfl rfl rfl rfl rfl g68 e70) ?_;rintro _ _ ⟨t71, rfl, rfl⟩;show AI _ _ _ _ _ _ #[true, true, true, true, true, true, true, true, true, false, false, false] _;refine zk 9 rfl (ar rfl) ?_;show AI _ _ _ _ _ _ #[true, true, true, true, true, true, true, true, true, true, false, false] _;refine zk 10 rfl (an (n := 1) (by kernel_rfl) rfl) ?_;show AI _ _ _ _ _ _ #[true, true, true, true, true, true, true, true, true, true, true, false] _;refine cj (i := 11) (by kernel_rfl) rfl rfl <| AIO.op0 (aq (i := 0) (c := .sk _ _) (by kernel_rfl) rfl rfl rfl rfl (ac rfl)) ?_
     show AI _ _ _ _ _ _ #[true, true, true, true, true, true, true, true, true, true, true, true] _;refine cT rfl ?_;exact Exists.intro (t71, x69) ⟨H, be [0, 0, 0, 0, 0] (.cons (.refl _) (.cons (.refl _) (.cons (.refl _) (.nil _)))) rfl⟩
    ·refine bw rfl (ao (i := 1) ai rfl rfl rfl rfl) ?_;show AI _ _ _ _ _ _ #[true, true, true, true, false, true, true, false, false, false, false, false] _;refine AI.two (i := 4) (j := 7) (by kernel_rfl) rfl rfl rfl rfl ?_ ?_
     ·refine bw rfl (ao (i := 0) au rfl rfl rfl rfl) ?_;show AI _ _ _ _ _ _ #[true, true, true, true, true, true, true, false, false, false, false, false] _;refine cj (i := 7) (by kernel_rfl) rfl rfl <| bw rfl (cO (E := Enc.str) (bytes := 16) (xs := [.tmp 60]) (l := ([x19.1] : List (List UInt8))) au (by kernel_rfl) rfl rfl (by decide) rfl rfl) ?_;show AI _ _ _ _ _ _ #[true, true, true, true, true, true, true, true, false, false, false, false] _;refine cj (i := 8) (by kernel_rfl) rfl rfl <| AIO.opx rfl (kM (E := Enc.str) (bytes := 16) 2 au au rfl (by kernel_rfl) rfl rfl rfl rfl rfl rfl rfl g68 e70) ?_;rintro _ _ ⟨t72, rfl, rfl⟩;show AI _ _ _ _ _ _ #[true, true, true, true, true, true, true, true, true, false, false, false] _;refine zk 9 rfl (ar rfl) ?_;show AI _ _ _ _ _ _ #[true, true, true, true, true, true, true, true, true, true, false, false] _;refine zk 10 rfl (an (n := 1) (by kernel_rfl) rfl) ?_;show AI _ _ _ _ _ _ #[true, true, true, true, true, true, true, true, true, true, true, false] _;refine cj (i := 11) (by kernel_rfl) rfl rfl <| AIO.op0 (aq (i := 0) (c := .sk _ _) (by kernel_rfl) rfl rfl rfl rfl (ac rfl)) ?_;show AI _ _ _ _ _ _ #[true, true, true, true, true, true, true, true, true, true, true, true] _;refine cT rfl ?_;exact Exists.intro (t72, x69) ⟨H, be [0, 0, 0, 0, 0] (.cons (.refl _) (.cons (.refl _) (.cons (.refl _) (.nil _)))) rfl⟩
     ·refine bw rfl (cO (E := Enc.str) (bytes := 16) (xs := [.tmp 60]) (l := ([x19.1] : List (List UInt8))) au (by kernel_rfl) rfl rfl (by decide) rfl rfl) ?_;show AI _ _ _ _ _ _ #[true, true, true, true, false, true, true, true, false, false, false, false] _;refine cj (i := 4) (by kernel_rfl) rfl rfl <| bw rfl (ao (i := 0) au rfl rfl rfl rfl) ?_;show AI _ _ _ _ _ _ #[true, true, true, true, true, true, true, true, false, false, false, false] _;refine cj (i := 8) (by kernel_rfl) rfl rfl <| AIO.opx rfl (kM (E := Enc.str) (bytes := 16) 2 au au rfl (by kernel_rfl) rfl rfl rfl rfl rfl rfl rfl g68 e70) ?_;rintro _ _ ⟨t73, rfl, rfl⟩;show AI _ _ _ _ _ _ #[true, true, true, true, true, true, true, true, true, false, false, false] _;refine zk 9 rfl (ar rfl) ?_;show AI _ _ _ _ _ _ #[true, true, true, true, true, true, true, true, true, true, false, false] _;refine zk 10 rfl (an (n := 1) (by kernel_rfl) rfl) ?_;show AI _ _ _ _ _ _ #[true, true, true, true, true, true, true, true, true, true, true, false] _;refine cj (i := 11) (by kernel_rfl) rfl rfl <| AIO.op0 (aq (i := 0) (c := .sk _ _) (by kernel_rfl) rfl rfl rfl rfl (ac rfl)) ?_;show AI _ _ _ _ _ _ #[true, true, true, true, true, true, true, true, true, true, true, true] _;refine cT rfl ?_;exact Exists.intro (t73, x69) ⟨H, be [0, 0, 0, 0, 0] (.cons (.refl _) (.cons (.refl _) (.cons (.refl _) (.nil _)))) rfl⟩
   rintro ⟨t74, y75⟩ H;replace H : gX F a6 x19 y56 y57 y58 y66 y75 = some rv := H
   unfold gX at H
   refine af <| aa ?_;show AR _ _ _ _ _ [0, 1, 2, 3, 4, 5] _;refine zS rfl (ah (av := .pt _ _) rfl) <| zS rfl (ar rfl) <| zS rfl (an (n := 1) (by kernel_rfl) rfl) <| zR rfl (ao (i := 0) au rfl rfl rfl rfl) <| zS rfl (fh au rfl) <| zS rfl (gp rfl rfl) <| ag <| ax rfl (fun c77 => ?_) (fun c77 => ?_)
   ·replace H := aX c77 H;obtain rfl := ak H;refine aa ?_;show AR _ _ _ _ _ [0, 1, 2] _;refine zS rfl (cP (zs := [.int .i64 0]) (ps := [(0, 1)]) (cs := [i64 5]) (by kernel_rfl) rfl rfl) <| zS rfl (bf (a := .agg _) Tryz.underlying58 rfl rfl) <| am rfl rfl (AO.panicT (c := ce (.iface 58 (.agg #[.int .i64 5]))) rfl rfl ?_);exact And.intro rfl (Exists.intro [] ⟨ba _, rfl, rfl⟩)
   ·replace H := aY c77 H;refine aC ?_;exact Exists.intro (t74, y75) ⟨H, be [0, 0, 0, 0, 0] (.cons (.refl _) (.cons (.refl _) (.cons (.refl _) (.nil _)))) rfl⟩
  rintro ⟨t78, y79⟩ H;replace H : gY F a6 x19 y56 y57 y58 y66 y79 = some rv := H
  unfold gY at H
  refine bL (X := (List (Int × (List UInt8) × (List UInt8) × List ((List UInt8) × List UInt8))) × Nat) (fun (y87, t88) => ⟨[(0, .pt o1 0), (3, .pt o22 0), (4, B y56)], [], [.obj o1 [S y57, .sk t78 y79.length, i64 y66, slE (ab Enc.int (ab Enc.str (ab Enc.str (Enc.sl (ab Enc.str Enc.str))))) y87 (some t88)], .obj o22 [i64 0, S x19.1, S ([] : List UInt8), slE (ab Enc.str Enc.str) y58 (some t59)], .stk t78 (Enc.str.fl y79), .tok t88 43, .tok t59 94]⟩) (fun (y87, t88) => gZ F x19 y56 y57 y66 y79 y87 = some rv) ?_ ?_
  ·obtain ⟨g82, H⟩ := aM H;obtain ⟨x83, e84, H⟩ := bM H;refine cw (by kernel_rfl) ?_;show AI _ _ _ _ _ 11 (Array.replicate 11 false) _;refine zk 0 rfl (ah (av := .pt _ _) rfl) ?_;show AI _ _ _ _ _ _ #[true, false, false, false, false, false, false, false, false, false, false] _;refine zk 1 rfl (ah (av := .pt _ _) rfl) ?_;show AI _ _ _ _ _ _ #[true, true, false, false, false, false, false, false, false, false, false] _;refine zk 2 rfl (ar rfl) ?_;show AI _ _ _ _ _ _ #[true, true, true, false, false, false, false, false, false, false, false] _;refine zk 3 rfl (an (n := 3) (by kernel_rfl) rfl) ?_;show AI _ _ _ _ _ _ #[true, true, true, true, false, false, false, false, false, false, false] _;refine AI.two (i := 4) (j := 5) (by kernel_rfl) rfl rfl rfl rfl ?_ ?_
   ·refine bw rfl (ao (i := 0) aO rfl rfl rfl rfl) ?_;show AI _ _ _ _ _ _ #[true, true, true, true, true, false, false, false, false, false, false] _;refine cj (i := 5) (by kernel_rfl) rfl rfl <| bw rfl (dY (i := 1) (n := 4) Tryz.underlying43 rfl (by kernel_rfl) rfl rfl (ac rfl)) ?_;show AI _ _ _ _ _ _ #[true, true, true, true, true, true, false, false, false, false, false] _;refine cj (i := 6) (by kernel_rfl) rfl rfl <| bw rfl (jL (ds := [i64 0, S x19.1, S ([] : List UInt8), slE (ab Enc.str Enc.str) y58 none]) 78 (.cons (.refl _) (.cons (.refl _) (.cons (.refl _) (.cons (.tok _ _ _) (.nil))))) (hc := rfl) <| dZ (E := (ab Enc.int (ab Enc.str (ab Enc.str (Enc.sl (ab Enc.str Enc.str)))))) (bytes := 64) (zs := [.int .i64 0, .string ⟨#[]⟩, .string ⟨#[]⟩, .slice none 0 0]) (l := ([(0, x19.1, ([] : List UInt8), y58)] : List (Int × (List UInt8) × (List UInt8) × List ((List UInt8) × List UInt8)))) aO (by kernel_rfl) (by kernel_rfl) rfl rfl rfl rfl rfl) ?_;show AI _ _ _ _ _ _ #[true, true, true, true, true, true, true, false, false, false, false] _;refine cj (i := 7) (by kernel_rfl) rfl rfl <| AIO.opx rfl (kr (E := (ab Enc.int (ab Enc.str (ab Enc.str (Enc.sl (ab Enc.str Enc.str)))))) (bytes := 64) 3 aO aO rfl (by kernel_rfl) rfl rfl rfl rfl g82 e84) ?_;rintro _ _ ⟨t81, rfl, rfl⟩;show AI _ _ _ _ _ _ #[true, true, true, true, true, true, true, true, false, false, false] _
    refine zk 8 rfl (ar rfl) ?_;show AI _ _ _ _ _ _ #[true, true, true, true, true, true, true, true, true, false, false] _;refine zk 9 rfl (an (n := 3) (by kernel_rfl) rfl) ?_;show AI _ _ _ _ _ _ #[true, true, true, true, true, true, true, true, true, true, false] _;refine cj (i := 10) (by kernel_rfl) rfl rfl <| AIO.op0 (aq (i := 0) (c := slE _ _ _) (by kernel_rfl) rfl rfl rfl rfl (ac rfl)) ?_;show AI _ _ _ _ _ _ #[true, true, true, true, true, true, true, true, true, true, true] _;refine cT rfl ?_;exact Exists.intro (x83, t81) ⟨H, be [0, 0, 0, 0, 0] (.cons (.refl _) (.cons (.refl _) (.cons (.refl _) (.nil _)))) rfl⟩
   ·refine bw rfl (dY (i := 1) (n := 4) Tryz.underlying43 rfl (by kernel_rfl) rfl rfl (ac rfl)) ?_;show AI _ _ _ _ _ _ #[true, true, true, true, false, true, false, false, false, false, false] _;refine AI.two (i := 4) (j := 6) (by kernel_rfl) rfl rfl rfl rfl ?_ ?_
    ·refine bw rfl (ao (i := 0) aO rfl rfl rfl rfl) ?_;show AI _ _ _ _ _ _ #[true, true, true, true, true, true, false, false, false, false, false] _;refine cj (i := 6) (by kernel_rfl) rfl rfl <| bw rfl (jL (ds := [i64 0, S x19.1, S ([] : List UInt8), slE (ab Enc.str Enc.str) y58 none]) 78 (.cons (.refl _) (.cons (.refl _) (.cons (.refl _) (.cons (.tok _ _ _) (.nil))))) (hc := rfl) <| dZ (E := (ab Enc.int (ab Enc.str (ab Enc.str (Enc.sl (ab Enc.str Enc.str)))))) (bytes := 64) (zs := [.int .i64 0, .string ⟨#[]⟩, .string ⟨#[]⟩, .slice none 0 0]) (l := ([(0, x19.1, ([] : List UInt8), y58)] : List (Int × (List UInt8) × (List UInt8) × List ((List UInt8) × List UInt8)))) aO (by kernel_rfl) (by kernel_rfl) rfl rfl rfl rfl rfl) ?_;show AI _ _ _ _ _ _ #[true, true, true, true, true, true, true, false, false, false, false] _;refine cj (i := 7) (by kernel_rfl) rfl rfl <| AIO.opx rfl (kr (E := (ab Enc.int (ab Enc.str (ab Enc.str (Enc.sl (ab Enc.str Enc.str)))))) (bytes := 64) 3 aO aO rfl (by kernel_rfl) rfl rfl rfl rfl g82 e84) ?_;rintro _ _ ⟨t85, rfl, rfl⟩;show AI _ _ _ _ _ _ #[true, true, true, true, true, true, true, true, false, false, false] _;refine zk 8 rfl (ar rfl) ?_;show AI _ _ _ _ _ _ #[true, true, true, true, true, true, true, true, true, false, false] _;refine zk 9 rfl (an (n := 3) (by kernel_rfl) rfl) ?_
     show AI _ _ _ _ _ _ #[true, true, true, true, true, true, true, true, true, true, false] _;refine cj (i := 10) (by kernel_rfl) rfl rfl <| AIO.op0 (aq (i := 0) (c := slE _ _ _) (by kernel_rfl) rfl rfl rfl rfl (ac rfl)) ?_;show AI _ _ _ _ _ _ #[true, true, true, true, true, true, true, true, true, true, true] _;refine cT rfl ?_;exact Exists.intro (x83, t85) ⟨H, be [0, 0, 0, 0, 0] (.cons (.refl _) (.cons (.refl _) (.cons (.refl _) (.nil _)))) rfl⟩
    ·refine bw rfl (jL (ds := [i64 0, S x19.1, S ([] : List UInt8), slE (ab Enc.str Enc.str) y58 none]) 78 (.cons (.refl _) (.cons (.refl _) (.cons (.refl _) (.cons (.tok _ _ _) (.nil))))) (hc := rfl) <| dZ (E := (ab Enc.int (ab Enc.str (ab Enc.str (Enc.sl (ab Enc.str Enc.str)))))) (bytes := 64) (zs := [.int .i64 0, .string ⟨#[]⟩, .string ⟨#[]⟩, .slice none 0 0]) (l := ([(0, x19.1, ([] : List UInt8), y58)] : List (Int × (List UInt8) × (List UInt8) × List ((List UInt8) × List UInt8)))) aO (by kernel_rfl) (by kernel_rfl) rfl rfl rfl rfl rfl) ?_;show AI _ _ _ _ _ _ #[true, true, true, true, false, true, true, false, false, false, false] _;refine cj (i := 4) (by kernel_rfl) rfl rfl <| bw rfl (ao (i := 0) aO rfl rfl rfl rfl) ?_;show AI _ _ _ _ _ _ #[true, true, true, true, true, true, true, false, false, false, false] _;refine cj (i := 7) (by kernel_rfl) rfl rfl <| AIO.opx rfl (kr (E := (ab Enc.int (ab Enc.str (ab Enc.str (Enc.sl (ab Enc.str Enc.str)))))) (bytes := 64) 3 aO aO rfl (by kernel_rfl) rfl rfl rfl rfl g82 e84) ?_;rintro _ _ ⟨t86, rfl, rfl⟩;show AI _ _ _ _ _ _ #[true, true, true, true, true, true, true, true, false, false, false] _;refine zk 8 rfl (ar rfl) ?_;show AI _ _ _ _ _ _ #[true, true, true, true, true, true, true, true, true, false, false] _;refine zk 9 rfl (an (n := 3) (by kernel_rfl) rfl) ?_
     show AI _ _ _ _ _ _ #[true, true, true, true, true, true, true, true, true, true, false] _;refine cj (i := 10) (by kernel_rfl) rfl rfl <| AIO.op0 (aq (i := 0) (c := slE _ _ _) (by kernel_rfl) rfl rfl rfl rfl (ac rfl)) ?_;show AI _ _ _ _ _ _ #[true, true, true, true, true, true, true, true, true, true, true] _;refine cT rfl ?_;exact Exists.intro (x83, t86) ⟨H, be [0, 0, 0, 0, 0] (.cons (.refl _) (.cons (.refl _) (.cons (.refl _) (.nil _)))) rfl⟩
  rintro ⟨y87, t88⟩ H;replace H : gZ F x19 y56 y57 y66 y79 y87 = some rv := H
  unfold gZ at H
  refine bL (X := Nat × (List (List UInt8)) × (List (Int × (List UInt8) × (List UInt8) × List ((List UInt8) × List UInt8))) × Nat) (fun (t96, y97, y98, t99) => ⟨[], [], [.obj o1 [S y57, .sk t96 y97.length, i64 y66, slE (ab Enc.int (ab Enc.str (ab Enc.str (Enc.sl (ab Enc.str Enc.str))))) y98 (some t99)], .stk t96 (Enc.str.fl y97), .tok t99 43]⟩) (fun (t96, y97, y98, t99) => ge y57 y66 y97 y98 = some rv) ?_ ?_
  ·refine af <| aa ?_;show AR _ _ _ _ _ [0] _;refine zm rfl <| ag <| ax rfl (fun c90 => ?_) (fun c90 => ?_)
   ·replace H := aX c90 H
    rcases Or.symm (co H) with ⟨p93, e92, H⟩ | ⟨x91, e92, H⟩
    ·subst H;refine aa ?_;show AR _ _ _ _ _ [0, 1, 2, 3] _;refine zS rfl (ah (av := .pt _ _) rfl) <| zS rfl (an (n := 1) (by kernel_rfl) rfl) <| zR rfl (ao (i := 1) ai rfl rfl rfl rfl) <| am rfl rfl (bb (c := ce (.iface 58 (.agg #[.int .i64 p93]))) [0, 1, 1] rfl nZ rfl (oB F o1 y57 y79 t78 y66 y87 t88 x19.1 p93 e92) rfl ?_);exact And.intro rfl (Exists.intro [] ⟨ba _, rfl, rfl⟩)
    refine aa ?_;show AR _ _ _ _ _ [0, 1, 2, 3] _;refine zS rfl (ah (av := .pt _ _) rfl) <| zS rfl (an (n := 1) (by kernel_rfl) rfl) <| zR rfl (ao (i := 1) ai rfl rfl rfl rfl) <| am rfl rfl (aQ [0, 1, 1] rfl nZ rfl (pf F o1 y57 y79 t78 y66 y87 t88 x19.1 x91.1 x91.2 e92) rfl (fun c A' h => by cases h.1) ?_)
    rintro av A' ⟨h, t94, t95, rfl⟩; cases h
    refine ag ?_;exact Exists.intro (t94, x91.2, x91.1, t95) ⟨H, be [0, 0, 0] (.nil _) rfl⟩
   ·replace H := aY c90 H;refine aC ?_;exact Exists.intro (t78, y79, y87, t88) ⟨H, be [0, 1, 1] (.nil _) rfl⟩
  rintro ⟨t96, y97, y98, t99⟩ H;replace H : ge y57 y66 y97 y98 = some rv := H
  unfold ge at H
  refine af <| aa ?_;show AR _ _ _ _ _ [0] _;refine za rfl <| ag <| aG ?_;obtain rfl := ak H;exact And.intro rfl (Exists.intro _ (Exists.intro _ ⟨aF rfl (.refl _), aB [0, 0, 0] rfl, rfl, t96, t99, rfl⟩))
theorem qU (F : Nat) (o1 : Nat) (a2 : List UInt8) (a3 : List (List UInt8)) (t4 : Nat) (a5 : Int) (a6 : List (Int × (List UInt8) × (List UInt8) × List ((List UInt8) × List UInt8))) (t7 : Nat) (r8 : Bool) (r9 : List UInt8) (r12 : Int) (r13 : List (Int × (List UInt8) × (List UInt8) × List ((List UInt8) × List UInt8))) (r10 : List (List UInt8)) (H : iC F a2 a3 a5 a6 = some (Res.ok (r8, r9, r12, r13, r10))) : ACalls Tryz.prog 37 [.pt o1 0] [.obj o1 [S a2, .sk t4 a3.length, i64 a5, slE (ab Enc.int (ab Enc.str (ab Enc.str (Enc.sl (ab Enc.str Enc.str))))) a6 (some t7)], .stk t4 (Enc.str.fl a3), .tok t7 43] (fun e A' => e = .ret (B r8) ∧ ∃ t11 t14, A' = [.obj o1 [S r9, .sk t11 r10.length, i64 r12, slE (ab Enc.int (ab Enc.str (ab Enc.str (Enc.sl (ab Enc.str Enc.str))))) r13 (some t14)], .stk t11 (Enc.str.fl r10), .tok t14 43]) := pg F o1 a2 a3 t4 a5 a6 t7 _ H
theorem pU (F : Nat) (o1 : Nat) (a2 : List UInt8) (a3 : List (List UInt8)) (t4 : Nat) (a5 : Int) (a6 : List (Int × (List UInt8) × (List UInt8) × List ((List UInt8) × List UInt8))) (t7 : Nat) (e : Int) (H : iC F a2 a3 a5 a6 = some (Res.pan e)) : ACalls Tryz.prog 37 [.pt o1 0] [.obj o1 [S a2, .sk t4 a3.length, i64 a5, slE (ab Enc.int (ab Enc.str (ab Enc.str (Enc.sl (ab Enc.str Enc.str))))) a6 (some t7)], .stk t4 (Enc.str.fl a3), .tok t7 43] (fun ae A' => ae = .pan ((fun e => ce (.iface 58 (.agg #[.int .i64 e]))) e) ∧ A' = []) := pg F o1 a2 a3 t4 a5 a6 t7 _ H
abbrev _root_.Go.Av.dJ := @Tryz.underlying80
abbrev _root_.Go.Av.cJ := @Tryz.underlying81
set_option maxRecDepth 100000 in
set_option maxHeartbeats 1000000 in
theorem te (F : Nat) (o1 : Nat) (a2 : List UInt8) (a3 : List (List UInt8)) (t4 : Nat) (a5 : Int) (a6 : List (Int × (List UInt8) × (List UInt8) × List ((List UInt8) × List UInt8))) (t7 : Nat) (rv : Res ((List UInt8) × Int × (List (Int × (List UInt8) × (List UInt8) × List ((List UInt8) × List UInt8))) × (List (List UInt8)))) (H : nc F a2 a3 a5 a6 = some rv) : ACalls Tryz.prog 21 [.pt o1 0] [.obj o1 [S a2, .sk t4 a3.length, i64 a5, slE (ab Enc.int (ab Enc.str (ab Enc.str (Enc.sl (ab Enc.str Enc.str))))) a6 (some t7)], .stk t4 (Enc.str.fl a3), .tok t7 43] (jz (fun (r : (List UInt8) × Int × (List (Int × (List UInt8) × (List UInt8) × List ((List UInt8) × List UInt8))) × (List (List UInt8))) => (fun e A' => e = .ret (.tup []) ∧ ∃ t10 t13, A' = [.obj o1 [S r.1, .sk t10 r.2.2.2.length, i64 r.2.1, slE (ab Enc.int (ab Enc.str (ab Enc.str (Enc.sl (ab Enc.str Enc.str))))) r.2.2.1 (some t13)], .stk t10 (Enc.str.fl r.2.2.2), .tok t13 43])) (fun e => ce (.iface 58 (.agg #[.int .i64 e]))) rv) := by
 unfold nc at H
 refine ap Tryz.func21 rfl rfl ?_;show AW _ _ 14 _ _ _;refine af <| aa ?_;show AR _ _ _ _ _ [0, 1, 2] _;refine zR rfl (cO (E := mc) (bytes := 8) (xs := [.func 31, .func 32, .func 33, .func 34, .func 35, .func 36, .func 37]) (l := ([31, 32, 33, 34, 35, 36, 37] : List Nat)) cJ (by kernel_rfl) rfl rfl (by decide) rfl rfl) <| zS rfl (fe (av' := i64 7) (bE cJ rfl) rfl) <| zm rfl <| ag <| aU <| Au 9 <| af <| aa ?_;show AR _ _ _ _ _ [0] _;refine zS rfl (fe (av' := B true) (cd rfl rfl) (ay (by decide))) <| ag <| af <| ax rfl (fun _ => ?_) (fun hx => bK rfl hx);refine aC <| af <| aU <| af <| aa ?_;show AR _ _ _ _ _ [0, 1, 2] _;refine zS rfl (dx (E := mc) (m := 0) cJ (by kernel_rfl) rfl rfl rfl rfl) <| zS rfl (aL dJ rfl rfl) <| za rfl <| ag <| af ?_
 rcases Or.symm (co H) with ⟨p16, e15, H⟩ | ⟨x14, e15, H⟩
 ·subst H;refine aa ?_;show AR _ _ _ _ _ [0, 1, 2] _;refine zm rfl <| zS rfl (ah (av := .pt _ _) rfl) <| am rfl rfl (AO.callFPan (c := ce (.iface 58 (.agg #[.int .i64 p16]))) [0, 0, 0] rfl (.inr ⟨rfl, rfl, rfl⟩) ud rfl (rx F o1 a2 a3 t4 a5 a6 t7 p16 e15) rfl ?_);exact And.intro rfl (Exists.intro [] ⟨ba _, rfl, rfl⟩)
 refine aa ?_;show AR _ _ _ _ _ [0, 1, 2] _;refine zm rfl <| zS rfl (ah (av := .pt _ _) rfl) <| am rfl rfl (fu [0, 0, 0] rfl (.inr ⟨rfl, rfl, rfl⟩) ud rfl (sv F o1 a2 a3 t4 a5 a6 t7 x14.1 x14.2.1 x14.2.2 e15) rfl (fun c A' h => by cases h.1) ?_)
 rintro av A' ⟨h, t17, rfl⟩; cases h
 refine ag <| ax rfl (fun c18 => ?_) (fun c18 => ?_)
 ·replace H := aX c18 H;refine aG ?_;obtain rfl := ak H;exact And.intro rfl (Exists.intro _ (Exists.intro _ ⟨bj rfl, aB [0, 0, 0] rfl, rfl, t4, t17, rfl⟩))
 ·replace H := aY c18 H;refine aC <| aa ?_;show AR _ _ _ _ _ [0, 1] _;refine zS rfl (fe (av' := i64 1) (di rfl rfl (by decide)) rfl) <| zm rfl <| ag <| af <| aa ?_;show AR _ _ _ _ _ [0] _;refine zS rfl (fe (av' := B true) (cd rfl rfl) (ay (by decide))) <| ag <| af <| ax rfl (fun _ => ?_) (fun hx => bK rfl hx);refine aC <| af <| aU <| af <| aa ?_;show AR _ _ _ _ _ [0, 1, 2] _;refine zS rfl (dx (E := mc) (m := 1) cJ (by kernel_rfl) rfl rfl rfl rfl) <| zS rfl (aL dJ rfl rfl) <| za rfl <| ag <| af ?_
  rcases Or.symm (co H) with ⟨p21, e20, H⟩ | ⟨x19, e20, H⟩
  ·subst H;refine aa ?_;show AR _ _ _ _ _ [0, 1, 2] _;refine zm rfl <| zS rfl (ah (av := .pt _ _) rfl) <| am rfl rfl (AO.callFPan (c := ce (.iface 58 (.agg #[.int .i64 p21]))) [0, 0, 0] rfl (.inr ⟨rfl, rfl, rfl⟩) uc rfl (pV F o1 x14.2.1 a3 t4 a5 x14.2.2 t17 p21 e20) rfl ?_);exact And.intro rfl (Exists.intro [] ⟨ba _, rfl, rfl⟩)
  refine aa ?_;show AR _ _ _ _ _ [0, 1, 2] _;refine zm rfl <| zS rfl (ah (av := .pt _ _) rfl) <| am rfl rfl (fu [0, 0, 0] rfl (.inr ⟨rfl, rfl, rfl⟩) uc rfl (qV F o1 x14.2.1 a3 t4 a5 x14.2.2 t17 x19.1 x19.2 e20) rfl (fun c A' h => by cases h.1) ?_)
  rintro av A' ⟨h, rfl⟩; cases h
  refine ag <| ax rfl (fun c22 => ?_) (fun c22 => ?_)
  ·replace H := aX c22 H;refine aG ?_;obtain rfl := ak H;exact And.intro rfl (Exists.intro _ (Exists.intro _ ⟨bj rfl, aB [0, 0, 0] rfl, rfl, t4, t17, rfl⟩))
  ·replace H := aY c22 H;refine aC <| aa ?_;show AR _ _ _ _ _ [0, 1] _;refine zS rfl (fe (av' := i64 2) (di rfl rfl (by decide)) rfl) <| zm rfl <| ag <| af <| aa ?_;show AR _ _ _ _ _ [0] _;refine zS rfl (fe (av' := B true) (cd rfl rfl) (ay (by decide))) <| ag <| af <| ax rfl (fun _ => ?_) (fun hx => bK rfl hx);refine aC <| af <| aU <| af <| aa ?_;show AR _ _ _ _ _ [0, 1, 2] _;refine zS rfl (dx (E := mc) (m := 2) cJ (by kernel_rfl) rfl rfl rfl rfl) <| zS rfl (aL dJ rfl rfl) <| za rfl <| ag <| af ?_
   rcases Or.symm (co H) with ⟨p25, e24, H⟩ | ⟨x23, e24, H⟩
   ·subst H;refine aa ?_;show AR _ _ _ _ _ [0, 1, 2] _;refine zm rfl <| zS rfl (ah (av := .pt _ _) rfl) <| am rfl rfl (AO.callFPan (c := ce (.iface 58 (.agg #[.int .i64 p25]))) [0, 0, 0] rfl (.inr ⟨rfl, rfl, rfl⟩) ub rfl (uz F o1 x19.2 a3 t4 a5 x14.2.2 t17 p25 e24) rfl ?_);exact And.intro rfl (Exists.intro [] ⟨ba _, rfl, rfl⟩)
   refine aa ?_;show AR _ _ _ _ _ [0, 1, 2] _;refine zm rfl <| zS rfl (ah (av := .pt _ _) rfl) <| am rfl rfl (fu [0, 0, 0] rfl (.inr ⟨rfl, rfl, rfl⟩) ub rfl (vx F o1 x19.2 a3 t4 a5 x14.2.2 t17 x23.1 x23.2 e24) rfl (fun c A' h => by cases h.1) ?_)
   rintro av A' ⟨h, rfl⟩; cases h
   refine ag <| ax rfl (fun c26 => ?_) (fun c26 => ?_)
   ·replace H := aX c26 H;refine aG ?_;obtain rfl := ak H;exact And.intro rfl (Exists.intro _ (Exists.intro _ ⟨bj rfl, aB [0, 0, 0] rfl, rfl, t4, t17, rfl⟩))
   ·replace H := aY c26 H;refine aC <| aa ?_;show AR _ _ _ _ _ [0, 1] _;refine zS rfl (fe (av' := i64 3) (di rfl rfl (by decide)) rfl) <| zm rfl <| ag <| af <| aa ?_;show AR _ _ _ _ _ [0] _;refine zS rfl (fe (av' := B true) (cd rfl rfl) (ay (by decide))) <| ag <| af <| ax rfl (fun _ => ?_) (fun hx => bK rfl hx);refine aC <| af <| aU <| af <| aa ?_;show AR _ _ _ _ _ [0, 1, 2] _;refine zS rfl (dx (E := mc) (m := 3) cJ (by kernel_rfl) rfl rfl rfl rfl) <| zS rfl (aL dJ rfl rfl) <| za rfl <| ag <| af ?_
    rcases Or.symm (co H) with ⟨p29, e28, H⟩ | ⟨x27, e28, H⟩
    ·subst H;refine aa ?_;show AR _ _ _ _ _ [0, 1, 2] _;refine zm rfl <| zS rfl (ah (av := .pt _ _) rfl) <| am rfl rfl (AO.callFPan (c := ce (.iface 58 (.agg #[.int .i64 p29]))) [0, 0, 0] rfl (.inr ⟨rfl, rfl, rfl⟩) ua rfl (sw F o1 x23.2 a3 t4 a5 x14.2.2 t17 p29 e28) rfl ?_);exact And.intro rfl (Exists.intro [] ⟨ba _, rfl, rfl⟩)
    refine aa ?_;show AR _ _ _ _ _ [0, 1, 2] _;refine zm rfl <| zS rfl (ah (av := .pt _ _) rfl) <| am rfl rfl (fu [0, 0, 0] rfl (.inr ⟨rfl, rfl, rfl⟩) ua rfl (ux F o1 x23.2 a3 t4 a5 x14.2.2 t17 x27.1 x27.2.1 x27.2.2 e28) rfl (fun c A' h => by cases h.1) ?_)
    rintro av A' ⟨h, t30, rfl⟩; cases h
    refine ag <| ax rfl (fun c31 => ?_) (fun c31 => ?_)
    ·replace H := aX c31 H;refine aG ?_;obtain rfl := ak H;exact And.intro rfl (Exists.intro _ (Exists.intro _ ⟨bj rfl, aB [0, 0, 0] rfl, rfl, t4, t30, rfl⟩))
    ·replace H := aY c31 H;refine aC <| aa ?_;show AR _ _ _ _ _ [0, 1] _;refine zS rfl (fe (av' := i64 4) (di rfl rfl (by decide)) rfl) <| zm rfl <| ag <| af <| aa ?_;show AR _ _ _ _ _ [0] _;refine zS rfl (fe (av' := B true) (cd rfl rfl) (ay (by decide))) <| ag <| af <| ax rfl (fun _ => ?_) (fun hx => bK rfl hx);refine aC <| af <| aU <| af <| aa ?_;show AR _ _ _ _ _ [0, 1, 2] _;refine zS rfl (dx (E := mc) (m := 4) cJ (by kernel_rfl) rfl rfl rfl rfl) <| zS rfl (aL dJ rfl rfl) <| za rfl <| ag <| af ?_
     rcases Or.symm (co H) with ⟨p34, e33, H⟩ | ⟨x32, e33, H⟩
     ·subst H;refine aa ?_;show AR _ _ _ _ _ [0, 1, 2] _;refine zm rfl <| zS rfl (ah (av := .pt _ _) rfl) <| am rfl rfl (AO.callFPan (c := ce (.iface 58 (.agg #[.int .i64 p34]))) [0, 0, 0] rfl (.inr ⟨rfl, rfl, rfl⟩) tZ rfl (uw F o1 x27.2.1 a3 t4 a5 x27.2.2 t30 p34 e33) rfl ?_);exact And.intro rfl (Exists.intro [] ⟨ba _, rfl, rfl⟩)
     refine aa ?_;show AR _ _ _ _ _ [0, 1, 2] _;refine zm rfl <| zS rfl (ah (av := .pt _ _) rfl) <| am rfl rfl (fu [0, 0, 0] rfl (.inr ⟨rfl, rfl, rfl⟩) tZ rfl (vv F o1 x27.2.1 a3 t4 a5 x27.2.2 t30 x32.1 x32.2 e33) rfl (fun c A' h => by cases h.1) ?_)
     rintro av A' ⟨h, rfl⟩; cases h
     refine ag <| ax rfl (fun c35 => ?_) (fun c35 => ?_)
     ·replace H := aX c35 H;refine aG ?_;obtain rfl := ak H;exact And.intro rfl (Exists.intro _ (Exists.intro _ ⟨bj rfl, aB [0, 0, 0] rfl, rfl, t4, t30, rfl⟩))
     ·replace H := aY c35 H;refine aC <| aa ?_;show AR _ _ _ _ _ [0, 1] _;refine zS rfl (fe (av' := i64 5) (di rfl rfl (by decide)) rfl) <| zm rfl <| ag <| af <| aa ?_;show AR _ _ _ _ _ [0] _;refine zS rfl (fe (av' := B true) (cd rfl rfl) (ay (by decide))) <| ag <| af <| ax rfl (fun _ => ?_) (fun hx => bK rfl hx);refine aC <| af <| aU <| af <| aa ?_;show AR _ _ _ _ _ [0, 1, 2] _;refine zS rfl (dx (E := mc) (m := 5) cJ (by kernel_rfl) rfl rfl rfl rfl) <| zS rfl (aL dJ rfl rfl) <| za rfl <| ag <| af ?_
      rcases Or.symm (co H) with ⟨p38, e37, H⟩ | ⟨x36, e37, H⟩
      ·subst H;refine aa ?_;show AR _ _ _ _ _ [0, 1, 2] _;refine zm rfl <| zS rfl (ah (av := .pt _ _) rfl) <| am rfl rfl (AO.callFPan (c := ce (.iface 58 (.agg #[.int .i64 p38]))) [0, 0, 0] rfl (.inr ⟨rfl, rfl, rfl⟩) tY rfl (qT F o1 x32.2 a3 t4 a5 x27.2.2 t30 p38 e37) rfl ?_);exact And.intro rfl (Exists.intro [] ⟨ba _, rfl, rfl⟩)
      refine aa ?_;show AR _ _ _ _ _ [0, 1, 2] _;refine zm rfl <| zS rfl (ah (av := .pt _ _) rfl) <| am rfl rfl (fu [0, 0, 0] rfl (.inr ⟨rfl, rfl, rfl⟩) tY rfl (ry F o1 x32.2 a3 t4 a5 x27.2.2 t30 x36.1 x36.2.1 x36.2.2.1 x36.2.2.2 e37) rfl (fun c A' h => by cases h.1) ?_)
      rintro av A' ⟨h, t39, t40, rfl⟩; cases h
      refine ag <| ax rfl (fun c41 => ?_) (fun c41 => ?_)
      ·replace H := aX c41 H;refine aG ?_;obtain rfl := ak H;exact And.intro rfl (Exists.intro _ (Exists.intro _ ⟨bj rfl, aB [0, 0, 0] rfl, rfl, t39, t40, rfl⟩))
      ·replace H := aY c41 H;refine aC <| aa ?_;show AR _ _ _ _ _ [0, 1] _;refine zS rfl (fe (av' := i64 6) (di rfl rfl (by decide)) rfl) <| zm rfl <| ag <| af <| aa ?_;show AR _ _ _ _ _ [0] _;refine zS rfl (fe (av' := B true) (cd rfl rfl) (ay (by decide))) <| ag <| af <| ax rfl (fun _ => ?_) (fun hx => bK rfl hx);refine aC <| af <| aU <| af <| aa ?_;show AR _ _ _ _ _ [0, 1, 2] _;refine zS rfl (dx (E := mc) (m := 6) cJ (by kernel_rfl) rfl rfl rfl rfl) <| zS rfl (aL dJ rfl rfl) <| za rfl <| ag <| af ?_
       rcases Or.symm (co H) with ⟨p44, e43, H⟩ | ⟨x42, e43, H⟩
       ·subst H;refine aa ?_;show AR _ _ _ _ _ [0, 1, 2] _;refine zm rfl <| zS rfl (ah (av := .pt _ _) rfl) <| am rfl rfl (AO.callFPan (c := ce (.iface 58 (.agg #[.int .i64 p44]))) [0, 0, 0] rfl (.inr ⟨rfl, rfl, rfl⟩) tX rfl (pU F o1 x36.2.1 x36.2.2.2 t39 a5 x36.2.2.1 t40 p44 e43) rfl ?_);exact And.intro rfl (Exists.intro [] ⟨ba _, rfl, rfl⟩)
       refine aa ?_;show AR _ _ _ _ _ [0, 1, 2] _;refine zm rfl <| zS rfl (ah (av := .pt _ _) rfl) <| am rfl rfl (fu [0, 0, 0] rfl (.inr ⟨rfl, rfl, rfl⟩) tX rfl (qU F o1 x36.2.1 x36.2.2.2 t39 a5 x36.2.2.1 t40 x42.1 x42.2.1 x42.2.2.1 x42.2.2.2.1 x42.2.2.2.2 e43) rfl (fun c A' h => by cases h.1) ?_)
       rintro av A' ⟨h, t45, t46, rfl⟩; cases h
       refine ag <| ax rfl (fun c47 => ?_) (fun c47 => ?_)
       ·replace H := aX c47 H;refine aG ?_;obtain rfl := ak H;exact And.intro rfl (Exists.intro _ (Exists.intro _ ⟨bj rfl, aB [0, 0, 0] rfl, rfl, t45, t46, rfl⟩))
       ·replace H := aY c47 H;refine aC <| aa ?_;show AR _ _ _ _ _ [0, 1] _;refine zS rfl (fe (av' := i64 7) (di rfl rfl (by decide)) rfl) <| zm rfl <| ag <| af <| aa ?_;show AR _ _ _ _ _ [0] _;refine zS rfl (fe (av' := B false) (cd rfl rfl) (ay (by decide))) <| ag <| af <| ax rfl (fun hx => bK hx rfl) (fun _ => ?_);refine cB ?_;obtain rfl := ak H;exact And.intro rfl (Exists.intro _ (Exists.intro _ ⟨bj rfl, aB [0, 0, 0] rfl, rfl, t45, t46, rfl⟩))
theorem uv (F : Nat) (o1 : Nat) (a2 : List UInt8) (a3 : List (List UInt8)) (t4 : Nat) (a5 : Int) (a6 : List (Int × (List UInt8) × (List UInt8) × List ((List UInt8) × List UInt8))) (t7 : Nat) (r8 : List UInt8) (r11 : Int) (r12 : List (Int × (List UInt8) × (List UInt8) × List ((List UInt8) × List UInt8))) (r9 : List (List UInt8)) (H : nc F a2 a3 a5 a6 = some (Res.ok (r8, r11, r12, r9))) : ACalls Tryz.prog 21 [.pt o1 0] [.obj o1 [S a2, .sk t4 a3.length, i64 a5, slE (ab Enc.int (ab Enc.str (ab Enc.str (Enc.sl (ab Enc.str Enc.str))))) a6 (some t7)], .stk t4 (Enc.str.fl a3), .tok t7 43] (fun e A' => e = .ret (.tup []) ∧ ∃ t10 t13, A' = [.obj o1 [S r8, .sk t10 r9.length, i64 r11, slE (ab Enc.int (ab Enc.str (ab Enc.str (Enc.sl (ab Enc.str Enc.str))))) r12 (some t13)], .stk t10 (Enc.str.fl r9), .tok t13 43]) := te F o1 a2 a3 t4 a5 a6 t7 _ H
theorem su (F : Nat) (o1 : Nat) (a2 : List UInt8) (a3 : List (List UInt8)) (t4 : Nat) (a5 : Int) (a6 : List (Int × (List UInt8) × (List UInt8) × List ((List UInt8) × List UInt8))) (t7 : Nat) (e : Int) (H : nc F a2 a3 a5 a6 = some (Res.pan e)) : ACalls Tryz.prog 21 [.pt o1 0] [.obj o1 [S a2, .sk t4 a3.length, i64 a5, slE (ab Enc.int (ab Enc.str (ab Enc.str (Enc.sl (ab Enc.str Enc.str))))) a6 (some t7)], .stk t4 (Enc.str.fl a3), .tok t7 43] (fun ae A' => ae = .pan ((fun e => ce (.iface 58 (.agg #[.int .i64 e]))) e) ∧ A' = []) := te F o1 a2 a3 t4 a5 a6 t7 _ H
set_option maxRecDepth 100000 in
set_option maxHeartbeats 1000000 in
theorem vy (F : Nat) (a1 : List UInt8) (q2 : Option Nat) (r3 : List (Int × (List UInt8) × (List UInt8) × List ((List UInt8) × List UInt8))) (r4 : Int) (H : my F a1 = some (r3, r4)) : ACalls Tryz.prog 14 [slE Enc.byte a1 q2] [] (Ret (.tup [slE (ab Enc.int (ab Enc.str (ab Enc.str (Enc.sl (ab Enc.str Enc.str))))) r3 none, i64 r4]) []) := by
 unfold my at H
 refine mZ [2, 3] Tryz.func14 rfl rfl ?_;show AW _ _ 38 _ _ _;refine af <| aa ?_;show AR _ _ _ _ _ [0, 1] _;refine zX rfl (bg (zs := [.slice none 0 0]) (by kernel_rfl)) ?_;rintro _ _ ⟨o5, rfl, rfl⟩;refine zX rfl (bg (zs := [.int .i64 0]) (by kernel_rfl)) ?_;rintro _ _ ⟨o6, rfl, rfl⟩;refine ag <| af <| af <| aa ?_;show AR _ _ _ _ _ [0, 1, 2] _;refine zS rfl (ah (av := slE _ _ _) rfl) <| zS rfl (bE al rfl) <| zS rfl (gp rfl rfl) <| ag <| ax rfl (fun c7 => ?_) (fun c7 => ?_)
 ·replace H := aX c7 H;refine af <| aa ?_;show AR _ _ _ _ _ [0, 1] _;refine s0 rfl rfl (aq (i := 1) (c := .v _) (by kernel_rfl) rfl rfl rfl rfl (ac rfl)) <| s0 rfl rfl (aq (i := 0) (c := .v _) (by kernel_rfl) rfl rfl rfl rfl (ac rfl)) <| ag <| aG ?_;obtain ⟨rfl, rfl⟩ := dw H;exact Exists.intro _ (Exists.intro _ ⟨bD rfl ((bn (c := .v _) 1 aO rfl rfl rfl rfl).oneW (.nil _)) (bn (c := .v _) 0 bm rfl rfl rfl rfl), aB [] rfl, rfl, rfl⟩)
 ·replace H := aY c7 H;refine aC <| af <| aa ?_;show AR _ _ _ _ _ [0, 1] _;refine zS rfl (fP rfl rfl) <| am rfl rfl (AO.defer rfl ?_);show AR _ _ _ _ _ _ ⟨_, [.call (.func 20) [.pt o5 0, .pt o6 0] []], _⟩;refine ag <| af <| aa ?_;show AR _ _ _ _ _ [0, 1, 2, 3, 4] _;refine zS rfl (ah (av := slE _ _ _) rfl) <| zS rfl (oQ al cH ai rfl) <| zS rfl (cP (zs := [.string ⟨#[]⟩, .slice none 0 0, .int .i64 0, .slice none 0 0]) (ps := [(0, 1), (1, 1), (2, 1), (3, 1)]) (cs := [S a1, eH, i64 0, eH]) (by kernel_rfl) rfl rfl) <| zX rfl (pR rfl (.inr ⟨_, rfl⟩)) ?_;rintro _ _ ⟨o8, rfl, rfl⟩;refine zS rfl (aH (av := .pt _ _) rfl) <| ag ?_
  refine AW.nil_stkAt 0 1 rfl rfl fun t9 => ?_
  show AW _ _ _ _ _ ⟨_, _, [.stk t9 (Enc.str.fl ([] : List (List UInt8))), .obj o8 [S a1, .sk t9 (([] : List (List UInt8)).length), i64 0, eH], .obj o6 [i64 0], .obj o5 [eH]]⟩
  refine js 1 3 4 43 rfl rfl fun t10 => ?_
  show AW _ _ _ _ _ ⟨_, _, [.tok t10 43, .stk t9 (Enc.str.fl ([] : List (List UInt8))), .obj o8 [S a1, .sk t9 (([] : List (List UInt8)).length), i64 0, slE (ab Enc.int (ab Enc.str (ab Enc.str (Enc.sl (ab Enc.str Enc.str))))) [] (some t10)], .obj o6 [i64 0], .obj o5 [eH]]⟩;refine bL (X := (List UInt8) × Nat × (List (List UInt8)) × Int × (List (Int × (List UInt8) × (List UInt8) × List ((List UInt8) × List UInt8))) × Nat) (fun (y26, t27, y28, y29, y30, t31) => ⟨[(2, .pt o5 0), (3, .pt o6 0), (4, .pt o8 0)], [.call (.func 20) [.pt o5 0, .pt o6 0] []], [.obj o8 [S y26, .sk t27 y28.length, i64 y29, slE (ab Enc.int (ab Enc.str (ab Enc.str (Enc.sl (ab Enc.str Enc.str))))) y30 (some t31)], .obj o6 [i64 0], .obj o5 [eH], .stk t27 (Enc.str.fl y28), .tok t31 43]⟩) (fun (y26, t27, y28, y29, y30, t31) => jj F y26 y28 y29 y30 = some (r3, r4)) ?_ ?_
  ·refine aU <| dk (X := Nat × (List UInt8) × Nat × (List (List UInt8)) × Int × (List (Int × (List UInt8) × (List UInt8) × List ((List UInt8) × List UInt8))) × Nat) (fun (n18, y11, t12, y13, y14, y15, t16) => ⟨[(2, .pt o5 0), (3, .pt o6 0), (4, .pt o8 0)], [.call (.func 20) [.pt o5 0, .pt o6 0] []], [.obj o8 [S y11, .sk t12 y13.length, i64 y14, slE (ab Enc.int (ab Enc.str (ab Enc.str (Enc.sl (ab Enc.str Enc.str))))) y15 (some t16)], .obj o6 [i64 0], .obj o5 [eH], .stk t12 (Enc.str.fl y13), .tok t16 43]⟩) (fun (n18, y11, t12, y13, y14, y15, t16) => jk F n18 (y11, y13, y14, y15) = some (r3, r4)) (fun (n18, y11, t12, y13, y14, y15, t16) => n18) (F, a1, t9, ([] : List (List UInt8)), 0, [], t10) H (be [2, 2, 2, 1, 0] (.cons (.refl _) (.cons (.refl _) (.cons (.refl _) (.nil _)))) rfl) ?_;rintro ⟨n18, y11, t12, y13, y14, y15, t16⟩ H;obtain ⟨n18, rfl, H⟩ := fC H;replace H : jl F (jk F n18) y11 y13 y14 y15 = some (r3, r4) := H
   unfold jl at H
   refine af <| af <| aa ?_;show AR _ _ _ _ _ [0, 1, 2, 3, 4] _;refine zS rfl (ah (av := .pt _ _) rfl) <| zS rfl (ar rfl) <| zS rfl (an (n := 0) (by kernel_rfl) rfl) <| zR rfl (ao (i := 0) ai rfl rfl rfl rfl) <| zS rfl (ni rfl rfl) <| ag <| ax rfl (fun c19 => ?_) (fun c19 => ?_)
   ·replace H := aX c19 H;refine aC <| aU ?_
    rcases Or.symm (mm H) with ⟨p22, e21, H⟩ | ⟨x20, e21, H⟩
    ·refine aa ?_;show AR _ _ _ _ _ [0, 1] _;refine zS rfl (ah (av := .pt _ _) rfl) <| am rfl rfl (bb (c := ce (.iface 58 (.agg #[.int .i64 p22]))) [0, 2, 2] rfl ue rfl (su F o8 y11 y13 t12 y14 y15 t16 p22 e21) rfl ?_);refine Exists.intro [(2, .pt o5 0), (3, .pt o6 0)] ⟨by simp, .cons (.refl _) (.cons (.refl _) (.nil _)), ?_⟩;show ALeaves _ _ _ _ _ [.call (.func 20) [.pt o5 0, .pt o6 0] []] _ [.obj o6 [i64 0], .obj o5 [eH]];refine cx (v := .tup []) (u1 := (.panicking [{ v := (.iface 58 (.agg #[.int .i64 p22])), recovered := true }])) (A2 := [.obj o6 [i64 p22], .obj o5 [eH]]) [0, 0] (fun h => by cases h) qn rfl ?_ ?_
     ·show ADCalls _ _ [.pt o5 0, .pt o6 0] [.obj o6 [i64 0], .obj o5 [eH]] _ _;refine bH (av := .ifc 58 (.agg [i64 p22])) (l := [1]) Tryz.func20 rfl rfl rfl rfl rfl cZ rfl (fun cs => ?_);refine ASR.op rfl rfl ((aH (av := .ifc _ _) rfl).opR _) <| ASR.nil <| af <| aa ?_;show AR _ _ _ _ _ [0, 1] _;refine zS rfl (ah (av := .ifc _ _) rfl) <| zS rfl (dE (ms := []) (.inr rfl) bQ rfl rfl) <| ag <| ax rfl (fun _ => ?_) (fun hx => bK rfl hx);refine af <| aa ?_;show AR _ _ _ _ _ [0, 1, 2, 3, 4, 5, 6, 7] _;refine zS rfl (ah (av := .ifc _ _) rfl) <| zS rfl (cu Tryz.underlying58 rfl rfl) <| zS rfl (ah (av := .tup _) rfl) <| zS rfl (az (av := .agg _) rfl rfl) <| zS rfl (az (av := .v _) rfl rfl) <| zX rfl (bg (zs := [.int .i64 0]) (by kernel_rfl)) ?_;rintro _ _ ⟨o23, rfl, rfl⟩;refine s0 rfl rfl (aV (i := 0) (vs := [i64 p22]) (by kernel_rfl) rfl rfl (by simp [bA, slE]) rfl (ac rfl)) <| za rfl <| ag <| af <| af <| aa ?_;show AR _ _ _ _ _ [0, 1] _;refine zm rfl <| zS rfl (bB rfl) <| ag <| ax rfl (fun hx => bK hx rfl) (fun _ => ?_);refine aC <| cw (by kernel_rfl) ?_;show AI _ _ _ _ _ 4 (Array.replicate 4 false) _;refine zk 0 rfl (an (n := 0) (by kernel_rfl) rfl) ?_;show AI _ _ _ _ _ _ #[true, false, false, false] _;refine AI.two (i := 1) (j := 2) (by kernel_rfl) rfl rfl rfl rfl ?_ ?_
      ·refine bw rfl (ao (i := 0) bm rfl rfl rfl rfl) ?_;show AI _ _ _ _ _ _ #[true, true, false, false] _;refine cj (i := 2) (by kernel_rfl) rfl rfl <| AIO.op0 (aq (i := 2) (c := .v _) (by kernel_rfl) rfl rfl rfl rfl (ac rfl)) ?_;show AI _ _ _ _ _ _ #[true, true, true, false] _;refine cj (i := 3) (by kernel_rfl) rfl rfl <| AIO.op0 (aq (i := 1) (c := .v _) (by kernel_rfl) rfl rfl rfl rfl (ac rfl)) ?_;show AI _ _ _ _ _ _ #[true, true, true, true] _;refine cT rfl ?_;exact And.intro rfl (Exists.intro _ (Exists.intro _ ⟨bj rfl, aB [1, 1] rfl, rfl, rfl, rfl⟩))
      ·refine AIO.op0 (aq (i := 2) (c := .v _) (by kernel_rfl) rfl rfl rfl rfl (ac rfl)) ?_;show AI _ _ _ _ _ _ #[true, false, true, false] _;refine cj (i := 1) (by kernel_rfl) rfl rfl <| bw rfl (ao (i := 0) bm rfl rfl rfl rfl) ?_;show AI _ _ _ _ _ _ #[true, true, true, false] _;refine cj (i := 3) (by kernel_rfl) rfl rfl <| AIO.op0 (aq (i := 1) (c := .v _) (by kernel_rfl) rfl rfl rfl rfl (ac rfl)) ?_;show AI _ _ _ _ _ _ #[true, true, true, true] _;refine cT rfl ?_;exact And.intro rfl (Exists.intro _ (Exists.intro _ ⟨bj rfl, aB [1, 1] rfl, rfl, rfl, rfl⟩))
     show ALeaves _ _ _ _ _ [] .returning [.obj o6 [i64 p22], .obj o5 [eH]];obtain ⟨rfl, rfl⟩ := dw H;exact Exists.intro _ (Exists.intro _ ⟨bD rfl ((bn (c := .v _) 1 aO rfl rfl rfl rfl).oneW (.nil _)) (bn (c := .v _) 0 bm rfl rfl rfl rfl), aB [] rfl, rfl, rfl⟩)
    refine aa ?_;show AR _ _ _ _ _ [0, 1] _;refine zS rfl (ah (av := .pt _ _) rfl) <| am rfl rfl (aQ [0, 2, 2] rfl ue rfl (uv F o8 y11 y13 t12 y14 y15 t16 x20.1 x20.2.1 x20.2.2.1 x20.2.2.2 e21) rfl (fun c A' h => by cases h.1) ?_)
    rintro av A' ⟨h, t24, t25, rfl⟩; cases h
    refine ag ?_;exact Exists.intro (n18, x20.1, t24, x20.2.2.2, x20.2.1, x20.2.2.1, t25) ⟨H, Nat.lt_succ_self _, be [0, 2, 2, 0, 0] (.cons (.refl _) (.cons (.refl _) (.cons (.refl _) (.nil _)))) rfl⟩
   ·replace H := aY c19 H;refine cB ?_;exact Exists.intro (y11, t12, y13, y14, y15, t16) ⟨H, be [0, 0, 0, 0, 0] (.cons (.refl _) (.cons (.refl _) (.cons (.refl _) (.nil _)))) rfl⟩
  rintro ⟨y26, t27, y28, y29, y30, t31⟩ H;replace H : jj F y26 y28 y29 y30 = some (r3, r4) := H
  unfold jj at H
  refine af ?_
  rcases Or.symm (mm H) with ⟨p36, e35, H⟩ | ⟨x34, e35, H⟩
  ·refine aa ?_;show AR _ _ _ _ _ [0, 1, 2, 3, 4, 5, 6, 7, 8, 9, 10, 11, 12, 13] _;refine zS rfl (ah (av := .pt _ _) rfl) <| zS rfl (ar rfl) <| zS rfl (an (n := 1) (by kernel_rfl) rfl) <| zR rfl (ao (i := 0) au rfl rfl rfl rfl) <| zS rfl (fh au rfl) <| zS rfl (bJ rfl rfl) <| zm rfl <| aW (l := [13]) 32 (B ((decide ((y28.length : Int) = 0)) && (decide (0 < y29)))) (fun K => ?_) ?_
   ·rcases aj (decide ((y28.length : Int) = 0)) with h33 | h33
    ·refine zU h33 rfl (ah (av := .pt _ _) rfl) <| zU h33 rfl (ar rfl) <| zU h33 rfl (an (n := 2) (by kernel_rfl) rfl) <| zT h33 rfl (ck rfl rfl (ao (i := 0) aK rfl rfl rfl rfl) ?_);refine zU h33 rfl (gp rfl rfl) <| zS rfl (aD (av := .v _) rfl h33 rfl) ?_;exact K _ 5 _ (ay (cz h33)) rfl rfl
    ·refine zF h33 rfl <| zF h33 rfl <| zF h33 rfl <| zF h33 rfl <| zF h33 rfl <| zS rfl (aE (av := .v _) rfl h33 rfl) ?_;exact K _ 5 _ (ay (cA h33)) rfl rfl
   refine am rfl rfl (bb (c := ce (.iface 58 (.agg #[.int .i64 p36]))) [] rfl bV rfl (bX F ((decide ((y28.length : Int) = 0)) && (decide (0 < y29))) p36 e35) rfl ?_);refine Exists.intro [(2, .pt o5 0), (3, .pt o6 0)] ⟨by simp, .cons (.refl _) (.cons (.refl _) (.nil _)), ?_⟩;show ALeaves _ _ _ _ _ [.call (.func 20) [.pt o5 0, .pt o6 0] []] _ [.obj o8 [S y26, .sk t27 y28.length, i64 y29, slE (ab Enc.int (ab Enc.str (ab Enc.str (Enc.sl (ab Enc.str Enc.str))))) y30 (some t31)], .obj o6 [i64 0], .obj o5 [eH], .stk t27 (Enc.str.fl y28), .tok t31 43];refine cx (v := .tup []) (u1 := (.panicking [{ v := (.iface 58 (.agg #[.int .i64 p36])), recovered := true }])) (A2 := [.obj o6 [i64 p36], .obj o5 [eH]]) [1, 1] (fun h => by cases h) qn rfl ?_ ?_
   ·show ADCalls _ _ [.pt o5 0, .pt o6 0] [.obj o6 [i64 0], .obj o5 [eH]] _ _;refine bH (av := .ifc 58 (.agg [i64 p36])) (l := [1]) Tryz.func20 rfl rfl rfl rfl rfl cZ rfl (fun cs => ?_);refine ASR.op rfl rfl ((aH (av := .ifc _ _) rfl).opR _) <| ASR.nil <| af <| aa ?_;show AR _ _ _ _ _ [0, 1] _;refine zS rfl (ah (av := .ifc _ _) rfl) <| zS rfl (dE (ms := []) (.inr rfl) bQ rfl rfl) <| ag <| ax rfl (fun _ => ?_) (fun hx => bK rfl hx);refine af <| aa ?_;show AR _ _ _ _ _ [0, 1, 2, 3, 4, 5, 6, 7] _;refine zS rfl (ah (av := .ifc _ _) rfl) <| zS rfl (cu Tryz.underlying58 rfl rfl) <| zS rfl (ah (av := .tup _) rfl) <| zS rfl (az (av := .agg _) rfl rfl) <| zS rfl (az (av := .v _) rfl rfl) <| zX rfl (bg (zs := [.int .i64 0]) (by kernel_rfl)) ?_;rintro _ _ ⟨o37, rfl, rfl⟩;refine s0 rfl rfl (aV (i := 0) (vs := [i64 p36]) (by kernel_rfl) rfl rfl (by simp [bA, slE]) rfl (ac rfl)) <| za rfl <| ag <| af <| af <| aa ?_;show AR _ _ _ _ _ [0, 1] _;refine zm rfl <| zS rfl (bB rfl) <| ag <| ax rfl (fun hx => bK hx rfl) (fun _ => ?_);refine aC <| cw (by kernel_rfl) ?_;show AI _ _ _ _ _ 4 (Array.replicate 4 false) _;refine zk 0 rfl (an (n := 0) (by kernel_rfl) rfl) ?_;show AI _ _ _ _ _ _ #[true, false, false, false] _;refine AI.two (i := 1) (j := 2) (by kernel_rfl) rfl rfl rfl rfl ?_ ?_
    ·refine bw rfl (ao (i := 0) bm rfl rfl rfl rfl) ?_;show AI _ _ _ _ _ _ #[true, true, false, false] _;refine cj (i := 2) (by kernel_rfl) rfl rfl <| AIO.op0 (aq (i := 2) (c := .v _) (by kernel_rfl) rfl rfl rfl rfl (ac rfl)) ?_;show AI _ _ _ _ _ _ #[true, true, true, false] _;refine cj (i := 3) (by kernel_rfl) rfl rfl <| AIO.op0 (aq (i := 1) (c := .v _) (by kernel_rfl) rfl rfl rfl rfl (ac rfl)) ?_;show AI _ _ _ _ _ _ #[true, true, true, true] _;refine cT rfl ?_;exact And.intro rfl (Exists.intro _ (Exists.intro _ ⟨bj rfl, aB [1, 1] rfl, rfl, rfl, rfl⟩))
    ·refine AIO.op0 (aq (i := 2) (c := .v _) (by kernel_rfl) rfl rfl rfl rfl (ac rfl)) ?_;show AI _ _ _ _ _ _ #[true, false, true, false] _;refine cj (i := 1) (by kernel_rfl) rfl rfl <| bw rfl (ao (i := 0) bm rfl rfl rfl rfl) ?_;show AI _ _ _ _ _ _ #[true, true, true, false] _;refine cj (i := 3) (by kernel_rfl) rfl rfl <| AIO.op0 (aq (i := 1) (c := .v _) (by kernel_rfl) rfl rfl rfl rfl (ac rfl)) ?_;show AI _ _ _ _ _ _ #[true, true, true, true] _;refine cT rfl ?_;exact And.intro rfl (Exists.intro _ (Exists.intro _ ⟨bj rfl, aB [1, 1] rfl, rfl, rfl, rfl⟩))
   show ALeaves _ _ _ _ _ [] .returning [.obj o6 [i64 p36], .obj o5 [eH], .obj o8 [S y26, .sk t27 y28.length, i64 y29, slE (ab Enc.int (ab Enc.str (ab Enc.str (Enc.sl (ab Enc.str Enc.str))))) y30 (some t31)], .stk t27 (Enc.str.fl y28), .tok t31 43];obtain ⟨rfl, rfl⟩ := dw H;exact Exists.intro _ (Exists.intro _ ⟨bD rfl ((bn (c := .v _) 1 aO rfl rfl rfl rfl).oneW (.nil _)) (bn (c := .v _) 0 bm rfl rfl rfl rfl), aB [] rfl, rfl, rfl⟩)
  refine aa ?_;show AR _ _ _ _ _ [0, 1, 2, 3, 4, 5, 6, 7, 8, 9, 10, 11, 12, 13] _;refine zS rfl (ah (av := .pt _ _) rfl) <| zS rfl (ar rfl) <| zS rfl (an (n := 1) (by kernel_rfl) rfl) <| zR rfl (ao (i := 0) au rfl rfl rfl rfl) <| zS rfl (fh au rfl) <| zS rfl (bJ rfl rfl) <| zm rfl <| aW (l := [13]) 32 (B ((decide ((y28.length : Int) = 0)) && (decide (0 < y29)))) (fun K => ?_) ?_
  ·rcases aj (decide ((y28.length : Int) = 0)) with h33 | h33
   ·refine zU h33 rfl (ah (av := .pt _ _) rfl) <| zU h33 rfl (ar rfl) <| zU h33 rfl (an (n := 2) (by kernel_rfl) rfl) <| zT h33 rfl (ck rfl rfl (ao (i := 0) aK rfl rfl rfl rfl) ?_);refine zU h33 rfl (gp rfl rfl) <| zS rfl (aD (av := .v _) rfl h33 rfl) ?_;exact K _ 5 _ (ay (cz h33)) rfl rfl
   ·refine zF h33 rfl <| zF h33 rfl <| zF h33 rfl <| zF h33 rfl <| zF h33 rfl <| zS rfl (aE (av := .v _) rfl h33 rfl) ?_;exact K _ 5 _ (ay (cA h33)) rfl rfl
  refine am rfl rfl (aA rfl bV rfl (cm F ((decide ((y28.length : Int) = 0)) && (decide (0 < y29))) e35) ?_);refine ag <| af <| aa ?_;show AR _ _ _ _ _ [0, 1, 2, 3, 4, 5] _;refine zS rfl (ah (av := .pt _ _) rfl) <| zS rfl (ar rfl) <| zS rfl (an (n := 3) (by kernel_rfl) rfl) <| zR rfl (ao (i := 0) aO rfl rfl rfl rfl) <| s0 rfl rfl (aq (i := 2) (c := slE _ _ _) (by kernel_rfl) rfl rfl rfl rfl (ac rfl)) <| s0 rfl rfl (aq (i := 1) (c := .v _) (by kernel_rfl) rfl rfl rfl rfl (ac rfl)) <| ag <| aG ?_;show ALeaves _ _ _ _ _ [.call (.func 20) [.pt o5 0, .pt o6 0] []] _ [.obj o8 [S y26, .sk t27 y28.length, i64 y29, slE (ab Enc.int (ab Enc.str (ab Enc.str (Enc.sl (ab Enc.str Enc.str))))) y30 (some t31)], .obj o6 [i64 0], .obj o5 [slE (ab Enc.int (ab Enc.str (ab Enc.str (Enc.sl (ab Enc.str Enc.str))))) y30 (some t31)], .stk t27 (Enc.str.fl y28), .tok t31 43];refine cx (v := .tup []) (u1 := .returning) (A2 := [.obj o6 [i64 0], .obj o5 [slE (ab Enc.int (ab Enc.str (ab Enc.str (Enc.sl (ab Enc.str Enc.str))))) y30 (some t31)]]) [1, 1] (fun h => by cases h) qn rfl ?_ ?_
  ·show ADCalls _ _ [.pt o5 0, .pt o6 0] [.obj o6 [i64 0], .obj o5 [slE (ab Enc.int (ab Enc.str (ab Enc.str (Enc.sl (ab Enc.str Enc.str))))) y30 (some t31)]] _ _;refine bH (av := .v .nilIface) (l := [1]) Tryz.func20 rfl rfl rfl rfl rfl Recovers.ret rfl (fun cs => ?_);refine ASR.op rfl rfl ((asg rfl).opR _) <| ASR.nil <| af <| aa ?_;show AR _ _ _ _ _ [0, 1] _;refine zm rfl <| zS rfl (mP (n := 0) (t := 0) (k := .i64) bQ rfl rfl) <| ag <| ax rfl (fun hx => bK hx rfl) (fun _ => ?_);refine aC ?_;exact And.intro rfl (Exists.intro _ (Exists.intro _ ⟨bj rfl, aB [0, 0] rfl, rfl, rfl, rfl⟩))
  show ALeaves _ _ _ _ _ [] .returning [.obj o6 [i64 0], .obj o5 [slE (ab Enc.int (ab Enc.str (ab Enc.str (Enc.sl (ab Enc.str Enc.str))))) y30 (some t31)], .obj o8 [S y26, .sk t27 y28.length, i64 y29, slE (ab Enc.int (ab Enc.str (ab Enc.str (Enc.sl (ab Enc.str Enc.str))))) y30 (some t31)], .stk t27 (Enc.str.fl y28), .tok t31 43];obtain ⟨rfl, rfl⟩ := dw H;exact Exists.intro _ (Exists.intro _ ⟨bD rfl ((bn (c := slE _ _ _) 1 aO rfl rfl rfl rfl).oneW (.tok _ _ _)) (bn (c := .v _) 0 bm rfl rfl rfl rfl), aB [] rfl, rfl, rfl⟩)
end Go.Proofs.YtkbfjepffpddfaaGreatDoor
namespace Go.Pv
def nQ (F : Nat) : Option ((List UInt8)) :=
some ([105, 116, 101, 109] : List UInt8)
def ot (F : Nat) (a1 : List (Int × (List UInt8) × (List UInt8) × List ((List UInt8) × List UInt8))) : Option ((List (Int × (List UInt8) × (List UInt8) × List ((List UInt8) × List UInt8))) × Bool) :=
fy (lk F a1) fun x5 x6 =>
some (x5, x6)
def jM (F : Nat) (a1 : List (Int × (List UInt8) × (List UInt8) × List ((List UInt8) × List UInt8))) : Option ((List UInt8) × (List UInt8) × (List UInt8) × (List UInt8) × Int) :=
bnd (cX F a1 ([([103, 117, 105, 100] : List UInt8)] : List (List UInt8))) fun x9 =>
bnd (cX F a1 ([([116, 105, 116, 108, 101] : List UInt8)] : List (List UInt8))) fun x11 =>
bnd (cX F a1 ([([108, 105, 110, 107] : List UInt8)] : List (List UInt8))) fun x13 =>
bnd (cX F a1 ([([100, 101, 115, 99, 114, 105, 112, 116, 105, 111, 110] : List UInt8)] : List (List UInt8))) fun x15 =>
some (x9, x11, x13, x15, 0)
def mD (F : Nat) : Option ((List UInt8)) :=
some ([101, 110, 116, 114, 121] : List UInt8)
def pM (F : Nat) (a1 : List (Int × (List UInt8) × (List UInt8) × List ((List UInt8) × List UInt8))) : Option ((List (Int × (List UInt8) × (List UInt8) × List ((List UInt8) × List UInt8))) × Bool) :=
some (a1, true)
def gm (x9 : List UInt8) (x11 : List UInt8) (x13 : List UInt8) (y23 : List UInt8) (y33 : Int) : Option ((List UInt8) × (List UInt8) × (List UInt8) × (List UInt8) × Int) :=
some (x9, x11, y23, x13, y33)
def eZ (F : Nat) (a1 : List (Int × (List UInt8) × (List UInt8) × List ((List UInt8) × List UInt8))) (x9 : List UInt8) (x11 : List UInt8) (x13 : List UInt8) (y23 : List UInt8) : Option ((List UInt8) × (List UInt8) × (List UInt8) × (List UInt8) × Int) :=
bnd (cX F a1 ([([117, 112, 100, 97, 116, 101, 100] : List UInt8)] : List (List UInt8))) fun x25 =>
fy (iW F x25) fun x27 x28 =>
bif ((decide (x28 = 0)) && (decide (0 ≤ x27))) && (decide (x27 ≤ 253402300799)) then
  gm x9 x11 x13 y23 x27
else
  gm x9 x11 x13 y23 0
def iO (F : Nat) (a1 : List (Int × (List UInt8) × (List UInt8) × List ((List UInt8) × List UInt8))) : Option ((List UInt8) × (List UInt8) × (List UInt8) × (List UInt8) × Int) :=
bnd (cX F a1 ([([105, 100] : List UInt8)] : List (List UInt8))) fun x9 =>
bnd (cX F a1 ([([116, 105, 116, 108, 101] : List UInt8)] : List (List UInt8))) fun x11 =>
bnd (cX F a1 ([([115, 117, 109, 109, 97, 114, 121] : List UInt8), ([99, 111, 110, 116, 101, 110, 116] : List UInt8)] : List (List UInt8))) fun x13 =>
fy (ll F a1) fun x16 x17 =>
bif x17 then
  fy (kV F x16 ([104, 114, 101, 102] : List UInt8)) fun x20 x21 =>
  eZ F a1 x9 x11 x13 x20
else
  eZ F a1 x9 x11 x13 ([] : List UInt8)
def de (x19 : List UInt8) (y57 : List ((List UInt8) × (List UInt8) × (List UInt8) × (List UInt8) × Int)) : Option ((List UInt8) × (List ((List UInt8) × (List UInt8) × (List UInt8) × (List UInt8) × Int)) × Int) :=
some (x19, y57, 0)
def dd (F : Nat) (x10 : Option Bool) (y25 : List ((List UInt8) × (List UInt8) × (List UInt8) × (List UInt8) × Int)) (z27 : Nat) (x29 : List (Int × (List UInt8) × (List UInt8) × List ((List UInt8) × List UInt8))) : Option (((List ((List UInt8) × (List UInt8) × (List UInt8) × (List UInt8) × Int)) × Nat) × Bool) :=
grd (decide (z27 = 0)) <|
bnd (fj F x29) fun x30 =>
bnd (ikm x10 (nQ F) (mD F)) fun x32 =>
bif !decide (x30 = x32) then
  some ((y25, 0), true)
else
  bif decide ((y25.length : Int) = 200) then
    some ((y25, 1), false)
  else
    bnd5 (ikm x10 (jM F x29) (iO F x29)) fun x36 x37 x38 x39 x40 =>
    grd (kF (min (x39.length : Int) 4000) x39.length) <|
    lt (to_ x39 (min (x39.length : Int) 4000)) fun x44 =>
    grd (dU (y25.length + ([(x36, x37, x38, x44, x40)] : List ((List UInt8) × (List UInt8) × (List UInt8) × (List UInt8) × Int)).length)) <|
    lt (y25 ++ ([(x36, x37, x38, x44, x40)] : List ((List UInt8) × (List UInt8) × (List UInt8) × (List UInt8) × Int))) fun x48 =>
    some ((x48, 0), true)
def jq (F : Nat) (a1 : List (Int × (List UInt8) × (List UInt8) × List ((List UInt8) × List UInt8))) : Option ((List UInt8) × (List ((List UInt8) × (List UInt8) × (List UInt8) × (List UInt8) × Int)) × Int) :=
bnd (ke F a1) fun x7 =>
bif !x7 then
  some (([] : List UInt8), [], 2)
else
  fy (rt F a1) fun x10 x11 =>
  bif !x11 then
    some (([] : List UInt8), [], 2)
  else
    fy (ikm x10 (ot F a1) (pM F a1)) fun x15 x16 =>
    bif !x16 then
      some (([] : List UInt8), [], 2)
    else
      bnd (cX F x15 ([([116, 105, 116, 108, 101] : List UInt8)] : List (List UInt8))) fun x19 =>
      bnd (dG F x15) fun _ =>
      bnd (fi F (fun s x => dd F x10 s.1 s.2 x) ([], 0) x15) fun x51 =>
      bif decide (x51.2 = 0) then
        de x19 x51.1
      else
        bif decide (x51.2 = 1) then
          de x19 x51.1
        else
          none
def dR (F : Nat) (a1 : List UInt8) : Option ((List UInt8) × (List ((List UInt8) × (List UInt8) × (List UInt8) × (List UInt8) × Int)) × Int) :=
fy (my F a1) fun x7 x8 =>
bif !decide (x8 = 0) then
  some (([] : List UInt8), [], x8)
else
  bnd3 (jq F x7) fun x11 x12 x13 =>
  some (x11, x12, x13)
end Go.Pv
namespace Go.Proofs.YtkbfjepffpddfaaGreatDoor
open Go.RowKit Go.Av Go.Pv
theorem en14_fdb : ∀ (args : Array Value) (w : World), (callFunc 14 args).run Tryz.prog w = .ok (.enter 14 args) w := fun _ _ => by kernel_rfl
theorem en15_fdb : ∀ (args : Array Value) (w : World), (callFunc 15 args).run Tryz.prog w = .ok (.enter 15 args) w := fun _ _ => by kernel_rfl
theorem en23_fdb : ∀ (args : Array Value) (w : World), (callFunc 23 args).run Tryz.prog w = .ok (.enter 23 args) w := fun _ _ => by kernel_rfl
theorem en24_fdb : ∀ (args : Array Value) (w : World), (callFunc 24 args).run Tryz.prog w = .ok (.enter 24 args) w := fun _ _ => by kernel_rfl
theorem jw : ∀ (args : Array Value) (w : World), (callFunc 25 args).run Tryz.prog w = .ok (.enter 25 args) w := fun _ _ => by kernel_rfl
theorem en26_fdb : ∀ (args : Array Value) (w : World), (callFunc 26 args).run Tryz.prog w = .ok (.enter 26 args) w := fun _ _ => by kernel_rfl
theorem en27_fdb : ∀ (args : Array Value) (w : World), (callFunc 27 args).run Tryz.prog w = .ok (.enter 27 args) w := fun _ _ => by kernel_rfl
theorem wK : ∀ (args : Array Value) (w : World), (callFunc 38 args).run Tryz.prog w = .ok (.enter 38 args) w := fun _ _ => by kernel_rfl
theorem en41_fdb : ∀ (args : Array Value) (w : World), (callFunc 41 args).run Tryz.prog w = .ok (.enter 41 args) w := fun _ _ => by kernel_rfl
theorem Af : ∀ (args : Array Value) (w : World), (callFunc 146 args).run Tryz.prog w = .ok (.enter 146 args) w := fun _ _ => by kernel_rfl
theorem Ae : ∀ (args : Array Value) (w : World), (callFunc 147 args).run Tryz.prog w = .ok (.enter 147 args) w := fun _ _ => by kernel_rfl
theorem Ad : ∀ (args : Array Value) (w : World), (callFunc 148 args).run Tryz.prog w = .ok (.enter 148 args) w := fun _ _ => by kernel_rfl
theorem Ab : ∀ (args : Array Value) (w : World), (callFunc 150 args).run Tryz.prog w = .ok (.enter 150 args) w := fun _ _ => by kernel_rfl
theorem Aa : ∀ (args : Array Value) (w : World), (callFunc 151 args).run Tryz.prog w = .ok (.enter 151 args) w := fun _ _ => by kernel_rfl
theorem zZ : ∀ (args : Array Value) (w : World), (callFunc 152 args).run Tryz.prog w = .ok (.enter 152 args) w := fun _ _ => by kernel_rfl
theorem zV : ∀ (args : Array Value) (w : World), (callFunc 154 args).run Tryz.prog w = .ok (.enter 154 args) w := fun _ _ => by kernel_rfl
theorem zQ : ∀ (args : Array Value) (w : World), (callFunc 155 args).run Tryz.prog w = .ok (.enter 155 args) w := fun _ _ => by kernel_rfl
set_option maxRecDepth 100000 in
set_option maxHeartbeats 1000000 in
theorem wZ (F : Nat) (r1 : List UInt8) (H : nQ F = some r1) : ACalls Tryz.prog 147 [.agg []] [] (Ret (S r1) []) := by
 unfold nQ at H
 refine ap Tryz.func147 rfl rfl ?_;show AW _ _ 3 _ _ _;refine af <| aa ?_;show AR _ _ _ _ _ [0, 1] _;refine zR rfl (dQ rfl (.inr ⟨_, rfl⟩)) <| za rfl <| ag <| af <| aa ?_;show AR _ _ _ _ _ [0] _;refine za rfl <| ag <| aG ?_;obtain rfl := ak H;exact And.intro rfl (Exists.intro _ (Exists.intro _ ⟨aF rfl (.refl _), aB [] rfl, rfl, rfl⟩))
set_option maxRecDepth 100000 in
set_option maxHeartbeats 1000000 in
theorem yA (F : Nat) (a1 : List (Int × (List UInt8) × (List UInt8) × List ((List UInt8) × List UInt8))) (q2 : Option Nat) (r3 : List (Int × (List UInt8) × (List UInt8) × List ((List UInt8) × List UInt8))) (r4 : Bool) (H : ot F a1 = some (r3, r4)) : ACalls Tryz.prog 148 [.agg [], slE (ab Enc.int (ab Enc.str (ab Enc.str (Enc.sl (ab Enc.str Enc.str))))) a1 q2] [] (Ret (.tup [slE (ab Enc.int (ab Enc.str (ab Enc.str (Enc.sl (ab Enc.str Enc.str))))) r3 none, B r4]) []) := by
 unfold ot at H
 refine ap Tryz.func148 rfl rfl ?_;show AW _ _ 10 _ _ _;refine af <| aa ?_;show AR _ _ _ _ _ [0, 1, 2] _;refine zR rfl (dQ rfl (.inr ⟨_, rfl⟩)) <| za rfl <| za rfl <| ag <| af ?_;obtain ⟨x5, x6, e7, H⟩ := cF H;refine aa ?_;show AR _ _ _ _ _ [0, 1, 2, 3, 4, 5] _;refine zS rfl (ah (av := slE _ _ _) rfl) <| am rfl rfl (aA rfl wK rfl (uC F a1 q2 x5 x6 e7) ?_);refine zS rfl (az (av := slE _ _ _) rfl rfl) <| zS rfl (az (av := .v _) rfl rfl) <| zS rfl (aH (av := slE _ _ _) rfl) <| za rfl <| ag <| aG ?_;obtain ⟨rfl, rfl⟩ := dw H;exact And.intro rfl (Exists.intro _ (Exists.intro _ ⟨bk rfl (.refl _) (.refl _), aB [] rfl, rfl, rfl⟩))
abbrev _root_.Go.Av.dK := @Tryz.underlying32
set_option maxRecDepth 100000 in
set_option maxHeartbeats 1000000 in
theorem vA (F : Nat) (a1 : List (Int × (List UInt8) × (List UInt8) × List ((List UInt8) × List UInt8))) (q2 : Option Nat) (r3 : List UInt8) (r4 : List UInt8) (r5 : List UInt8) (r6 : List UInt8) (r7 : Int) (H : jM F a1 = some (r3, r4, r5, r6, r7)) : ACalls Tryz.prog 146 [.agg [], slE (ab Enc.int (ab Enc.str (ab Enc.str (Enc.sl (ab Enc.str Enc.str))))) a1 q2] [] (Ret (.agg [S r3, S r4, S r5, S r6, i64 r7]) []) := by
 unfold jM at H
 refine ap Tryz.func146 rfl rfl ?_;show AW _ _ 18 _ _ _;refine af <| aa ?_;show AR _ _ _ _ _ [0, 1] _;refine zR rfl (dQ rfl (.inr ⟨_, rfl⟩)) <| zX rfl (bg (zs := [.string ⟨#[]⟩, .string ⟨#[]⟩, .string ⟨#[]⟩, .string ⟨#[]⟩, .int .i64 0]) (by kernel_rfl)) ?_;rintro _ _ ⟨o8, rfl, rfl⟩;refine ag <| af ?_;obtain ⟨x9, e10, H⟩ := bW H;obtain ⟨x11, e12, H⟩ := bW H;obtain ⟨x13, e14, H⟩ := bW H;obtain ⟨x15, e16, H⟩ := bW H;refine aa ?_;show AR _ _ _ _ _ [0, 1, 2, 3, 4, 5, 6, 7, 8, 9, 10, 11, 12, 13] _;refine zS rfl (ah (av := slE _ _ _) rfl) <| zR rfl (cO (E := Enc.str) (bytes := 16) (xs := [.const _]) (l := ([([103, 117, 105, 100] : List UInt8)] : List (List UInt8))) au (by kernel_rfl) rfl rfl (by decide) rfl rfl) <| am rfl rfl (aA rfl jw rfl (dV F a1 q2 ([([103, 117, 105, 100] : List UInt8)] : List (List UInt8)) x9 e10) ?_);refine zS rfl (ah (av := slE _ _ _) rfl) <| zR rfl (cO (E := Enc.str) (bytes := 16) (xs := [.const _]) (l := ([([116, 105, 116, 108, 101] : List UInt8)] : List (List UInt8))) au (by kernel_rfl) rfl rfl (by decide) rfl rfl) <| am rfl rfl (aA rfl jw rfl (dV F a1 q2 ([([116, 105, 116, 108, 101] : List UInt8)] : List (List UInt8)) x11 e12) ?_)
 refine zS rfl (ah (av := slE _ _ _) rfl) <| zR rfl (cO (E := Enc.str) (bytes := 16) (xs := [.const _]) (l := ([([108, 105, 110, 107] : List UInt8)] : List (List UInt8))) au (by kernel_rfl) rfl rfl (by decide) rfl rfl) <| am rfl rfl (aA rfl jw rfl (dV F a1 q2 ([([108, 105, 110, 107] : List UInt8)] : List (List UInt8)) x13 e14) ?_);refine zS rfl (ah (av := slE _ _ _) rfl) <| zR rfl (cO (E := Enc.str) (bytes := 16) (xs := [.const _]) (l := ([([100, 101, 115, 99, 114, 105, 112, 116, 105, 111, 110] : List UInt8)] : List (List UInt8))) au (by kernel_rfl) rfl rfl (by decide) rfl rfl) <| am rfl rfl (aA rfl jw rfl (dV F a1 q2 ([([100, 101, 115, 99, 114, 105, 112, 116, 105, 111, 110] : List UInt8)] : List (List UInt8)) x15 e16) ?_);refine zS rfl (cP (zs := [.string ⟨#[]⟩, .string ⟨#[]⟩, .string ⟨#[]⟩, .string ⟨#[]⟩, .int .i64 0]) (ps := [(0, 1), (1, 1), (2, 1), (3, 1), (4, 1)]) (cs := [S x9, S x11, S x13, S x15, i64 0]) (by kernel_rfl) rfl rfl) <| s0 rfl rfl (aV (i := 0) (vs := [S x9, S x11, S x13, S x15, i64 0]) (by kernel_rfl) rfl rfl (by simp [bA, slE]) rfl (ac rfl)) <| ag <| aG ?_;obtain ⟨rfl, rfl, rfl, rfl, rfl⟩ := res5 H;exact And.intro rfl (Exists.intro _ (Exists.intro _ ⟨dh (lM rfl (CellV.agg (off := 0) (cs := [S x9, S x11, S x13, S x15, i64 0]) (n := 5) 0 dK rfl (by kernel_rfl) rfl rfl (ac rfl))), aB [] rfl, rfl, rfl⟩))
set_option maxRecDepth 100000 in
set_option maxHeartbeats 1000000 in
theorem vG (F : Nat) (r1 : List UInt8) (H : mD F = some r1) : ACalls Tryz.prog 151 [.agg []] [] (Ret (S r1) []) := by
 unfold mD at H
 refine ap Tryz.func151 rfl rfl ?_;show AW _ _ 3 _ _ _;refine af <| aa ?_;show AR _ _ _ _ _ [0, 1] _;refine zR rfl (dQ rfl (.inr ⟨_, rfl⟩)) <| za rfl <| ag <| af <| aa ?_;show AR _ _ _ _ _ [0] _;refine za rfl <| ag <| aG ?_;obtain rfl := ak H;exact And.intro rfl (Exists.intro _ (Exists.intro _ ⟨aF rfl (.refl _), aB [] rfl, rfl, rfl⟩))
set_option maxRecDepth 100000 in
set_option maxHeartbeats 1000000 in
theorem xd (F : Nat) (a1 : List (Int × (List UInt8) × (List UInt8) × List ((List UInt8) × List UInt8))) (q2 : Option Nat) (r3 : List (Int × (List UInt8) × (List UInt8) × List ((List UInt8) × List UInt8))) (r4 : Bool) (H : pM F a1 = some (r3, r4)) : ACalls Tryz.prog 152 [.agg [], slE (ab Enc.int (ab Enc.str (ab Enc.str (Enc.sl (ab Enc.str Enc.str))))) a1 q2] [] (Ret (.tup [slE (ab Enc.int (ab Enc.str (ab Enc.str (Enc.sl (ab Enc.str Enc.str))))) r3 none, B r4]) []) := by
 unfold pM at H
 refine ap Tryz.func152 rfl rfl ?_;show AW _ _ 7 _ _ _;refine af <| aa ?_;show AR _ _ _ _ _ [0, 1, 2] _;refine zR rfl (dQ rfl (.inr ⟨_, rfl⟩)) <| za rfl <| za rfl <| ag <| af <| aa ?_;show AR _ _ _ _ _ [0, 1, 2] _;refine zS rfl (ah (av := slE _ _ _) rfl) <| zS rfl (aH (av := slE _ _ _) rfl) <| za rfl <| ag <| aG ?_;obtain ⟨rfl, rfl⟩ := dw H;exact And.intro rfl (Exists.intro _ (Exists.intro _ ⟨bk rfl (.tok _ _ _) (.refl _), aB [] rfl, rfl, rfl⟩))
set_option maxRecDepth 100000 in
set_option maxHeartbeats 1000000 in
theorem uH (F : Nat) (a1 : List (Int × (List UInt8) × (List UInt8) × List ((List UInt8) × List UInt8))) (q2 : Option Nat) (r3 : List UInt8) (r4 : List UInt8) (r5 : List UInt8) (r6 : List UInt8) (r7 : Int) (H : iO F a1 = some (r3, r4, r5, r6, r7)) : ACalls Tryz.prog 150 [.agg [], slE (ab Enc.int (ab Enc.str (ab Enc.str (Enc.sl (ab Enc.str Enc.str))))) a1 q2] [] (Ret (.agg [S r3, S r4, S r5, S r6, i64 r7]) []) := by
 unfold iO at H
 refine ap Tryz.func150 rfl rfl ?_;show AW _ _ 52 _ _ _;refine af <| aa ?_;show AR _ _ _ _ _ [0, 1] _;refine zR rfl (dQ rfl (.inr ⟨_, rfl⟩)) <| zX rfl (bg (zs := [.string ⟨#[]⟩, .string ⟨#[]⟩, .string ⟨#[]⟩, .string ⟨#[]⟩, .int .i64 0]) (by kernel_rfl)) ?_;rintro _ _ ⟨o8, rfl, rfl⟩;refine ag <| af ?_;obtain ⟨x9, e10, H⟩ := bW H;obtain ⟨x11, e12, H⟩ := bW H;obtain ⟨x13, e14, H⟩ := bW H;refine aa ?_;show AR _ _ _ _ _ [0, 1, 2, 3, 4, 5, 6, 7, 8, 9, 10, 11] _;refine zS rfl (ah (av := slE _ _ _) rfl) <| zR rfl (cO (E := Enc.str) (bytes := 16) (xs := [.const _]) (l := ([([105, 100] : List UInt8)] : List (List UInt8))) au (by kernel_rfl) rfl rfl (by decide) rfl rfl) <| am rfl rfl (aA rfl jw rfl (dV F a1 q2 ([([105, 100] : List UInt8)] : List (List UInt8)) x9 e10) ?_);refine zS rfl (ah (av := slE _ _ _) rfl) <| zR rfl (cO (E := Enc.str) (bytes := 16) (xs := [.const _]) (l := ([([116, 105, 116, 108, 101] : List UInt8)] : List (List UInt8))) au (by kernel_rfl) rfl rfl (by decide) rfl rfl) <| am rfl rfl (aA rfl jw rfl (dV F a1 q2 ([([116, 105, 116, 108, 101] : List UInt8)] : List (List UInt8)) x11 e12) ?_)
 refine zS rfl (ah (av := slE _ _ _) rfl) <| zR rfl (cO (E := Enc.str) (bytes := 16) (xs := [.const _, .const _]) (l := ([([115, 117, 109, 109, 97, 114, 121] : List UInt8), ([99, 111, 110, 116, 101, 110, 116] : List UInt8)] : List (List UInt8))) au (by kernel_rfl) rfl rfl (by decide) rfl rfl) <| am rfl rfl (aA rfl jw rfl (dV F a1 q2 ([([115, 117, 109, 109, 97, 114, 121] : List UInt8), ([99, 111, 110, 116, 101, 110, 116] : List UInt8)] : List (List UInt8)) x13 e14) ?_);refine zS rfl (cP (zs := [.string ⟨#[]⟩, .string ⟨#[]⟩, .string ⟨#[]⟩, .string ⟨#[]⟩, .int .i64 0]) (ps := [(0, 1), (1, 1), (2, 1), (3, 1), (4, 1)]) (cs := [S x9, S x11, S ([] : List UInt8), S x13, i64 0]) (by kernel_rfl) rfl rfl) <| zX rfl (bg (zs := [.string ⟨#[]⟩, .string ⟨#[]⟩, .string ⟨#[]⟩, .string ⟨#[]⟩, .int .i64 0]) (by kernel_rfl)) ?_;rintro _ _ ⟨o15, rfl, rfl⟩;refine s0 rfl rfl (aV (i := 0) (vs := [S x9, S x11, S ([] : List UInt8), S x13, i64 0]) (by kernel_rfl) rfl rfl (by simp [bA, slE]) rfl (ac rfl)) <| ag <| af ?_;obtain ⟨x16, x17, e18, H⟩ := cF H;refine aa ?_;show AR _ _ _ _ _ [0, 1, 2, 3, 4, 5, 6] _;refine zS rfl (ah (av := slE _ _ _) rfl) <| am rfl rfl (aA rfl wK rfl (uD F a1 q2 x16 x17 e18) ?_)
 refine zS rfl (ah (av := .tup _) rfl) <| zS rfl (az (av := slE _ _ _) rfl rfl) <| zS rfl (az (av := .v _) rfl rfl) <| zS rfl (aH (av := slE _ _ _) rfl) <| za rfl <| ag <| bL (X := (List UInt8)) (fun y23 => ⟨[(1, slE (ab Enc.int (ab Enc.str (ab Enc.str (Enc.sl (ab Enc.str Enc.str))))) a1 q2), (4, .pt o8 0), (5, .pt o15 0)], [], [.obj o15 [S x9, S x11, S y23, S x13, i64 0], .obj o8 [S ([] : List UInt8), S ([] : List UInt8), S ([] : List UInt8), S ([] : List UInt8), i64 0]]⟩) (fun y23 => eZ F a1 x9 x11 x13 y23 = some (r3, r4, r5, r6, r7)) ?_ ?_
 ·refine af <| aa ?_;show AR _ _ _ _ _ [0] _;refine zm rfl <| ag <| ax rfl (fun c19 => ?_) (fun c19 => ?_)
  ·replace H := aX c19 H;obtain ⟨x20, x21, e22, H⟩ := cF H;refine aa ?_;show AR _ _ _ _ _ [0, 1, 2, 3, 4, 5, 6] _;refine zS rfl (ah (av := slE _ _ _) rfl) <| am rfl rfl (aA rfl zV rfl (qw F x16 none ([104, 114, 101, 102] : List UInt8) x20 x21 e22) ?_);refine zS rfl (ah (av := .tup _) rfl) <| zS rfl (az (av := .v _) rfl rfl) <| zS rfl (az (av := .v _) rfl rfl) <| zS rfl (an (n := 2) (by kernel_rfl) rfl) <| s0 rfl rfl (aq (i := 0) (c := .v _) (by kernel_rfl) rfl rfl rfl rfl (ac rfl)) <| ag ?_;exact Exists.intro x20 ⟨H, be [0, 0] (.cons (.refl _) (.cons (.refl _) (.cons (.refl _) (.nil _)))) rfl⟩
  ·replace H := aY c19 H;refine aC ?_;exact Exists.intro ([] : List UInt8) ⟨H, be [0, 0] (.cons (.refl _) (.cons (.refl _) (.cons (.refl _) (.nil _)))) rfl⟩
 rintro y23 H;replace H : eZ F a1 x9 x11 x13 y23 = some (r3, r4, r5, r6, r7) := H
 unfold eZ at H
 refine bL (X := Int) (fun y33 => ⟨[(4, .pt o8 0), (5, .pt o15 0)], [], [.obj o15 [S x9, S x11, S y23, S x13, i64 y33], .obj o8 [S ([] : List UInt8), S ([] : List UInt8), S ([] : List UInt8), S ([] : List UInt8), i64 0]]⟩) (fun y33 => gm x9 x11 x13 y23 y33 = some (r3, r4, r5, r6, r7)) ?_ ?_
 ·refine af ?_;obtain ⟨x25, e26, H⟩ := bW H;obtain ⟨x27, x28, e29, H⟩ := cF H;refine aa ?_;show AR _ _ _ _ _ [0, 1, 2, 3, 4, 5, 6, 7, 8] _;refine zS rfl (ah (av := slE _ _ _) rfl) <| zR rfl (cO (E := Enc.str) (bytes := 16) (xs := [.const _]) (l := ([([117, 112, 100, 97, 116, 101, 100] : List UInt8)] : List (List UInt8))) au (by kernel_rfl) rfl rfl (by decide) rfl rfl) <| am rfl rfl (aA rfl jw rfl (dV F a1 q2 ([([117, 112, 100, 97, 116, 101, 100] : List UInt8)] : List (List UInt8)) x25 e26) ?_);refine am rfl rfl (aA rfl zQ rfl (sy F x25 x27 x28 e29) ?_);refine zS rfl (ah (av := .tup _) rfl) <| zS rfl (az (av := .v _) rfl rfl) <| zS rfl (az (av := .v _) rfl rfl) <| za rfl <| za rfl <| ag <| af <| aa ?_;show AR _ _ _ _ _ [0, 1, 2, 3, 4, 5, 6, 7, 8, 9] _;refine zm rfl <| zS rfl (bJ rfl rfl) <| zm rfl <| aW (l := [6, 7, 8, 9]) 44 (B ((decide (x28 = 0)) && (decide (0 ≤ x27)))) (fun K => ?_) ?_
  ·rcases aj (decide (x28 = 0)) with h30 | h30
   ·refine zM h30 rfl <| zU h30 rfl (fB rfl rfl) <| zS rfl (aD (av := .v _) rfl h30 rfl) ?_;exact K _ 2 _ (ay (cz h30)) rfl rfl
   ·refine zF h30 rfl <| zF h30 rfl <| zS rfl (aE (av := .v _) rfl h30 rfl) ?_;exact K _ 2 _ (ay (cA h30)) rfl rfl
  refine zm rfl <| aW (l := []) 48 (B (((decide (x28 = 0)) && (decide (0 ≤ x27))) && (decide (x27 ≤ 253402300799)))) (fun K => ?_) ?_
  ·rcases aj ((decide (x28 = 0)) && (decide (0 ≤ x27))) with h31 | h31
   ·refine zM h31 rfl <| zU h31 rfl (fL rfl rfl) <| zS rfl (aD (av := .v _) rfl h31 rfl) ?_;exact K _ 2 _ (ay (cz h31)) rfl rfl
   ·refine zF h31 rfl <| zF h31 rfl <| zS rfl (aE (av := .v _) rfl h31 rfl) ?_;exact K _ 2 _ (ay (cA h31)) rfl rfl
  refine ag <| ax rfl (fun c32 => ?_) (fun c32 => ?_)
  ·replace H := aX c32 H;refine aa ?_;show AR _ _ _ _ _ [0, 1, 2] _;refine zm rfl <| zS rfl (an (n := 4) (by kernel_rfl) rfl) <| s0 rfl rfl (aq (i := 0) (c := .v _) (by kernel_rfl) rfl rfl rfl rfl (ac rfl)) <| ag ?_;exact Exists.intro x27 ⟨H, be [0, 0] (.cons (.refl _) (.cons (.refl _) (.nil _))) rfl⟩
  ·replace H := aY c32 H;refine aC ?_;exact Exists.intro 0 ⟨H, be [0, 0] (.cons (.refl _) (.cons (.refl _) (.nil _))) rfl⟩
 rintro y33 H;replace H : gm x9 x11 x13 y23 y33 = some (r3, r4, r5, r6, r7) := H
 unfold gm at H
 refine af <| aa ?_;show AR _ _ _ _ _ [0, 1] _;refine zR rfl (dY (i := 0) (n := 5) dK rfl (by kernel_rfl) rfl rfl (ac rfl)) <| s0 rfl rfl (aV (i := 1) (vs := [S x9, S x11, S y23, S x13, i64 y33]) (by kernel_rfl) rfl rfl (by simp [bA, slE]) rfl (ac rfl)) <| ag <| aG ?_;obtain ⟨rfl, rfl, rfl, rfl, rfl⟩ := res5 H;exact And.intro rfl (Exists.intro _ (Exists.intro _ ⟨dh (lM rfl (CellV.agg (off := 0) (cs := [S x9, S x11, S y23, S x13, i64 y33]) (n := 5) 1 dK rfl (by kernel_rfl) rfl rfl (ac rfl))), aB [] rfl, rfl, rfl⟩))
abbrev _root_.Go.Av.bx := @Tryz.underlying24
abbrev _root_.Go.Av.cy := @Tryz.underlying26
set_option maxRecDepth 100000 in
set_option maxHeartbeats 1000000 in
theorem rB (F : Nat) (a1 : List (Int × (List UInt8) × (List UInt8) × List ((List UInt8) × List UInt8))) (q2 : Option Nat) (r3 : List UInt8) (r4 : List ((List UInt8) × (List UInt8) × (List UInt8) × (List UInt8) × Int)) (r5 : Int) (H : jq F a1 = some (r3, r4, r5)) : ACalls Tryz.prog 15 [slE (ab Enc.int (ab Enc.str (ab Enc.str (Enc.sl (ab Enc.str Enc.str))))) a1 q2] [] (Ret (.tup [.agg [S r3, slE (ab Enc.str (ab Enc.str (ab Enc.str (ab Enc.str Enc.int)))) r4 none], i64 r5]) []) := by
 unfold jq at H
 refine ir Tryz.func15 rfl rfl ?_;show AW _ _ 65 _ _ _;refine af <| aa ?_;show AR _ _ _ _ _ [0, 1] _;refine zX rfl (bg (zs := [.string ⟨#[]⟩, .slice none 0 0]) (by kernel_rfl)) ?_;rintro _ _ ⟨o6, rfl, rfl⟩;refine za rfl <| ag <| af <| af ?_;obtain ⟨x7, e8, H⟩ := bW H;refine aa ?_;show AR _ _ _ _ _ [0, 1, 2] _;refine zS rfl (ah (av := slE _ _ _) rfl) <| am rfl rfl (aA rfl en23_fdb rfl (sC F a1 q2 x7 e8) ?_);refine zS rfl (bB rfl) <| ag <| ax rfl (fun c9 => ?_) (fun c9 => ?_)
 ·replace H := aX c9 H;refine af <| aa ?_;show AR _ _ _ _ _ [0, 1, 2] _;refine zS rfl (cP (zs := [.string ⟨#[]⟩, .slice none 0 0]) (ps := [(0, 1), (1, 1)]) (cs := [S ([] : List UInt8), eH]) (by kernel_rfl) rfl rfl) <| s0 rfl rfl (aV (i := 0) (vs := [S ([] : List UInt8), eH]) (by kernel_rfl) rfl rfl (by simp [bA, slE]) rfl (ac rfl)) <| za rfl <| ag <| aG ?_;obtain ⟨rfl, rfl, rfl⟩ := res3 H;exact Exists.intro _ (And.intro (.nil _) (Exists.intro _ (Exists.intro _ ⟨dh (bD rfl (CellV.aggW (cs := [S ([] : List UInt8), eH]) (CellV.agg (off := 0) (cs := [S ([] : List UInt8), eH]) (n := 2) 0 cy rfl (by kernel_rfl) rfl rfl (ac rfl)) (.cons (.refl _) (.cons (.nil _) (.nil)))) ((show PlaceV _ _ _ (.tmp _) _ from (.refl _)))), aB [] rfl, rfl, rfl⟩)))
 ·replace H := aY c9 H;refine aC <| af ?_;obtain ⟨x10, x11, e12, H⟩ := cF H;refine aa ?_;show AR _ _ _ _ _ [0, 1, 2, 3, 4, 5, 6, 7] _;refine zS rfl (ah (av := slE _ _ _) rfl) <| am rfl rfl (aA rfl en24_fdb rfl (yC F a1 q2 x10 x11 e12) ?_);refine zS rfl (ah (av := .tup _) rfl) <| zS rfl (az (av := ikA _ _ _) rfl rfl) <| zS rfl (az (av := .v _) rfl rfl) <| zX rfl (bg (zs := [.nilIface]) (by kernel_rfl)) ?_;rintro _ _ ⟨o13, rfl, rfl⟩;refine s0 rfl rfl (aq (i := 0) (c := ikA _ _ _) (by kernel_rfl) rfl rfl (ikA_cell _ _ _) rfl (ac rfl)) <| fQ 4 0 rfl rfl ?_;show AR _ _ _ _ _ _ ⟨_, _, [.obj o6 [S ([] : List UInt8), eH]]⟩;refine za rfl <| ag <| af <| af <| aa ?_;show AR _ _ _ _ _ [0, 1] _;refine zm rfl <| zS rfl (bB rfl) <| ag <| ax rfl (fun c14 => ?_) (fun c14 => ?_)
  ·replace H := aX c14 H;refine af <| aa ?_;show AR _ _ _ _ _ [0, 1, 2] _;refine zS rfl (cP (zs := [.string ⟨#[]⟩, .slice none 0 0]) (ps := [(0, 1), (1, 1)]) (cs := [S ([] : List UInt8), eH]) (by kernel_rfl) rfl rfl) <| s0 rfl rfl (aV (i := 0) (vs := [S ([] : List UInt8), eH]) (by kernel_rfl) rfl rfl (by simp [bA, slE]) rfl (ac rfl)) <| za rfl <| ag <| aG ?_;obtain ⟨rfl, rfl, rfl⟩ := res3 H;exact Exists.intro _ (And.intro (.nil _) (Exists.intro _ (Exists.intro _ ⟨dh (bD rfl (CellV.aggW (cs := [S ([] : List UInt8), eH]) (CellV.agg (off := 0) (cs := [S ([] : List UInt8), eH]) (n := 2) 0 cy rfl (by kernel_rfl) rfl rfl (ac rfl)) (.cons (.refl _) (.cons (.nil _) (.nil)))) ((show PlaceV _ _ _ (.tmp _) _ from (.refl _)))), aB [] rfl, rfl, rfl⟩)))
  ·replace H := aY c14 H;refine aC <| af ?_;obtain ⟨x15, x16, e17, H⟩ := cF H;refine aa ?_;show AR _ _ _ _ _ [0, 1, 2, 3, 4, 5, 6, 7] _;refine zS rfl (aL Tryz.underlying67 rfl rfl) <| zS rfl (ah (av := slE _ _ _) rfl) <| am rfl rfl (AO.invp (t1 := 83) (t2 := 84) (c := x10) rfl rfl (fun v w => by kernel_rfl) (fun v w => by kernel_rfl) Ad zZ rfl (K2.of e17 (fun e => yA F a1 q2 x15 x16 e) (fun e => xd F a1 q2 x15 x16 e)) ?_);refine zS rfl (ah (av := .tup _) rfl) <| zS rfl (az (av := slE _ _ _) rfl rfl) <| zS rfl (az (av := .v _) rfl rfl) <| zS rfl (aH (av := slE _ _ _) rfl) <| za rfl <| ag <| af <| af <| aa ?_;show AR _ _ _ _ _ [0, 1] _;refine zm rfl <| zS rfl (bB rfl) <| ag <| ax rfl (fun c18 => ?_) (fun c18 => ?_)
   ·replace H := aX c18 H;refine af <| aa ?_;show AR _ _ _ _ _ [0, 1, 2] _;refine zS rfl (cP (zs := [.string ⟨#[]⟩, .slice none 0 0]) (ps := [(0, 1), (1, 1)]) (cs := [S ([] : List UInt8), eH]) (by kernel_rfl) rfl rfl) <| s0 rfl rfl (aV (i := 0) (vs := [S ([] : List UInt8), eH]) (by kernel_rfl) rfl rfl (by simp [bA, slE]) rfl (ac rfl)) <| za rfl <| ag <| aG ?_;obtain ⟨rfl, rfl, rfl⟩ := res3 H;exact Exists.intro _ (And.intro (.nil _) (Exists.intro _ (Exists.intro _ ⟨dh (bD rfl (CellV.aggW (cs := [S ([] : List UInt8), eH]) (CellV.agg (off := 0) (cs := [S ([] : List UInt8), eH]) (n := 2) 0 cy rfl (by kernel_rfl) rfl rfl (ac rfl)) (.cons (.refl _) (.cons (.nil _) (.nil)))) ((show PlaceV _ _ _ (.tmp _) _ from (.refl _)))), aB [] rfl, rfl, rfl⟩)))
   ·replace H := aY c18 H;refine aC <| af ?_;obtain ⟨x19, e20, H⟩ := bW H;refine aa ?_;show AR _ _ _ _ _ [0, 1, 2, 3, 4, 5] _;refine zS rfl (ah (av := slE _ _ _) rfl) <| zR rfl (cO (E := Enc.str) (bytes := 16) (xs := [.const _]) (l := ([([116, 105, 116, 108, 101] : List UInt8)] : List (List UInt8))) au (by kernel_rfl) rfl rfl (by decide) rfl rfl) <| am rfl rfl (aA rfl jw rfl (dV F x15 none ([([116, 105, 116, 108, 101] : List UInt8)] : List (List UInt8)) x19 e20) ?_);refine zS rfl (cP (zs := [.string ⟨#[]⟩, .slice none 0 0]) (ps := [(0, 1), (1, 1)]) (cs := [S x19, eH]) (by kernel_rfl) rfl rfl) <| zX rfl (bg (zs := [.string ⟨#[]⟩, .slice none 0 0]) (by kernel_rfl)) ?_;rintro _ _ ⟨o21, rfl, rfl⟩;refine s0 rfl rfl (aV (i := 0) (vs := [S x19, eH]) (by kernel_rfl) rfl rfl (by simp [bA, slE]) rfl (ac rfl)) <| ag ?_
    refine js 0 1 5 32 rfl rfl fun t22 => ?_
    show AW _ _ _ _ _ ⟨_, _, [.tok t22 32, .obj o21 [S x19, slE (ab Enc.str (ab Enc.str (ab Enc.str (ab Enc.str Enc.int)))) [] (some t22)], .obj o6 [S ([] : List UInt8), eH]]⟩;refine bL (X := Nat × (List ((List UInt8) × (List UInt8) × (List UInt8) × (List UInt8) × Int)) × Nat) (fun (t56, y57, t58) => ⟨[(2, .pt o6 0), (7, .pt o21 0)], [.mark t56], [.obj o21 [S x19, slE (ab Enc.str (ab Enc.str (ab Enc.str (ab Enc.str Enc.int)))) y57 (some t58)], .obj o6 [S ([] : List UInt8), eH], .tok t58 32, .db t56]⟩) (fun (t56, y57, t58) => de x19 y57 = some (r3, r4, r5)) ?_ ?_
    ·refine af ?_;obtain ⟨_, e23, H⟩ := bW H;refine aa ?_;show AR _ _ _ _ _ [0, 1] _;refine zS rfl (ah (av := slE _ _ _) rfl) <| am rfl rfl (aQ [] rfl en26_fdb rfl (jR F x15 e23) rfl (fun c A' h => by obtain ⟨_, h, _⟩ := h; cases h) ?_)
     rintro av A' ⟨o24, h, rfl⟩; cases h
     refine ag <| aU ?_;obtain ⟨x51, e52, H⟩ := bW H;refine AW.rangeK (α := List (Int × (List UInt8) × (List UInt8) × List ((List UInt8) × List UInt8))) (σ := (List ((List UInt8) × (List UInt8) × (List UInt8) × (List UInt8) × Int)) × Nat) (τ := Nat) (fun x => [slE (ab Enc.int (ab Enc.str (ab Enc.str (Enc.sl (ab Enc.str Enc.str))))) x none]) (fun s t => [.obj o21 [S x19, slE (ab Enc.str (ab Enc.str (ab Enc.str (ab Enc.str Enc.int)))) s.1 (some t)], .obj o6 [S ([] : List UInt8), eH], .tok t 32]) (fun s => jat [.exit 0] s.2) (fun s x => dd F x10 s.1 s.2 x) ([], 0) t22 x51 [0] [1, 1, 0] rfl en41_fdb (fun _ => rfl) (by decide) rfl rfl rfl (fun o T' hY => kL F T' _ o hY _ _ o24 x15 x51 e52) ?_ ?_
     ·rintro l ⟨y25, z27⟩ t26 x29 rv H;replace H : dd F x10 y25 z27 x29 = some rv := H
      unfold dd at H
      obtain ⟨g50, H⟩ := aM H;obtain rfl := of_decide_eq_true g50;refine ⟨rfl, ?_⟩;show AW _ _ _ _ _ ⟨(37, slE (ab Enc.int (ab Enc.str (ab Enc.str (Enc.sl (ab Enc.str Enc.str))))) x29 none) :: _, [], _⟩;refine aa ?_;show AR _ _ _ _ _ [0] _;refine zS rfl (aH (av := slE _ _ _) rfl) <| ag <| aU <| af <| af ?_;obtain ⟨x30, e31, H⟩ := bW H;obtain ⟨x32, e33, H⟩ := bW H;refine rc (by kernel_rfl) (by kernel_rfl) ?_;show AI _ _ _ _ _ 5 (Array.replicate 5 false) _;refine zk 0 rfl (ah (av := slE _ _ _) rfl) ?_;show AI _ _ _ _ _ _ #[true, false, false, false, false] _;refine zk 2 rfl (aL Tryz.underlying67 rfl rfl) ?_;show AI _ _ _ _ _ _ #[true, false, true, false, false] _;refine cj (i := 1) (by kernel_rfl) rfl rfl <| AIO.callp rfl en27_fdb rfl (gP F x29 none x30 e31) ?_;show AI _ _ _ _ _ _ #[true, true, true, false, false] _;refine cj (i := 3) (by kernel_rfl) rfl rfl <| AIO.invp (t1 := 83) (t2 := 84) (c := x10) rfl rfl (fun v w => by kernel_rfl) (fun v w => by kernel_rfl) Ae Aa rfl (K2.of e33 (fun e => wZ F x32 e) (fun e => vG F x32 e)) ?_;show AI _ _ _ _ _ _ #[true, true, true, true, false] _;refine zk 4 rfl (ni rfl rfl) ?_;show AI _ _ _ _ _ _ #[true, true, true, true, true] _;refine cT rfl <| ax rfl (fun c34 => ?_) (fun c34 => ?_)
      ·replace H := aX c34 H;refine cB ?_;obtain rfl := ak H;exact ⟨rfl, rfl, t26, aB [0, 0, 0] rfl⟩
      ·replace H := aY c34 H;refine aC <| af <| af <| aa ?_;show AR _ _ _ _ _ [0, 1, 2, 3] _;refine zS rfl (an (n := 1) (by kernel_rfl) rfl) <| zR rfl (ao (i := 0) bx rfl rfl rfl rfl) <| zS rfl (bE bx rfl) <| zS rfl (bJ rfl rfl) <| ag <| ax rfl (fun c35 => ?_) (fun c35 => ?_)
       ·replace H := aX c35 H;refine cB ?_;obtain rfl := ak H;exact ⟨rfl, rfl, t26, aB [0, 0, 0] rfl⟩
       ·replace H := aY c35 H;refine aC <| af ?_;obtain ⟨x36, x37, x38, x39, x40, e41, H⟩ := bnd5_s H;refine aa ?_;show AR _ _ _ _ _ [0, 1, 2, 3, 4] _;refine zS rfl (aL Tryz.underlying67 rfl rfl) <| zS rfl (ah (av := slE _ _ _) rfl) <| am rfl rfl (AO.invp (t1 := 83) (t2 := 84) (c := x10) rfl rfl (fun v w => by kernel_rfl) (fun v w => by kernel_rfl) Af Ab rfl (K2.of e41 (fun e => vA F x29 none x36 x37 x38 x39 x40 e) (fun e => uH F x29 none x36 x37 x38 x39 x40 e)) ?_);refine zX rfl (bg (zs := [.string ⟨#[]⟩, .string ⟨#[]⟩, .string ⟨#[]⟩, .string ⟨#[]⟩, .int .i64 0]) (by kernel_rfl)) ?_;rintro _ _ ⟨o42, rfl, rfl⟩;refine s0 rfl rfl (aV (i := 0) (vs := [S x36, S x37, S x38, S x39, i64 x40]) (by kernel_rfl) rfl rfl (by simp [bA, slE]) rfl (ac rfl)) <| ag <| af ?_;obtain ⟨g43, H⟩ := aM H;obtain ⟨x44, e45, H⟩ := bM H;refine aa ?_;show AR _ _ _ _ _ [0, 1, 2, 3, 4, 5, 6, 7, 8] _;refine zS rfl (an (n := 3) (by kernel_rfl) rfl) <| zR rfl (ao (i := 0) ai rfl rfl rfl rfl) <| zS rfl (an (n := 3) (by kernel_rfl) rfl) <| zR rfl (ao (i := 0) ai rfl rfl rfl rfl) <| zS rfl (bt ai rfl) <| zS rfl (opS_min rfl rfl) <| zS rfl (lx ai rfl rfl g43 e45) <| zS rfl (an (n := 3) (by kernel_rfl) rfl) <| s0 rfl rfl (aq (i := 0) (c := .v _) (by kernel_rfl) rfl rfl rfl rfl (ac rfl)) <| ag ?_;obtain ⟨g47, H⟩ := aM H
        obtain ⟨x48, e49, H⟩ := bM H;refine aa ?_;show AR _ _ _ _ _ [0, 1, 2, 3, 4, 5, 6] _;refine zS rfl (an (n := 1) (by kernel_rfl) rfl) <| zR rfl (ao (i := 1) bx rfl rfl rfl rfl) <| zR rfl (dY (i := 0) (n := 5) dK rfl (by kernel_rfl) rfl rfl (ac rfl)) <| zR rfl (dZ (E := (ab Enc.str (ab Enc.str (ab Enc.str (ab Enc.str Enc.int))))) (bytes := 72) (zs := [.string ⟨#[]⟩, .string ⟨#[]⟩, .string ⟨#[]⟩, .string ⟨#[]⟩, .int .i64 0]) (l := ([(x36, x37, x38, x44, x40)] : List ((List UInt8) × (List UInt8) × (List UInt8) × (List UInt8) × Int))) bx (by kernel_rfl) (by kernel_rfl) rfl rfl rfl rfl rfl) <| zX rfl (kr (E := (ab Enc.str (ab Enc.str (ab Enc.str (ab Enc.str Enc.int))))) (bytes := 72) 3 bx bx rfl (by kernel_rfl) rfl rfl rfl rfl g47 e49) ?_;rintro _ _ ⟨t46, rfl, rfl⟩;refine zS rfl (an (n := 1) (by kernel_rfl) rfl) <| s0 rfl rfl (aq (i := 1) (c := slE _ _ _) (by kernel_rfl) rfl rfl rfl rfl (ac rfl)) <| ag ?_;obtain rfl := ak H;exact ⟨rfl, rfl, t46, aB [1, 1, 1] rfl⟩
     rintro o54 t53
     generalize hzz55 : x51.2 = z55 at H ⊢
     rcases bifz H with ⟨rfl, H⟩ | ⟨hz0, H⟩
     ·exact Exists.intro (o54, x51.1, t53) ⟨H, be [2, 2, 2, 0] (.cons (.refl _) (.cons (.refl _) (.nil _))) rfl⟩
     rcases bifz H with ⟨rfl, H⟩ | ⟨hz1, H⟩
     ·refine cB ?_;exact Exists.intro (o54, x51.1, t53) ⟨H, be [2, 2, 2, 0] (.cons (.refl _) (.cons (.refl _) (.nil _))) rfl⟩
     exact vo H
    rintro ⟨t56, y57, t58⟩ H;replace H : de x19 y57 = some (r3, r4, r5) := H
    unfold de at H
    refine af <| aa ?_;show AR _ _ _ _ _ [0, 1, 2] _;refine zR rfl (dY (i := 0) (n := 2) cy rfl (by kernel_rfl) rfl rfl (ac rfl)) <| s0 rfl rfl (aV (i := 1) (vs := [S x19, slE (ab Enc.str (ab Enc.str (ab Enc.str (ab Enc.str Enc.int)))) y57 (some t58)]) (by kernel_rfl) rfl rfl (by simp [bA, slE]) rfl (ac rfl)) <| za rfl <| ag <| aG ?_;obtain ⟨rfl, rfl, rfl⟩ := res3 H;exact Exists.intro _ (And.intro (Unmark.at 3 rfl (.nil _)) (Exists.intro _ (Exists.intro _ ⟨dh (bD rfl (CellV.aggW (cs := [S x19, slE (ab Enc.str (ab Enc.str (ab Enc.str (ab Enc.str Enc.int)))) y57 (some t58)]) (CellV.agg (off := 0) (cs := [S x19, slE (ab Enc.str (ab Enc.str (ab Enc.str (ab Enc.str Enc.int)))) y57 (some t58)]) (n := 2) 1 cy rfl (by kernel_rfl) rfl rfl (ac rfl)) (.cons (.refl _) (.cons (.tok _ _ _) (.nil)))) ((show PlaceV _ _ _ (.tmp _) _ from (.refl _)))), aB [] rfl, rfl, rfl⟩)))
set_option maxRecDepth 100000 in
set_option maxHeartbeats 1000000 in
theorem nC (F : Nat) (a1 : List UInt8) (q2 : Option Nat) (r3 : List UInt8) (r4 : List ((List UInt8) × (List UInt8) × (List UInt8) × (List UInt8) × Int)) (r5 : Int) (H : dR F a1 = some (r3, r4, r5)) : ACalls Tryz.prog 9 [slE Enc.byte a1 q2] [] (Ret (.tup [.agg [S r3, slE (ab Enc.str (ab Enc.str (ab Enc.str (ab Enc.str Enc.int)))) r4 none], i64 r5]) []) := by
 unfold dR at H
 refine ap Tryz.func9 rfl rfl ?_;show AW _ _ 19 _ _ _;refine af <| aa ?_;show AR _ _ _ _ _ [0, 1] _;refine zX rfl (bg (zs := [.string ⟨#[]⟩, .slice none 0 0]) (by kernel_rfl)) ?_;rintro _ _ ⟨o6, rfl, rfl⟩;refine za rfl <| ag <| af ?_;obtain ⟨x7, x8, e9, H⟩ := cF H;refine aa ?_;show AR _ _ _ _ _ [0, 1, 2, 3, 4, 5, 6] _;refine zS rfl (ah (av := slE _ _ _) rfl) <| am rfl rfl (aA rfl en14_fdb rfl (vy F a1 q2 x7 x8 e9) ?_);refine zS rfl (ah (av := .tup _) rfl) <| zS rfl (az (av := slE _ _ _) rfl rfl) <| zS rfl (az (av := .v _) rfl rfl) <| zS rfl (aH (av := slE _ _ _) rfl) <| za rfl <| ag <| af <| af <| aa ?_;show AR _ _ _ _ _ [0, 1] _;refine zm rfl <| zS rfl (mb rfl rfl) <| ag <| ax rfl (fun c10 => ?_) (fun c10 => ?_)
 ·replace H := aX c10 H;refine af <| aa ?_;show AR _ _ _ _ _ [0, 1, 2, 3] _;refine zS rfl (cP (zs := [.string ⟨#[]⟩, .slice none 0 0]) (ps := [(0, 1), (1, 1)]) (cs := [S ([] : List UInt8), eH]) (by kernel_rfl) rfl rfl) <| zm rfl <| s0 rfl rfl (aV (i := 0) (vs := [S ([] : List UInt8), eH]) (by kernel_rfl) rfl rfl (by simp [bA, slE]) rfl (ac rfl)) <| za rfl <| ag <| aG ?_;obtain ⟨rfl, rfl, rfl⟩ := res3 H;exact And.intro rfl (Exists.intro _ (Exists.intro _ ⟨dh (bD rfl (CellV.aggW (cs := [S ([] : List UInt8), eH]) (CellV.agg (off := 0) (cs := [S ([] : List UInt8), eH]) (n := 2) 0 cy rfl (by kernel_rfl) rfl rfl (ac rfl)) (.cons (.refl _) (.cons (.nil _) (.nil)))) ((show PlaceV _ _ _ (.tmp _) _ from (.refl _)))), aB [] rfl, rfl, rfl⟩))
 ·replace H := aY c10 H;refine aC <| af ?_;obtain ⟨x11, x12, x13, e14, H⟩ := vt H;refine aa ?_;show AR _ _ _ _ _ [0, 1, 2, 3, 4, 5] _;refine zS rfl (ah (av := slE _ _ _) rfl) <| am rfl rfl (aA rfl en15_fdb rfl (rB F x7 none x11 x12 x13 e14) ?_);refine zS rfl (az (av := .agg _) rfl rfl) <| zS rfl (az (av := .v _) rfl rfl) <| s0 rfl rfl (aV (i := 0) (vs := [S x11, slE (ab Enc.str (ab Enc.str (ab Enc.str (ab Enc.str Enc.int)))) x12 none]) (by kernel_rfl) rfl rfl (by simp [bA, slE]) rfl (ac rfl)) <| za rfl <| ag <| aG ?_;obtain ⟨rfl, rfl, rfl⟩ := res3 H;exact And.intro rfl (Exists.intro _ (Exists.intro _ ⟨dh (bD rfl (CellV.agg (off := 0) (cs := [S x11, slE (ab Enc.str (ab Enc.str (ab Enc.str (ab Enc.str Enc.int)))) x12 none]) (n := 2) 0 cy rfl (by kernel_rfl) rfl rfl (ac rfl)) ((show PlaceV _ _ _ (.tmp _) _ from (.refl _)))), aB [] rfl, rfl, rfl⟩))
end Go.Proofs.YtkbfjepffpddfaaGreatDoor
namespace Go.Pv
def jT : Option Bool :=
some true
def ia (a2 : List ((List UInt8) × (List UInt8) × (List UInt8) × (List UInt8) × Int)) (a4 : List ((List UInt8) × (List UInt8) × (List UInt8) × (List UInt8) × Int)) (rec9 : Int → Option Bool) (y8 : Int) : Option Bool :=
bif decide (y8 < (a2.length : Int)) then
  grd (dq y8 a2.length) <|
  lt (at_ a2 y8) fun x13 =>
  grd (dq y8 a4.length) <|
  lt (at_ a4 y8) fun x16 =>
  bif !((decide (x13.1 = x16.1)) && ((decide (x13.2.1 = x16.2.1)) && ((decide (x13.2.2.1 = x16.2.2.1)) && ((decide (x13.2.2.2.1 = x16.2.2.2.1)) && (x13.2.2.2.2 == x16.2.2.2.2))))) then
    some false
  else
    grd (okI (y8 + 1)) <|
    rec9 (y8 + 1)
else
  jT
def hZ (a2 : List ((List UInt8) × (List UInt8) × (List UInt8) × (List UInt8) × Int)) (a4 : List ((List UInt8) × (List UInt8) × (List UInt8) × (List UInt8) × Int)) (n : Nat) : Int → Option Bool :=
  loop (fun rec x => ia a2 a4 rec x) n
def gJ (F : Nat) (a1 : List UInt8) (a2 : List ((List UInt8) × (List UInt8) × (List UInt8) × (List UInt8) × Int)) (a3 : List UInt8) (a4 : List ((List UInt8) × (List UInt8) × (List UInt8) × (List UInt8) × Int)) : Option Bool :=
bif (!decide (a1 = a3)) || (!decide ((a2.length : Int) = (a4.length : Int))) then
  some false
else
  hZ a2 a4 F 0
def kc (F : Nat) : Option Bool :=
bnd3 (dR F ([60, 114, 115, 115, 62, 60, 99, 104, 97, 110, 110, 101, 108, 62, 60, 116] ++ [105, 116, 108, 101, 62, 84, 60, 47, 116, 105, 116, 108, 101, 62, 60, 105] ++ [116, 101, 109, 62, 60, 103, 117, 105, 100, 62, 49, 60, 47, 103, 117, 105] ++ [100, 62, 60, 47, 105, 116, 101, 109, 62, 60, 47, 99, 104, 97, 110, 110] ++ [101, 108, 62, 60, 47, 114, 115, 115, 62] : List UInt8)) fun x3 x4 x5 =>
bnd (gJ F x3 x4 ([84] : List UInt8) ([(([49] : List UInt8), ([] : List UInt8), ([] : List UInt8), ([] : List UInt8), 0)] : List ((List UInt8) × (List UInt8) × (List UInt8) × (List UInt8) × Int))) fun x8 =>
lE ((decide (x5 = 0)) && x8) (fT F ([(2, ([] : List UInt8), ([32, 97, 32] : List UInt8), ([] : List ((List UInt8) × List UInt8)))] : List (Int × (List UInt8) × (List UInt8) × List ((List UInt8) × List UInt8)))) fun x12 =>
some (((decide (x5 = 0)) && x8) && (decide (x12 = ([97] : List UInt8))))
def jU (a1 : List UInt8) : Option Bool :=
some (decide ((a1.length : Int) ≤ 40))
def ic (a1 : List UInt8) (rec4 : Int → Option Bool) (y3 : Int) : Option Bool :=
bif decide (y3 < (a1.length : Int)) then
  grd (dq y3 a1.length) <|
  lt (at_ a1 y3) fun x8 =>
  fv (!(decide ((x8.toNat : Int) < 97))) (dq y3 a1.length) <|
  lt (at_ a1 y3) fun x12 =>
  bif (decide ((x8.toNat : Int) < 97)) || (decide (122 < (x12.toNat : Int))) then
    some false
  else
    grd (okI (y3 + 1)) <|
    rec4 (y3 + 1)
else
  jU a1
def ib (a1 : List UInt8) (n : Nat) : Int → Option Bool :=
  loop (fun rec x => ic a1 rec x) n
def jH (F : Nat) (a1 : List UInt8) : Option Bool :=
ib a1 F 0
end Go.Pv
namespace Go.Proofs.YtkbfjepffpddfaaGreatDoor
open Go.RowKit Go.Av Go.Pv
theorem en9_fdl : ∀ (args : Array Value) (w : World), (callFunc 9 args).run Tryz.prog w = .ok (.enter 9 args) w := fun _ _ => by kernel_rfl
theorem en10_fdl : ∀ (args : Array Value) (w : World), (callFunc 10 args).run Tryz.prog w = .ok (.enter 10 args) w := fun _ _ => by kernel_rfl
theorem en13_fdl : ∀ (args : Array Value) (w : World), (callFunc 13 args).run Tryz.prog w = .ok (.enter 13 args) w := fun _ _ => by kernel_rfl
set_option maxRecDepth 100000 in
set_option maxHeartbeats 1000000 in
theorem pm (F : Nat) (a1 : List UInt8) (a2 : List ((List UInt8) × (List UInt8) × (List UInt8) × (List UInt8) × Int)) (a3 : List UInt8) (a4 : List ((List UInt8) × (List UInt8) × (List UInt8) × (List UInt8) × Int)) (r5 : Bool) (H : gJ F a1 a2 a3 a4 = some r5) : ACalls Tryz.prog 10 [.agg [S a1, slE (ab Enc.str (ab Enc.str (ab Enc.str (ab Enc.str Enc.int)))) a2 none], .agg [S a3, slE (ab Enc.str (ab Enc.str (ab Enc.str (ab Enc.str Enc.int)))) a4 none]] [] (Ret (B r5) []) := by
 unfold gJ at H
 refine ap Tryz.func10 rfl rfl ?_;show AW _ _ 38 _ _ _;refine af <| aa ?_;show AR _ _ _ _ _ [0, 1, 2] _;refine zR rfl (dQ rfl (.inr ⟨_, rfl⟩)) <| zR rfl (dQ rfl (.inr ⟨_, rfl⟩)) <| za rfl <| ag <| af <| af <| aa ?_;show AR _ _ _ _ _ [0, 1, 2, 3, 4, 5, 6, 7, 8, 9, 10, 11, 12, 13] _;refine zS rfl (aP (n := 0) (by kernel_rfl) rfl (ac rfl)) <| zS rfl (aL ai rfl rfl) <| zS rfl (aP (n := 0) (by kernel_rfl) rfl (ac rfl)) <| zS rfl (aL ai rfl rfl) <| zS rfl (ni rfl rfl) <| zm rfl <| aW (l := []) 19 (B ((!decide (a1 = a3)) || (!decide ((a2.length : Int) = (a4.length : Int))))) (fun K => ?_) ?_
 ·rcases aj (!decide (a1 = a3)) with h6 | h6
  ·refine zF h6 rfl <| zF h6 rfl <| zF h6 rfl <| zF h6 rfl <| zF h6 rfl <| zF h6 rfl <| zF h6 rfl <| zS rfl (aD (av := .v _) rfl h6 rfl) ?_;exact K _ 7 _ (ay (jA h6)) rfl rfl
  ·refine zU h6 rfl (aP (n := 1) (by kernel_rfl) rfl (ac rfl)) <| zU h6 rfl (aL bx rfl rfl) <| zU h6 rfl (bE bx rfl) <| zU h6 rfl (aP (n := 1) (by kernel_rfl) rfl (ac rfl)) <| zU h6 rfl (aL bx rfl rfl) <| zU h6 rfl (bE bx rfl) <| zU h6 rfl (mb rfl rfl) <| zS rfl (aE (av := .v _) rfl h6 rfl) ?_;exact K _ 7 _ (ay (jB h6)) rfl rfl
 refine ag <| ax rfl (fun c7 => ?_) (fun c7 => ?_)
 ·replace H := aX c7 H;refine af <| aa ?_;show AR _ _ _ _ _ [0] _;refine za rfl <| ag <| aG ?_;obtain rfl := ak H;exact And.intro rfl (Exists.intro _ (Exists.intro _ ⟨aF rfl (.refl _), aB [] rfl, rfl, rfl⟩))
 ·replace H := aY c7 H;refine aC <| bL (X := Unit) (fun _ => ⟨[], [], []⟩) (fun _ => jT = some r5) ?_ ?_
  ·refine af <| aa ?_;show AR _ _ _ _ _ [0] _;refine za rfl <| ag <| aU <| dk (X := Nat × Int) (fun (n10, y8) => ⟨[(2, .cp [S a1, slE (ab Enc.str (ab Enc.str (ab Enc.str (ab Enc.str Enc.int)))) a2 none]), (3, .cp [S a3, slE (ab Enc.str (ab Enc.str (ab Enc.str (ab Enc.str Enc.int)))) a4 none]), (5, i64 y8)], [], []⟩) (fun (n10, y8) => hZ a2 a4 n10 y8 = some r5) (fun (n10, y8) => n10) (F, 0) H (be [] (.cons (.refl _) (.cons (.refl _) (.cons (.refl _) (.nil _)))) rfl) ?_;rintro ⟨n10, y8⟩ H;obtain ⟨n10, rfl, H⟩ := fC H;replace H : ia a2 a4 (hZ a2 a4 n10) y8 = some r5 := H
   unfold ia at H
   refine af <| af <| aa ?_;show AR _ _ _ _ _ [0, 1, 2, 3, 4] _;refine zm rfl <| zS rfl (aP (n := 1) (by kernel_rfl) rfl (ac rfl)) <| zS rfl (aL bx rfl rfl) <| zS rfl (bE bx rfl) <| zS rfl (cd rfl rfl) <| ag <| ax rfl (fun c11 => ?_) (fun c11 => ?_)
   ·replace H := aX c11 H;refine aC <| af <| aU <| af ?_;obtain ⟨g12, H⟩ := aM H;obtain ⟨x13, e14, H⟩ := bM H;obtain ⟨g15, H⟩ := aM H;obtain ⟨x16, e17, H⟩ := bM H;refine cw (by kernel_rfl) ?_;show AI _ _ _ _ _ 11 (Array.replicate 11 false) _;refine zk 0 rfl (aP (n := 1) (by kernel_rfl) rfl (ac rfl)) ?_;show AI _ _ _ _ _ _ #[true, false, false, false, false, false, false, false, false, false, false] _;refine zk 1 rfl (aL bx rfl rfl) ?_;show AI _ _ _ _ _ _ #[true, true, false, false, false, false, false, false, false, false, false] _;refine zk 2 rfl (mv rfl) ?_;show AI _ _ _ _ _ _ #[true, true, true, false, false, false, false, false, false, false, false] _;refine zk 3 rfl (dF (E := (ab Enc.str (ab Enc.str (ab Enc.str (ab Enc.str Enc.int))))) bx (by kernel_rfl) rfl rfl g12 e14) ?_;show AI _ _ _ _ _ _ #[true, true, true, true, false, false, false, false, false, false, false] _;refine zk 4 rfl (ct dK rfl (n := 5) (by kernel_rfl) rfl (ac rfl)) ?_;show AI _ _ _ _ _ _ #[true, true, true, true, true, false, false, false, false, false, false] _;refine zk 5 rfl (aP (n := 1) (by kernel_rfl) rfl (ac rfl)) ?_;show AI _ _ _ _ _ _ #[true, true, true, true, true, true, false, false, false, false, false] _;refine zk 6 rfl (aL bx rfl rfl) ?_;show AI _ _ _ _ _ _ #[true, true, true, true, true, true, true, false, false, false, false] _
    refine zk 7 rfl (mv rfl) ?_;show AI _ _ _ _ _ _ #[true, true, true, true, true, true, true, true, false, false, false] _;refine zk 8 rfl (dF (E := (ab Enc.str (ab Enc.str (ab Enc.str (ab Enc.str Enc.int))))) bx (by kernel_rfl) rfl rfl g15 e17) ?_;show AI _ _ _ _ _ _ #[true, true, true, true, true, true, true, true, true, false, false] _;refine zk 9 rfl (ct dK rfl (n := 5) (by kernel_rfl) rfl (ac rfl)) ?_;show AI _ _ _ _ _ _ #[true, true, true, true, true, true, true, true, true, true, false] _;refine zk 10 rfl (sM (r := (decide (x13.1 = x16.1)) && ((decide (x13.2.1 = x16.2.1)) && ((decide (x13.2.2.1 = x16.2.2.1)) && ((decide (x13.2.2.2.1 = x16.2.2.2.1)) && (x13.2.2.2.2 == x16.2.2.2.2))))) (.inr rfl) dK (by kernel_rfl) (by kernel_rfl) (by kernel_rfl) rfl rfl rfl (by simp only [List.all_cons, List.all_nil, id, str_beq, Bool.and_true])) ?_;show AI _ _ _ _ _ _ #[true, true, true, true, true, true, true, true, true, true, true] _;refine cT rfl <| ax rfl (fun c18 => ?_) (fun c18 => ?_)
    ·replace H := aX c18 H;refine af <| aa ?_;show AR _ _ _ _ _ [0] _;refine za rfl <| ag <| aG ?_;obtain rfl := ak H;exact And.intro rfl (Exists.intro _ (Exists.intro _ ⟨aF rfl (.refl _), aB [] rfl, rfl, rfl⟩))
    ·replace H := aY c18 H;refine aC ?_;obtain ⟨g19, H⟩ := aM H;refine aa ?_;show AR _ _ _ _ _ [0, 1, 2] _;refine zm rfl <| zS rfl (di rfl rfl g19) <| za rfl <| ag ?_;exact Exists.intro (n10, y8 + 1) ⟨H, Nat.lt_succ_self _, be [] (.cons (.refl _) (.cons (.refl _) (.cons (.refl _) (.nil _)))) rfl⟩
   ·replace H := aY c11 H;refine cB ?_;exact Exists.intro () ⟨H, be [] (.nil _) rfl⟩
  rintro _ H;replace H : jT = some r5 := H
  unfold jT at H
  refine af <| aa ?_;show AR _ _ _ _ _ [0] _;refine za rfl <| ag <| aG ?_;obtain rfl := ak H;exact And.intro rfl (Exists.intro _ (Exists.intro _ ⟨aF rfl (.refl _), aB [] rfl, rfl, rfl⟩))
set_option maxRecDepth 100000 in
set_option maxHeartbeats 1000000 in
theorem sA (F : Nat) (r1 : Bool) (H : kc F = some r1) : ACalls Tryz.prog 7 [] [] (Ret (B r1) []) := by
 unfold kc at H
 refine ap Tryz.func7 rfl rfl ?_;show AW _ _ 26 _ _ _;refine af <| aa ?_;show AR _ _ _ _ _ [0] _;refine za rfl <| ag <| af ?_;obtain ⟨x3, x4, x5, e6, H⟩ := vt H;refine aa ?_;show AR _ _ _ _ _ [0, 1, 2, 3, 4, 5, 6, 7, 8] _;refine zX rfl (xl (E := Enc.byte) (bytes := 1) (xs := [.const _, .const _, .const _, .const _, .const _, .const _, .const _, .const _, .const _, .const _, .const _, .const _, .const _, .const _, .const _, .const _] ++ [.const _, .const _, .const _, .const _, .const _, .const _, .const _, .const _, .const _, .const _, .const _, .const _, .const _, .const _, .const _, .const _] ++ [.const _, .const _, .const _, .const _, .const _, .const _, .const _, .const _, .const _, .const _, .const _, .const _, .const _, .const _, .const _, .const _] ++ [.const _, .const _, .const _, .const _, .const _, .const _, .const _, .const _, .const _, .const _, .const _, .const _, .const _, .const _, .const _, .const _] ++ [.const _, .const _, .const _, .const _, .const _, .const _, .const _, .const _, .const _]) (l := ([60, 114, 115, 115, 62, 60, 99, 104, 97, 110, 110, 101, 108, 62, 60, 116] ++ [105, 116, 108, 101, 62, 84, 60, 47, 116, 105, 116, 108, 101, 62, 60, 105] ++ [116, 101, 109, 62, 60, 103, 117, 105, 100, 62, 49, 60, 47, 103, 117, 105] ++ [100, 62, 60, 47, 105, 116, 101, 109, 62, 60, 47, 99, 104, 97, 110, 110] ++ [101, 108, 62, 60, 47, 114, 115, 115, 62] : List UInt8)) al (by kernel_rfl) rfl rfl (by decide) rfl rfl) ?_;rintro _ _ ⟨t2, rfl, rfl⟩
 refine zR rfl (sP 0 al cH rfl (by simp) rfl) <| am rfl rfl (aA rfl en9_fdl rfl (nC F ([60, 114, 115, 115, 62, 60, 99, 104, 97, 110, 110, 101, 108, 62, 60, 116] ++ [105, 116, 108, 101, 62, 84, 60, 47, 116, 105, 116, 108, 101, 62, 60, 105] ++ [116, 101, 109, 62, 60, 103, 117, 105, 100, 62, 49, 60, 47, 103, 117, 105] ++ [100, 62, 60, 47, 105, 116, 101, 109, 62, 60, 47, 99, 104, 97, 110, 110] ++ [101, 108, 62, 60, 47, 114, 115, 115, 62] : List UInt8) (some t2) x3 x4 x5 e6) ?_);refine zS rfl (ah (av := .tup _) rfl) <| zS rfl (az (av := .agg _) rfl rfl) <| zS rfl (az (av := .v _) rfl rfl) <| zX rfl (bg (zs := [.string ⟨#[]⟩, .slice none 0 0]) (by kernel_rfl)) ?_;rintro _ _ ⟨o7, rfl, rfl⟩;refine s0 rfl rfl (aV (i := 0) (vs := [S x3, slE (ab Enc.str (ab Enc.str (ab Enc.str (ab Enc.str Enc.int)))) x4 none]) (by kernel_rfl) rfl rfl (by simp [bA, slE]) rfl (ac rfl)) <| fQ 1 0 rfl rfl ?_;show AR _ _ _ _ _ _ ⟨_, _, [.tok t2 5]⟩;refine za rfl <| ag <| af ?_;obtain ⟨x8, e9, H⟩ := bW H;refine aa ?_;show AR _ _ _ _ _ [0, 1, 2, 3, 4, 5] _
 refine zS rfl (ct cy rfl (n := 2) (by kernel_rfl) rfl (ac rfl)) <| zS rfl (cP (zs := [.string ⟨#[]⟩, .string ⟨#[]⟩, .string ⟨#[]⟩, .string ⟨#[]⟩, .int .i64 0]) (ps := [(0, 1), (1, 1), (2, 1), (3, 1), (4, 1)]) (cs := [S ([49] : List UInt8), S ([] : List UInt8), S ([] : List UInt8), S ([] : List UInt8), i64 0]) (by kernel_rfl) rfl rfl) <| zR rfl (dZ (E := (ab Enc.str (ab Enc.str (ab Enc.str (ab Enc.str Enc.int))))) (bytes := 72) (zs := [.string ⟨#[]⟩, .string ⟨#[]⟩, .string ⟨#[]⟩, .string ⟨#[]⟩, .int .i64 0]) (l := ([(([49] : List UInt8), ([] : List UInt8), ([] : List UInt8), ([] : List UInt8), 0)] : List ((List UInt8) × (List UInt8) × (List UInt8) × (List UInt8) × Int))) bx (by kernel_rfl) (by kernel_rfl) rfl rfl rfl rfl rfl) <| zS rfl (cP (zs := [.string ⟨#[]⟩, .slice none 0 0]) (ps := [(0, 1), (1, 1)]) (cs := [S ([84] : List UInt8), slE (ab Enc.str (ab Enc.str (ab Enc.str (ab Enc.str Enc.int)))) ([(([49] : List UInt8), ([] : List UInt8), ([] : List UInt8), ([] : List UInt8), 0)] : List ((List UInt8) × (List UInt8) × (List UInt8) × (List UInt8) × Int)) none]) (by kernel_rfl) rfl rfl) <| am rfl rfl (aA rfl en10_fdl rfl (pm F x3 x4 ([84] : List UInt8) ([(([49] : List UInt8), ([] : List UInt8), ([] : List UInt8), ([] : List UInt8), 0)] : List ((List UInt8) × (List UInt8) × (List UInt8) × (List UInt8) × Int)) x8 e9) ?_);refine za rfl <| ag <| af ?_;obtain ⟨x12, e13, H⟩ := fM H;refine aa ?_
 show AR _ _ _ _ _ [0, 1, 2, 3, 4, 5, 6, 7, 8, 9, 10, 11] _;refine zm rfl <| zS rfl (bJ rfl rfl) <| zm rfl <| aW (l := [5, 6, 7, 8, 9, 10, 11]) 19 (B ((decide (x5 = 0)) && x8)) (fun K => ?_) ?_
 ·rcases aj (decide (x5 = 0)) with h10 | h10
  ·refine zM h10 rfl <| zS rfl (aD (av := .v _) rfl h10 rfl) ?_;exact K _ 1 _ (ay (cz h10)) rfl rfl
  ·refine zF h10 rfl <| zS rfl (aE (av := .v _) rfl h10 rfl) ?_;exact K _ 1 _ (ay (cA h10)) rfl rfl
 refine zm rfl <| aW (l := [11]) 25 (B (((decide (x5 = 0)) && x8) && (decide (x12 = ([97] : List UInt8))))) (fun K => ?_) ?_
 ·rcases aj ((decide (x5 = 0)) && x8) with h11 | h11
  ·refine zU h11 rfl (cP (zs := [.int .i64 0, .string ⟨#[]⟩, .string ⟨#[]⟩, .slice none 0 0]) (ps := [(0, 1), (1, 1), (2, 1), (3, 1)]) (cs := [i64 2, S ([] : List UInt8), S ([32, 97, 32] : List UInt8), eH]) (by kernel_rfl) rfl rfl) <| zT h11 rfl (ck rfl rfl (jL (ds := [i64 2, S ([] : List UInt8), S ([32, 97, 32] : List UInt8), slE (ab Enc.str Enc.str) ([] : List ((List UInt8) × List UInt8)) none]) 21 (.cons (.refl _) (.cons (.refl _) (.cons (.refl _) (.cons (.nil _) (.nil))))) (hc := rfl) <| dZ (E := (ab Enc.int (ab Enc.str (ab Enc.str (Enc.sl (ab Enc.str Enc.str)))))) (bytes := 64) (zs := [.int .i64 0, .string ⟨#[]⟩, .string ⟨#[]⟩, .slice none 0 0]) (l := ([(2, ([] : List UInt8), ([32, 97, 32] : List UInt8), ([] : List ((List UInt8) × List UInt8)))] : List (Int × (List UInt8) × (List UInt8) × List ((List UInt8) × List UInt8)))) aO (by kernel_rfl) (by kernel_rfl) rfl rfl rfl rfl rfl) ?_);refine zT h11 rfl (aA rfl en13_fdl rfl (pn F ([(2, ([] : List UInt8), ([32, 97, 32] : List UInt8), ([] : List ((List UInt8) × List UInt8)))] : List (Int × (List UInt8) × (List UInt8) × List ((List UInt8) × List UInt8))) none x12 (e13 h11)) ?_);refine zU h11 rfl (dr rfl rfl) <| zS rfl (aD (av := .v _) rfl h11 rfl) ?_;exact K _ 4 _ (ay (cz h11)) rfl rfl
  ·refine zF h11 rfl <| zF h11 rfl <| zF h11 rfl <| zF h11 rfl <| zS rfl (aE (av := .v _) rfl h11 rfl) ?_;exact K _ 4 _ (ay (cA h11)) rfl rfl
 refine za rfl <| ag <| aG ?_;obtain rfl := ak H;exact And.intro rfl (Exists.intro _ (Exists.intro _ ⟨aF rfl (.refl _), aB [] rfl, rfl, rfl⟩))
set_option maxRecDepth 100000 in
set_option maxHeartbeats 1000000 in
theorem mJ (F : Nat) (a1 : List UInt8) (r2 : Bool) (H : jH F a1 = some r2) : ACalls Tryz.prog 8 [S a1] [] (Ret (B r2) []) := by
 unfold jH at H
 refine ap Tryz.func8 rfl rfl ?_;show AW _ _ 23 _ _ _;refine af <| aa ?_;show AR _ _ _ _ _ [0] _;refine za rfl <| ag <| bL (X := Unit) (fun _ => ⟨[(0, S a1)], [], []⟩) (fun _ => jU a1 = some r2) ?_ ?_
 ·refine af <| aa ?_;show AR _ _ _ _ _ [0] _;refine za rfl <| ag <| aU <| dk (X := Nat × Int) (fun (n5, y3) => ⟨[(0, S a1), (3, i64 y3)], [], []⟩) (fun (n5, y3) => ib a1 n5 y3 = some r2) (fun (n5, y3) => n5) (F, 0) H (be [] (.cons (.refl _) (.cons (.refl _) (.nil _))) rfl) ?_;rintro ⟨n5, y3⟩ H;obtain ⟨n5, rfl, H⟩ := fC H;replace H : ic a1 (ib a1 n5) y3 = some r2 := H
  unfold ic at H
  refine af <| af <| aa ?_;show AR _ _ _ _ _ [0, 1, 2, 3] _;refine zm rfl <| zm rfl <| zS rfl (bt ai rfl) <| zS rfl (cd rfl rfl) <| ag <| ax rfl (fun c6 => ?_) (fun c6 => ?_)
  ·replace H := aX c6 H;refine aC <| af <| aU <| af ?_;obtain ⟨g7, H⟩ := aM H;obtain ⟨x8, e9, H⟩ := bM H;obtain ⟨g11, H⟩ := cN H;obtain ⟨x12, e13, H⟩ := bM H;refine aa ?_;show AR _ _ _ _ _ [0, 1, 2, 3, 4, 5, 6, 7, 8, 9] _;refine zm rfl <| zm rfl <| zS rfl (bo ai rfl rfl g7 e9) <| zS rfl (cd rfl rfl) <| zm rfl <| aW (l := []) 19 (B ((decide ((x8.toNat : Int) < 97)) || (decide (122 < (x12.toNat : Int))))) (fun K => ?_) ?_
   ·rcases aj (decide ((x8.toNat : Int) < 97)) with h10 | h10
    ·refine zF h10 rfl <| zF h10 rfl <| zF h10 rfl <| zF h10 rfl <| zS rfl (aD (av := .v _) rfl h10 rfl) ?_;exact K _ 4 _ (ay (jA h10)) rfl rfl
    ·refine zM h10 rfl <| zM h10 rfl <| zU h10 rfl (bo ai rfl rfl (g11 (nf h10)) e13) <| zU h10 rfl (gp rfl rfl) <| zS rfl (aE (av := .v _) rfl h10 rfl) ?_;exact K _ 4 _ (ay (jB h10)) rfl rfl
   refine ag <| ax rfl (fun c14 => ?_) (fun c14 => ?_)
   ·replace H := aX c14 H;refine af <| aa ?_;show AR _ _ _ _ _ [0] _;refine za rfl <| ag <| aG ?_;obtain rfl := ak H;exact And.intro rfl (Exists.intro _ (Exists.intro _ ⟨aF rfl (.refl _), aB [] rfl, rfl, rfl⟩))
   ·replace H := aY c14 H;refine aC ?_;obtain ⟨g15, H⟩ := aM H;refine aa ?_;show AR _ _ _ _ _ [0, 1, 2] _;refine zm rfl <| zS rfl (di rfl rfl g15) <| za rfl <| ag ?_;exact Exists.intro (n5, y3 + 1) ⟨H, Nat.lt_succ_self _, be [] (.cons (.refl _) (.cons (.refl _) (.nil _))) rfl⟩
  ·replace H := aY c6 H;refine cB ?_;exact Exists.intro () ⟨H, be [] (.cons (.refl _) (.nil _)) rfl⟩
 rintro _ H;replace H : jU a1 = some r2 := H
 unfold jU at H
 refine af <| aa ?_;show AR _ _ _ _ _ [0, 1, 2, 3] _;refine zm rfl <| zS rfl (bt ai rfl) <| zS rfl (fL rfl rfl) <| za rfl <| ag <| aG ?_;obtain rfl := ak H;exact And.intro rfl (Exists.intro _ (Exists.intro _ ⟨aF rfl (.refl _), aB [] rfl, rfl, rfl⟩))
end Go.Proofs.YtkbfjepffpddfaaGreatDoor
namespace Go.Pv
def lfeedothers_k1 : List UInt8 := [60, 114, 115, 115, 62, 60, 99, 104, 97, 110, 110, 101, 108, 62, 60, 116, 105, 116, 108, 101, 62, 70, 60, 47, 116, 105, 116, 108, 101, 62, 60, 105, 116, 101, 109, 62, 60, 103, 117, 105, 100, 62]
def lfeedothers_k2 : List UInt8 := [60, 47, 103, 117, 105, 100, 62, 60, 47, 105, 116, 101, 109, 62, 60, 47, 99, 104, 97, 110, 110, 101, 108, 62, 60, 47, 114, 115, 115, 62]
def lfeedothers_k3 : List UInt8 := [60, 120, 58, 114, 115, 115, 62, 10, 60, 99, 104, 97, 110, 110, 101, 108, 62, 60]
def lfeedothers_k4 : List UInt8 := [62, 32, 60, 116, 105, 116, 108, 101, 62, 70, 60, 47, 116, 105, 116, 108, 101, 62, 60, 33, 45, 45, 32, 105, 116, 101, 109, 32, 45, 45, 62, 60, 121, 58, 105, 116, 101, 109, 62, 32, 60, 113, 58, 103, 117, 105, 100, 62, 10]
def lfeedothers_k5 : List UInt8 := [32, 60, 47, 113, 58, 103, 117, 105, 100, 62, 60, 47, 121, 58, 105, 116, 101, 109, 62, 60, 47, 99, 104, 97, 110, 110, 101, 108, 62, 60, 47, 120, 58, 114, 115, 115, 62]
def gM (F : Nat) (a1 : List UInt8) (a2 : List UInt8) (a3 : List UInt8) : Option Bool :=
bnd (kc F) fun x5 =>
bnd (jH F a1) fun x7 =>
bnd (jH F a2) fun x9 =>
bnd (jH F a3) fun x11 =>
bif ((((((!x5) || (!x7)) || (!x9)) || (!x11)) || (decide (a1 = ([] : List UInt8)))) || (decide (a1 = ([105, 116, 101, 109] : List UInt8)))) || (decide (a1 = ([116, 105, 116, 108, 101] : List UInt8))) then
  some x5
else
  grd (dU (lfeedothers_k1.length + a3.length)) <|
  lt (lfeedothers_k1 ++ a3) fun x21 =>
  grd (dU (x21.length + lfeedothers_k2.length)) <|
  lt (x21 ++ lfeedothers_k2) fun x24 =>
  grd (dU (lfeedothers_k3.length + a1.length)) <|
  lt (lfeedothers_k3 ++ a1) fun x27 =>
  grd (dU (x27.length + ([62] : List UInt8).length)) <|
  lt (x27 ++ ([62] : List UInt8)) fun x30 =>
  grd (dU (x30.length + a2.length)) <|
  lt (x30 ++ a2) fun x33 =>
  grd (dU (x33.length + ([60, 47] : List UInt8).length)) <|
  lt (x33 ++ ([60, 47] : List UInt8)) fun x36 =>
  grd (dU (x36.length + a1.length)) <|
  lt (x36 ++ a1) fun x39 =>
  grd (dU (x39.length + lfeedothers_k4.length)) <|
  lt (x39 ++ lfeedothers_k4) fun x42 =>
  grd (dU (x42.length + a3.length)) <|
  lt (x42 ++ a3) fun x45 =>
  grd (dU (x45.length + lfeedothers_k5.length)) <|
  lt (x45 ++ lfeedothers_k5) fun x48 =>
  grd (dU x24.length) <|
  bnd3 (dR F x24) fun x52 x53 x54 =>
  grd (dU x48.length) <|
  bnd3 (dR F x48) fun x59 x60 x61 =>
  bnd (gJ F x52 x53 x59 x60) fun x64 =>
  some (((decide (x54 = 0)) && (decide (x61 = 0))) && x64)
end Go.Pv
namespace Go.Proofs.YtkbfjepffpddfaaGreatDoor
open Go.RowKit Go.Av Go.Pv
theorem rb : ∀ (args : Array Value) (w : World), (callFunc 7 args).run Tryz.prog w = .ok (.enter 7 args) w := fun _ _ => by kernel_rfl
theorem kC : ∀ (args : Array Value) (w : World), (callFunc 8 args).run Tryz.prog w = .ok (.enter 8 args) w := fun _ _ => by kernel_rfl
theorem mX : ∀ (args : Array Value) (w : World), (callFunc 9 args).run Tryz.prog w = .ok (.enter 9 args) w := fun _ _ => by kernel_rfl
theorem qa : ∀ (args : Array Value) (w : World), (callFunc 10 args).run Tryz.prog w = .ok (.enter 10 args) w := fun _ _ => by kernel_rfl
set_option maxRecDepth 100000 in
set_option maxHeartbeats 1000000 in
theorem oM (F : Nat) (a1 : List UInt8) (a2 : List UInt8) (a3 : List UInt8) (r4 : Bool) (H : gM F a1 a2 a3 = some r4) : ACalls Tryz.prog 5 [S a1, S a2, S a3] [] (Ret (B r4) []) := by
 unfold gM at H
 refine ap Tryz.func5 rfl rfl ?_;show AW _ _ 91 _ _ _;refine af <| aa ?_;show AR _ _ _ _ _ [0] _;refine za rfl <| ag <| af ?_;obtain ⟨x5, e6, H⟩ := bW H;refine aa ?_;show AR _ _ _ _ _ [0, 1] _;refine am rfl rfl (aA rfl rb rfl (sA F x5 e6) ?_);refine za rfl <| ag <| af ?_;obtain ⟨x7, e8, H⟩ := bW H;refine aa ?_;show AR _ _ _ _ _ [0, 1, 2] _;refine zm rfl <| am rfl rfl (aA rfl kC rfl (mJ F a1 x7 e8) ?_);refine za rfl <| ag <| af ?_;obtain ⟨x9, e10, H⟩ := bW H;refine aa ?_;show AR _ _ _ _ _ [0, 1, 2] _;refine zm rfl <| am rfl rfl (aA rfl kC rfl (mJ F a2 x9 e10) ?_);refine za rfl <| ag <| af ?_;obtain ⟨x11, e12, H⟩ := bW H;refine aa ?_;show AR _ _ _ _ _ [0, 1, 2] _;refine zm rfl <| am rfl rfl (aA rfl kC rfl (mJ F a3 x11 e12) ?_);refine za rfl <| ag <| af <| af <| aa ?_;show AR _ _ _ _ _ [0, 1, 2, 3, 4, 5, 6, 7, 8, 9, 10, 11, 12, 13, 14, 15, 16, 17, 18, 19, 20, 21, 22, 23, 24, 25] _;refine zm rfl <| zS rfl (bB rfl) <| zm rfl <| aW (l := [6, 7, 8, 9, 10, 11, 12, 13, 14, 15, 16, 17, 18, 19, 20, 21, 22, 23, 24, 25]) 30 (B ((!x5) || (!x7))) (fun K => ?_) ?_
 ·rcases aj (!x5) with h13 | h13
  ·refine zF h13 rfl <| zF h13 rfl <| zS rfl (aD (av := .v _) rfl h13 rfl) ?_;exact K _ 2 _ (ay (jA h13)) rfl rfl
  ·refine zM h13 rfl <| zU h13 rfl (bB rfl) <| zS rfl (aE (av := .v _) rfl h13 rfl) ?_;exact K _ 2 _ (ay (jB h13)) rfl rfl
 refine zm rfl <| aW (l := [10, 11, 12, 13, 14, 15, 16, 17, 18, 19, 20, 21, 22, 23, 24, 25]) 34 (B (((!x5) || (!x7)) || (!x9))) (fun K => ?_) ?_
 ·rcases aj ((!x5) || (!x7)) with h14 | h14
  ·refine zF h14 rfl <| zF h14 rfl <| zS rfl (aD (av := .v _) rfl h14 rfl) ?_;exact K _ 2 _ (ay (jA h14)) rfl rfl
  ·refine zM h14 rfl <| zU h14 rfl (bB rfl) <| zS rfl (aE (av := .v _) rfl h14 rfl) ?_;exact K _ 2 _ (ay (jB h14)) rfl rfl
 refine zm rfl <| aW (l := [14, 15, 16, 17, 18, 19, 20, 21, 22, 23, 24, 25]) 38 (B ((((!x5) || (!x7)) || (!x9)) || (!x11))) (fun K => ?_) ?_
 ·rcases aj (((!x5) || (!x7)) || (!x9)) with h15 | h15
  ·refine zF h15 rfl <| zF h15 rfl <| zS rfl (aD (av := .v _) rfl h15 rfl) ?_;exact K _ 2 _ (ay (jA h15)) rfl rfl
  ·refine zM h15 rfl <| zU h15 rfl (bB rfl) <| zS rfl (aE (av := .v _) rfl h15 rfl) ?_;exact K _ 2 _ (ay (jB h15)) rfl rfl
 refine zm rfl <| aW (l := [18, 19, 20, 21, 22, 23, 24, 25]) 42 (B (((((!x5) || (!x7)) || (!x9)) || (!x11)) || (decide (a1 = ([] : List UInt8))))) (fun K => ?_) ?_
 ·rcases aj ((((!x5) || (!x7)) || (!x9)) || (!x11)) with h16 | h16
  ·refine zF h16 rfl <| zF h16 rfl <| zS rfl (aD (av := .v _) rfl h16 rfl) ?_;exact K _ 2 _ (ay (jA h16)) rfl rfl
  ·refine zM h16 rfl <| zU h16 rfl (dr rfl rfl) <| zS rfl (aE (av := .v _) rfl h16 rfl) ?_;exact K _ 2 _ (ay (jB h16)) rfl rfl
 refine zm rfl <| aW (l := [22, 23, 24, 25]) 46 (B ((((((!x5) || (!x7)) || (!x9)) || (!x11)) || (decide (a1 = ([] : List UInt8)))) || (decide (a1 = ([105, 116, 101, 109] : List UInt8))))) (fun K => ?_) ?_
 ·rcases aj (((((!x5) || (!x7)) || (!x9)) || (!x11)) || (decide (a1 = ([] : List UInt8)))) with h17 | h17
  ·refine zF h17 rfl <| zF h17 rfl <| zS rfl (aD (av := .v _) rfl h17 rfl) ?_;exact K _ 2 _ (ay (jA h17)) rfl rfl
  ·refine zM h17 rfl <| zU h17 rfl (dr rfl rfl) <| zS rfl (aE (av := .v _) rfl h17 rfl) ?_;exact K _ 2 _ (ay (jB h17)) rfl rfl
 refine zm rfl <| aW (l := []) 50 (B (((((((!x5) || (!x7)) || (!x9)) || (!x11)) || (decide (a1 = ([] : List UInt8)))) || (decide (a1 = ([105, 116, 101, 109] : List UInt8)))) || (decide (a1 = ([116, 105, 116, 108, 101] : List UInt8))))) (fun K => ?_) ?_
 ·rcases aj ((((((!x5) || (!x7)) || (!x9)) || (!x11)) || (decide (a1 = ([] : List UInt8)))) || (decide (a1 = ([105, 116, 101, 109] : List UInt8)))) with h18 | h18
  ·refine zF h18 rfl <| zF h18 rfl <| zS rfl (aD (av := .v _) rfl h18 rfl) ?_;exact K _ 2 _ (ay (jA h18)) rfl rfl
  ·refine zM h18 rfl <| zU h18 rfl (dr rfl rfl) <| zS rfl (aE (av := .v _) rfl h18 rfl) ?_;exact K _ 2 _ (ay (jB h18)) rfl rfl
 refine ag <| ax rfl (fun c19 => ?_) (fun c19 => ?_)
 ·replace H := aX c19 H;refine af <| aa ?_;show AR _ _ _ _ _ [0, 1] _;refine zm rfl <| za rfl <| ag <| aG ?_;obtain rfl := ak H;exact And.intro rfl (Exists.intro _ (Exists.intro _ ⟨aF rfl (.refl _), aB [] rfl, rfl, rfl⟩))
 ·replace H := aY c19 H;refine aC <| af ?_;obtain ⟨g20, H⟩ := aM H;obtain ⟨x21, e22, H⟩ := bM H;obtain ⟨g23, H⟩ := aM H;obtain ⟨x24, e25, H⟩ := bM H;refine aa ?_;show AR _ _ _ _ _ [0, 1, 2, 3] _;refine zm rfl <| zS rfl (mu rfl rfl g20 e22) <| zS rfl (mu rfl rfl g23 e25) <| za rfl <| ag <| af ?_;obtain ⟨g26, H⟩ := aM H;obtain ⟨x27, e28, H⟩ := bM H;obtain ⟨g29, H⟩ := aM H;obtain ⟨x30, e31, H⟩ := bM H;obtain ⟨g32, H⟩ := aM H;obtain ⟨x33, e34, H⟩ := bM H;obtain ⟨g35, H⟩ := aM H;obtain ⟨x36, e37, H⟩ := bM H;obtain ⟨g38, H⟩ := aM H;obtain ⟨x39, e40, H⟩ := bM H;obtain ⟨g41, H⟩ := aM H;obtain ⟨x42, e43, H⟩ := bM H;obtain ⟨g44, H⟩ := aM H;obtain ⟨x45, e46, H⟩ := bM H;obtain ⟨g47, H⟩ := aM H;obtain ⟨x48, e49, H⟩ := bM H;refine aa ?_;show AR _ _ _ _ _ [0, 1, 2, 3, 4, 5, 6, 7, 8, 9, 10, 11, 12] _;refine zm rfl <| zS rfl (mu rfl rfl g26 e28) <| zS rfl (mu rfl rfl g29 e31) <| zm rfl <| zS rfl (mu rfl rfl g32 e34) <| zS rfl (mu rfl rfl g35 e37) <| zm rfl <| zS rfl (mu rfl rfl g38 e40) <| zS rfl (mu rfl rfl g41 e43) <| zm rfl <| zS rfl (mu rfl rfl g44 e46) <| zS rfl (mu rfl rfl g47 e49) <| za rfl <| ag <| af ?_;obtain ⟨g50, H⟩ := aM H;obtain ⟨x52, x53, x54, e55, H⟩ := vt H;refine aa ?_;show AR _ _ _ _ _ [0, 1, 2, 3, 4, 5, 6, 7, 8] _;refine zm rfl <| zX rfl (gN (bytes := 1) ai al cH rfl g50) ?_;rintro _ _ ⟨t51, rfl, rfl⟩
  refine am rfl rfl (aA rfl mX rfl (nC F x24 (some t51) x52 x53 x54 e55) ?_);refine zS rfl (ah (av := .tup _) rfl) <| zS rfl (az (av := .agg _) rfl rfl) <| zS rfl (az (av := .v _) rfl rfl) <| zX rfl (bg (zs := [.string ⟨#[]⟩, .slice none 0 0]) (by kernel_rfl)) ?_;rintro _ _ ⟨o56, rfl, rfl⟩;refine s0 rfl rfl (aV (i := 0) (vs := [S x52, slE (ab Enc.str (ab Enc.str (ab Enc.str (ab Enc.str Enc.int)))) x53 none]) (by kernel_rfl) rfl rfl (by simp [bA, slE]) rfl (ac rfl)) <| fQ 13 0 rfl rfl ?_;show AR _ _ _ _ _ _ ⟨_, _, [.tok t51 5]⟩;refine za rfl <| ag <| af ?_;obtain ⟨g57, H⟩ := aM H;obtain ⟨x59, x60, x61, e62, H⟩ := vt H;refine aa ?_;show AR _ _ _ _ _ [0, 1, 2, 3, 4, 5, 6, 7, 8] _;refine zm rfl <| zX rfl (gN (bytes := 1) ai al cH rfl g57) ?_;rintro _ _ ⟨t58, rfl, rfl⟩;refine am rfl rfl (aA rfl mX rfl (nC F x48 (some t58) x59 x60 x61 e62) ?_);refine zS rfl (ah (av := .tup _) rfl) <| zS rfl (az (av := .agg _) rfl rfl) <| zS rfl (az (av := .v _) rfl rfl) <| zX rfl (bg (zs := [.string ⟨#[]⟩, .slice none 0 0]) (by kernel_rfl)) ?_;rintro _ _ ⟨o63, rfl, rfl⟩
  refine s0 rfl rfl (aV (i := 0) (vs := [S x59, slE (ab Enc.str (ab Enc.str (ab Enc.str (ab Enc.str Enc.int)))) x60 none]) (by kernel_rfl) rfl rfl (by simp [bA, slE]) rfl (ac rfl)) <| fQ 15 0 rfl rfl ?_;show AR _ _ _ _ _ _ ⟨_, _, [.tok t58 5, .tok t51 5]⟩;refine za rfl <| ag <| af ?_;obtain ⟨x64, e65, H⟩ := bW H;refine aa ?_;show AR _ _ _ _ _ [0, 1, 2, 3] _;refine zS rfl (ct cy rfl (n := 2) (by kernel_rfl) rfl (ac rfl)) <| zS rfl (ct cy rfl (n := 2) (by kernel_rfl) rfl (ac rfl)) <| am rfl rfl (aA rfl qa rfl (pm F x52 x53 x59 x60 x64 e65) ?_);refine za rfl <| ag <| af <| aa ?_;show AR _ _ _ _ _ [0, 1, 2, 3, 4, 5, 6, 7, 8, 9] _;refine zm rfl <| zS rfl (bJ rfl rfl) <| zm rfl <| aW (l := [6, 7, 8, 9]) 87 (B ((decide (x54 = 0)) && (decide (x61 = 0)))) (fun K => ?_) ?_
  ·rcases aj (decide (x54 = 0)) with h66 | h66
   ·refine zM h66 rfl <| zU h66 rfl (bJ rfl rfl) <| zS rfl (aD (av := .v _) rfl h66 rfl) ?_;exact K _ 2 _ (ay (cz h66)) rfl rfl
   ·refine zF h66 rfl <| zF h66 rfl <| zS rfl (aE (av := .v _) rfl h66 rfl) ?_;exact K _ 2 _ (ay (cA h66)) rfl rfl
  refine zm rfl <| aW (l := [9]) 90 (B (((decide (x54 = 0)) && (decide (x61 = 0))) && x64)) (fun K => ?_) ?_
  ·rcases aj ((decide (x54 = 0)) && (decide (x61 = 0))) with h67 | h67
   ·refine zM h67 rfl <| zS rfl (aD (av := .v _) rfl h67 rfl) ?_;exact K _ 1 _ (ay (cz h67)) rfl rfl
   ·refine zF h67 rfl <| zS rfl (aE (av := .v _) rfl h67 rfl) ?_;exact K _ 1 _ (ay (cA h67)) rfl rfl
  refine za rfl <| ag <| aG ?_;obtain rfl := ak H;exact And.intro rfl (Exists.intro _ (Exists.intro _ ⟨aF rfl (.refl _), aB [] rfl, rfl, rfl⟩))
end Go.Proofs.YtkbfjepffpddfaaGreatDoor
namespace Go.Xm
abbrev Bs := List UInt8
abbrev At := Bs × Bs
abbrev Tok := Int × Bs × Bs × List At
def sY (c : UInt8) : Bool := ((decide (65 ≤ c.toNat) && decide (c.toNat ≤ 90)) || (decide (97 ≤ c.toNat) && decide (c.toNat ≤ 122))) || decide (c = 95)
def ku (c : UInt8) : Bool := sY c || ((((decide (48 ≤ c.toNat) && decide (c.toNat ≤ 57)) || decide (c = 45)) || decide (c = 46)) || decide (c = 58))
def eJ (c : UInt8) : Bool := decide (c = 9) || decide (c = 10) || decide (c = 13) || decide (c = 32)
def gu (s : Bs) : Bool := (match s with | [] => false | c :: _ => sY c) && (s.all ku && decide (s.length ≤ 60))
def ej (s : Bs) : Option (Bs × Bs) := if gu (s.takeWhile ku) = true then some (s.takeWhile ku, s.dropWhile ku) else none
def iu (p : Bs) : Bs → Option (Bs × Bs)
  | [] => if p = [] then some ([], []) else none
  | c :: r => if p.isPrefixOf (c :: r) = true then some ([], (c :: r).drop p.length) else match iu p r with | none => none | some (a, b) => some (c :: a, b)
section
variable (dec : Bs → Option Bs)
def oz (n : Bs) (q : UInt8) (s : Bs) : Option (At × Bs) := match iu [q] s with
  | none => none
  | some (raw, r) => if 60 ∈ raw then none else match dec raw with | none => none | some t => some ((n, t), r)
def jy (s : Bs) : Option (At × Bs) := match ej s with
  | none => none
  | some (n, r) => if ([61, 34] : Bs).isPrefixOf r = true then oz dec n 34 (r.drop 2) else if ([61, 39] : Bs).isPrefixOf r = true then oz dec n 39 (r.drop 2) else none
def eO : Nat → List At → Bs → Option (List At × Bool × Bs)
  | 0, _, _ => none
  | k + 1, as_, s =>
    if ([62] : Bs).isPrefixOf (s.dropWhile eJ) = true then some (as_, false, (s.dropWhile eJ).drop 1)
    else if ([47, 62] : Bs).isPrefixOf (s.dropWhile eJ) = true then some (as_, true, (s.dropWhile eJ).drop 2)
    else if (s.dropWhile eJ).length = s.length then none
    else match jy dec (s.dropWhile eJ) with
      | none => none
      | some (a, r) => if as_.any (fun x => decide (x.1 = a.1)) = true then none else eO k (as_ ++ [a]) r
abbrev Sx := Bs × List Bs × Nat × List Tok
inductive Rx
  | ok (x : Sx)
  | no (e : Int)
def lN (t : Bs) (l : List Tok) : List Tok := if t = [] then l else l ++ [(2, [], t, [])]
def ls (n s : Bs) (open_ : List Bs) (k : Nat) (l : List Tok) : Rx := if open_.getLast? = some n then .ok (s, open_.dropLast, k, l ++ [(1, n, [], [])]) else .no 2
def je (s : Bs) (o : List Bs) (k : Nat) (l : List Tok) : Rx :=
  match dec (s.takeWhile fun c => decide (c ≠ 60)) with
  | none => .no 2
  | some t => if o = [] then (if (s.takeWhile fun c => decide (c ≠ 60)).all eJ = true then .ok (s.dropWhile (fun c => decide (c ≠ 60)), o, k, l) else .no 2)
      else .ok (s.dropWhile (fun c => decide (c ≠ 60)), o, k, lN t l)
def gV (p s : Bs) (o : List Bs) (k : Nat) (l : List Tok) : Rx := match iu p s with | none => .no 2 | some (_, r) => .ok (r, o, k, l)
def mw (s : Bs) (o : List Bs) (k : Nat) (l : List Tok) : Rx := match iu [93, 93, 62] s with | none => .no 2 | some (t, r) => if o = [] then .no 2 else .ok (r, o, k, lN t l)
def pA (s : Bs) (o : List Bs) (k : Nat) (l : List Tok) : Rx := match ej s with
  | none => .no 2
  | some (n, r) => if ([62] : Bs).isPrefixOf (r.dropWhile eJ) = true then ls n ((r.dropWhile eJ).drop 1) o k l else .no 2
def na (n : Bs) (as_ : List At) (empty : Bool) (r : Bs) (o : List Bs) (k : Nat) (l : List Tok) : Rx :=
  if o = [] ∧ k ≠ 0 then .no 2 else if 20 ≤ o.length then .no 5
  else if empty = true then .ok (r, o, (if o = [] then k + 1 else k), (l ++ [(0, n, [], as_)]) ++ [(1, n, [], [])]) else .ok (r, o ++ [n], (if o = [] then k + 1 else k), l ++ [(0, n, [], as_)])
def kI (s : Bs) (o : List Bs) (k : Nat) (l : List Tok) : Rx := match ej s with
  | none => .no 2
  | some (n, r) => match eO dec (r.length + 1) [] r with
    | none => .no 2
    | some (as_, empty, r') => na n as_ empty r' o k l
def dA (s : Bs) (o : List Bs) (k : Nat) (l : List Tok) : Rx :=
  if ([60] : Bs).isPrefixOf s = false then je dec s o k l
  else if ([60, 33, 45, 45] : Bs).isPrefixOf s = true then gV [45, 45, 62] (s.drop 4) o k l
  else if ([60, 63] : Bs).isPrefixOf s = true then gV [63, 62] (s.drop 2) o k l
  else if ([60, 33, 91, 67, 68, 65, 84, 65, 91] : Bs).isPrefixOf s = true then mw (s.drop 9) o k l
  else if ([60, 33] : Bs).isPrefixOf s = true then gV [62] (s.drop 2) o k l
  else if ([60, 47] : Bs).isPrefixOf s = true then pA (s.drop 2) o k l
  else kI dec (s.drop 1) o k l
def jZ : Nat → Sx → Rx
  | 0, x => .no 2
  | n + 1, (s, o, k, l) => if s = [] then .ok (s, o, k, l) else match dA dec s o k l with
    | .ok y => jZ n y
    | .no e => .no e
def nu (s : Bs) : List Tok × Int := match jZ dec (s.length + 1) (s, [], 0, []) with
  | .ok (_, o, k, l) => if o = [] ∧ 0 < k then (l, 0) else ([], 2)
  | .no e => ([], e)
end
theorem lz {p : Bs} (hp : p ≠ []) : ∀ {s a b : Bs}, iu p s = some (a, b) → s = a ++ p ++ b
  | [], a, b, h => by
    unfold iu at h
    rw [if_neg hp] at h; cases h
  | c :: r, a, b, h => by
    unfold iu at h
    by_cases g : p.isPrefixOf (c :: r) = true
    · rw [if_pos g] at h
      cases h
      obtain ⟨t, ht⟩ := List.isPrefixOf_iff_prefix.1 g
      rw [← ht, List.drop_left' rfl]; rfl
    · rw [if_neg g] at h
      cases e : iu p r with
      | none => rw [e] at h; cases h
      | some x =>
        obtain ⟨a', b'⟩ := x
        rw [e] at h
        cases h
        rw [lz hp e]
        simp
theorem fb {p s : Bs} (h : p.isPrefixOf s = true) : s = p ++ s.drop p.length := by
  obtain ⟨t, ht⟩ := List.isPrefixOf_iff_prefix.1 h
  rw [← ht, List.drop_left' rfl]
theorem ss (f : UInt8 → Bool) (s : Bs) : (s.dropWhile f).length ≤ s.length := by
  induction s with
  | nil => simp
  | cons c r ih => rw [List.dropWhile_cons]; split <;> simp at * <;> omega
theorem iR {s n r : Bs} (h : ej s = some (n, r)) : s = n ++ r ∧ gu n = true := by
  unfold ej at h
  split at h
  · rename_i g
    cases h
    exact ⟨(List.takeWhile_append_dropWhile).symm, g⟩
  · cases h
theorem wv {n : Bs} (h : gu n = true) : 0 < n.length := by
  cases n with
  | nil => cases h
  | cons c r => simp
section
variable {dec : Bs → Option Bs}
theorem uq {n s : Bs} {q : UInt8} {a : At} {r : Bs} (h : oz dec n q s = some (a, r)) : r.length < s.length := by
  unfold oz at h
  cases e : iu [q] s with
  | none => rw [e] at h; cases h
  | some x =>
    obtain ⟨raw, r'⟩ := x
    rw [e] at h
    simp only at h
    split at h
    · cases h
    · split at h
      · cases h
      · cases h
        have := lz (by simp) e
        rw [this]; simp; omega
theorem mC {s : Bs} {a : At} {r : Bs} (h : jy dec s = some (a, r)) : r.length < s.length := by
  unfold jy at h
  cases e : ej s with
  | none => rw [e] at h; cases h
  | some x =>
    obtain ⟨n, r'⟩ := x
    rw [e] at h
    obtain ⟨rfl, hn⟩ := iR e
    have hp := wv hn
    simp only at h
    split at h
    · have := uq h
      rw [List.length_drop] at this; rw [List.length_append]; omega
    · split at h
      · have := uq h
        rw [List.length_drop] at this; rw [List.length_append]; omega
      · cases h
theorem oZ : ∀ {k : Nat} {as_ : List At} {s : Bs} {bs : List At} {e : Bool} {r : Bs}, eO dec k as_ s = some (bs, e, r) → r.length < s.length
  | 0, _, _, _, _, _, h => by cases h
  | k + 1, as_, s, bs, e, r, h => by
    have hd := ss eJ s
    unfold eO at h
    split at h
    · rename_i g
      cases h
      have := congrArg List.length (fb g)
      rw [List.length_append] at this
      simp at this ⊢
      omega
    · split at h
      · rename_i g
        cases h
        have := congrArg List.length (fb g)
        rw [List.length_append] at this
        simp at this ⊢
        omega
      · split at h
        · cases h
        · cases ea : jy dec (s.dropWhile eJ) with
          | none => rw [ea] at h; cases h
          | some x =>
            obtain ⟨a, r'⟩ := x
            rw [ea] at h
            simp only at h
            have h1 := mC ea
            split at h
            · cases h
            · have := oZ h
              omega
theorem nJ : ∀ {k m : Nat} {as_ : List At} {s : Bs}, s.length < k → s.length < m → eO dec k as_ s = eO dec m as_ s
  | 0, _, _, _, h, _ => by omega
  | _, 0, _, _, _, h => by omega
  | k + 1, m + 1, as_, s, hk, hm => by
    have hd := ss eJ s
    unfold eO
    split
    · rfl
    · split
      · rfl
      · split
        · rfl
        · rename_i g
          cases ea : jy dec (s.dropWhile eJ) with
          | none => rfl
          | some x =>
            obtain ⟨a, r'⟩ := x
            have h1 := mC ea
            simp only
            split
            · rfl
            · exact nJ (by omega) (by omega)
theorem iz {p s : Bs} (hp : p ≠ []) {o : List Bs} {k : Nat} {l : List Tok} {x : Sx} (h : gV p s o k l = .ok x) : x.1.length ≤ s.length ∧ x.2 = (o, k, l) := by
  unfold gV at h
  cases e : iu p s with
  | none => rw [e] at h; cases h
  | some y =>
    obtain ⟨a, b⟩ := y
    rw [e] at h
    cases h
    have := congrArg List.length (lz hp e)
    simp at this ⊢
    omega
theorem lu {s : Bs} {o : List Bs} {k : Nat} {l : List Tok} {x : Sx} (hs : s ≠ []) (h : dA dec s o k l = .ok x) : x.1.length < s.length := by
  have hpos := List.length_pos_iff.2 hs
  have pl : ∀ p : Bs, p.isPrefixOf s = true → p.length ≤ s.length := fun p g => by
    have := congrArg List.length (fb g)
    rw [List.length_append] at this
    omega
  unfold dA at h
  split at h
  · rename_i g
    have hc : ∃ c r, s = c :: r ∧ c ≠ 60 := by
      cases s with
      | nil => exact absurd rfl hs
      | cons c r =>
        refine ⟨c, r, rfl, fun e => ?_⟩
        rw [e] at g
        simp at g
    obtain ⟨c, r, rfl, hc⟩ := hc
    have hd : ((c :: r).dropWhile fun c => decide (c ≠ 60)).length < (c :: r).length := by
      rw [List.dropWhile_cons, if_pos (by simpa using hc)]
      have := ss (fun c => decide (c ≠ 60)) r
      rw [List.length_cons]; omega
    unfold je at h
    split at h
    · cases h
    · split at h
      · split at h
        · cases h; exact hd
        · cases h
      · cases h; exact hd
  split at h
  · rename_i g
    have := (iz (by simp) h).1
    have := pl _ g
    rw [List.length_drop] at *
    simp at *; omega
  split at h
  · rename_i g
    have := (iz (by simp) h).1
    have := pl _ g
    rw [List.length_drop] at *
    simp at *; omega
  split at h
  · rename_i g
    have h9 := pl _ g
    unfold mw at h
    cases e : iu [93, 93, 62] (s.drop 9) with
    | none => rw [e] at h; cases h
    | some y =>
      obtain ⟨a, b⟩ := y
      rw [e] at h
      simp only at h
      have := congrArg List.length (lz (by simp) e)
      simp at this h9
      split at h
      · cases h
      · cases h
        simp only
        omega
  split at h
  · rename_i g
    have := (iz (by simp) h).1
    have := pl _ g
    rw [List.length_drop] at *
    simp at *; omega
  split at h
  · rename_i g
    have h2 := pl _ g
    unfold pA at h
    cases e : ej (s.drop 2) with
    | none => rw [e] at h; cases h
    | some y =>
      obtain ⟨n, r⟩ := y
      rw [e] at h
      simp only at h
      have := congrArg List.length (iR e).1
      have hd := ss eJ r
      simp at this h2
      split at h
      · unfold ls at h
        split at h
        · cases h
          simp only [List.length_drop]
          omega
        · cases h
      · cases h
  · unfold kI at h
    cases e : ej (s.drop 1) with
    | none => rw [e] at h; cases h
    | some y =>
      obtain ⟨n, r⟩ := y
      rw [e] at h
      simp only at h
      have := congrArg List.length (iR e).1
      simp at this
      cases ea : eO dec (r.length + 1) [] r with
      | none => rw [ea] at h; cases h
      | some z =>
        obtain ⟨as_, em, r'⟩ := z
        rw [ea] at h
        simp only at h
        have hl := oZ ea
        unfold na at h
        split at h
        · cases h
        · split at h
          · cases h
          · split at h <;> (cases h; simp only; omega)
theorem wi : ∀ {n m : Nat} {x : Sx}, x.1.length < n → x.1.length < m → jZ dec n x = jZ dec m x
  | 0, _, _, h, _ => by omega
  | _, 0, _, _, h => by omega
  | n + 1, m + 1, (s, o, k, l), hn, hm => by
    unfold jZ
    split
    · rfl
    · rename_i g
      cases e : dA dec s o k l with
      | no e => rfl
      | ok y =>
        have := lu g e
        simp only at hn hm ⊢
        exact wi (by omega) (by omega)
end
end Go.Xm
