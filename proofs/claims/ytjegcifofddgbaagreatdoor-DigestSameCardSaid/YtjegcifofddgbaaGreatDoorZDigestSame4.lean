/-
  Texts in one (only what DigestSame needs): AnyW, EntBP, EntBW, PlainAP, PlainAW, DigAP, DigAW, StampP, StampW, QpP, QpW, B64P, B64W, HeadAP.
-/
import Derived.Test.YtjegcifofddgbaaGreatDoorZDigestSame3
import Derived.Test.YtjegcifofddgbaaGreatDoorShelf
import Derived.Lib.ItoaNum
import Derived.Lib.IndexLaws
import Derived.Test.YtjegcifofddgbaaGreatDoorChecked
import Derived.Below
set_option linter.unusedVariables false
set_option linter.unusedSimpArgs false
namespace Go.Proofs.YtjegcifofddgbaaGreatDoor
open Go.RowKit Go.Av Go.Pv
theorem vi : ∀ (args : Array Value) (w : World), (callFunc 64 args).run Tryz.prog w = .ok (.enter 64 args) w := fun _ _ => by kernel_rfl
theorem xS : ∀ (args : Array Value) (w : World), (callFunc 234 args).run Tryz.prog w = .ok (.enter 234 args) w := fun _ _ => by kernel_rfl
theorem sx : ∀ (args : Array Value) (w : World), (callFunc 252 args).run Tryz.prog w = .ok (.enter 252 args) w := fun _ _ => by kernel_rfl
theorem xN : ∀ (args : Array Value) (w : World), (callFunc 254 args).run Tryz.prog w = .ok (.enter 254 args) w := fun _ _ => by kernel_rfl
theorem xM : ∀ (args : Array Value) (w : World), (callFunc 270 args).run Tryz.prog w = .ok (.enter 270 args) w := fun _ _ => by kernel_rfl
set_option maxRecDepth 100000 in
set_option maxHeartbeats 1000000 in
theorem tX (F : Nat) (a1 : Int) (r2 : Bool) (H : la F a1 = some r2) : ACalls Tryz.prog 270 [.v (.int .i32 a1)] [] (Ret (B r2) []) := by
 unfold la at H
 refine ax Tryz.func270 rfl rfl ?_;show AW _ _ 17 _ _ _;refine af <| aa ?_;show AR _ _ _ _ _ [0] _;refine za rfl <| ag <| af <| aO <| af <| aa ?_;show AR _ _ _ _ _ [0, 1, 2, 3, 4, 5, 6] _;refine zm rfl <| zS rfl (dI rfl rfl) <| zm rfl <| bb (l := [6]) 9 (B ((decide (0 ≤ a1)) && (decide (a1 < 55296)))) (fun K => ?_) ?_
 ·rcases ak (decide (0 ≤ a1)) with h3 | h3
  ·refine zM h3 rfl <| zU h3 rfl (bC rfl rfl) <| zS rfl (aG (av := .v _) rfl h3 rfl) ?_;exact K _ 2 _ (aA (cz h3)) rfl rfl
  ·refine zF h3 rfl <| zF h3 rfl <| zS rfl (aE (av := .v _) rfl h3 rfl) ?_;exact K _ 2 _ (aA (cA h3)) rfl rfl
 refine za rfl <| ag <| az rfl (fun c4 => ?_) (fun c4 => ?_)
 ·replace H := aZ c4 H;refine af <| aa ?_;show AR _ _ _ _ _ [0] _;refine za rfl <| ag <| aL ?_;obtain rfl := ap H;exact And.intro rfl (Exists.intro _ (Exists.intro _ ⟨aH rfl (.refl _), aI [] rfl, rfl, rfl⟩))
 ·replace H := ba c4 H;refine af <| aa ?_;show AR _ _ _ _ _ [0, 1, 2, 3, 4, 5, 6] _;refine zm rfl <| zS rfl (bC rfl rfl) <| zm rfl <| bb (l := [6]) 16 (B ((decide (57343 < a1)) && (decide (a1 ≤ 1114111)))) (fun K => ?_) ?_
  ·rcases ak (decide (57343 < a1)) with h5 | h5
   ·refine zM h5 rfl <| zU h5 rfl (dI rfl rfl) <| zS rfl (aG (av := .v _) rfl h5 rfl) ?_;exact K _ 2 _ (aA (cz h5)) rfl rfl
   ·refine zF h5 rfl <| zF h5 rfl <| zS rfl (aE (av := .v _) rfl h5 rfl) ?_;exact K _ 2 _ (aA (cA h5)) rfl rfl
  refine za rfl <| ag <| az rfl (fun c6 => ?_) (fun c6 => ?_)
  ·replace H := aZ c6 H;refine af <| aa ?_;show AR _ _ _ _ _ [0] _;refine za rfl <| ag <| aL ?_;obtain rfl := ap H;exact And.intro rfl (Exists.intro _ (Exists.intro _ ⟨aH rfl (.refl _), aI [] rfl, rfl, rfl⟩))
  ·replace H := ba c6 H;refine aC <| af <| aa ?_;show AR _ _ _ _ _ [0] _;refine za rfl <| ag <| aL ?_;obtain rfl := ap H;exact And.intro rfl (Exists.intro _ (Exists.intro _ ⟨aH rfl (.refl _), aI [] rfl, rfl, rfl⟩))
set_option maxRecDepth 100000 in
set_option maxHeartbeats 1000000 in
theorem rQ (F : Nat) (a1 : List UInt8) (a2 : Int) (r3 : Int) (H : lP F a1 a2 = some r3) : ACalls Tryz.prog 252 [S a1, .v (.int .i32 a2)] [] (Ret (i64 r3) []) := by
 unfold lP at H
 refine ax Tryz.func252 rfl rfl ?_;show AW _ _ 187 _ _ _;refine af <| aa ?_;show AR _ _ _ _ _ [0] _;refine za rfl <| ag <| aO <| af <| aa ?_;show AR _ _ _ _ _ [0, 1, 2, 3, 4, 5, 6] _;refine zm rfl <| zS rfl (dI rfl rfl) <| zm rfl <| bb (l := [6]) 166 (B ((decide (0 ≤ a2)) && (decide (a2 < 128)))) (fun K => ?_) ?_
 ·rcases ak (decide (0 ≤ a2)) with h4 | h4
  ·refine zM h4 rfl <| zU h4 rfl (bC rfl rfl) <| zS rfl (aG (av := .v _) rfl h4 rfl) ?_;exact K _ 2 _ (aA (cz h4)) rfl rfl
  ·refine zF h4 rfl <| zF h4 rfl <| zS rfl (aE (av := .v _) rfl h4 rfl) ?_;exact K _ 2 _ (aA (cA h4)) rfl rfl
 refine za rfl <| ag <| az rfl (fun c5 => ?_) (fun c5 => ?_)
 ·replace H := aZ c5 H;refine af ?_;obtain ⟨x6, e7, H⟩ := bg H;refine aa ?_;show AR _ _ _ _ _ [0, 1, 2, 3, 4] _;refine zm rfl <| zm rfl <| zS rfl (lF (by kernel_rfl) aY rfl) <| aq rfl rfl (aD rfl vi rfl (show ACalls _ _ _ [] (Ret (i64 x6) []) from by subst e7; exact dx a1 (Go.Av.toB a2)) ?_);refine za rfl <| ag <| aL ?_;obtain rfl := ap H;exact And.intro rfl (Exists.intro _ (Exists.intro _ ⟨aH rfl (.refl _), aI [] rfl, rfl, rfl⟩))
 ·replace H := ba c5 H;refine af <| aa ?_;show AR _ _ _ _ _ [0, 1, 2] _;refine zm rfl <| zS rfl (cJ rfl rfl) <| za rfl <| ag <| az rfl (fun c8 => ?_) (fun c8 => ?_)
  ·replace H := aZ c8 H;refine bk (X := Unit) (fun _ => ⟨[], [], []⟩) (fun _ => lC = some r3) ?_ ?_
   ·refine af <| aa ?_;show AR _ _ _ _ _ [0, 1] _;refine zm rfl <| zX rfl (na ab rfl) ?_;rintro _ _ ⟨o9, rfl, rfl⟩;refine ag <| aO <| cl (X := Nat × Nat) (fun (n12, y10) => ⟨[(175, .pt o9 0)], [], [.iter o9 a1 y10]⟩) (fun (n12, y10) => jX a1 n12 y10 = some r3) (fun (n12, y10) => n12) (F, 0) H (aP [0] (.cons (.refl _) (.nil _)) rfl) ?_;rintro ⟨n12, y10⟩ H;obtain ⟨n12, rfl, H⟩ := cO H;replace H : gl a1 (jX a1 n12) y10 = some r3 := H
    unfold gl at H
    refine af ?_
    rcases ak (decide (y10 < a1.length)) with c13 | c13
    ·replace H := aZ c13 H;refine aa ?_;show AR _ _ _ _ _ [0, 1] _;refine zR rfl (vc (i := 0) rfl rfl c13) <| zS rfl (aF (av := .v _) rfl rfl) <| ag <| af <| az rfl (fun _ => ?_) (fun hx => bS rfl hx);refine aC <| aO <| af <| aa ?_;show AR _ _ _ _ _ [0, 1, 2, 3] _;refine zS rfl (aF (av := .v _) rfl rfl) <| zS rfl (aF (av := .v _) rfl rfl) <| za rfl <| za rfl <| ag <| af <| aa ?_;show AR _ _ _ _ _ [0, 1] _;refine zm rfl <| zS rfl (cJ rfl rfl) <| ag ?_;obtain ⟨g15, H⟩ := ay H;replace g15 := fn g15;refine az rfl (fun hx => bS hx g15) (fun _ => ?_);refine aC ?_;exact Exists.intro (n12, y10 + (pR a1 y10).2) ⟨H, Nat.lt_succ_self _, aP [0] (.cons (.refl _) (.nil _)) rfl⟩
    ·replace H := ba c13 H;refine aa ?_;show AR _ _ _ _ _ [0, 1] _;refine zR rfl (vd (i := 0) rfl rfl c13) <| zS rfl (aF (av := .v _) rfl rfl) <| ag <| af <| az rfl (fun hx => bS hx rfl) (fun _ => ?_);refine bZ ?_;exact Exists.intro () ⟨H, aP [] (.nil _) rfl⟩
   rintro _ H;replace H : lC = some r3 := H
   unfold lC at H
   refine af <| aa ?_;show AR _ _ _ _ _ [0] _;refine za rfl <| ag <| aL ?_;obtain rfl := ap H;exact And.intro rfl (Exists.intro _ (Exists.intro _ ⟨aH rfl (.refl _), aI [] rfl, rfl, rfl⟩))
  ·replace H := ba c8 H;refine af ?_;obtain ⟨x17, e18, H⟩ := bK H;refine aa ?_;show AR _ _ _ _ _ [0, 1, 2, 3] _;refine zm rfl <| aq rfl rfl (aD rfl xM rfl (tX F a2 x17 e18) ?_);refine zS rfl (cx rfl) <| za rfl <| ag <| az rfl (fun c19 => ?_) (fun c19 => ?_)
   ·replace H := aZ c19 H;refine af <| aa ?_;show AR _ _ _ _ _ [0] _;refine za rfl <| ag <| aL ?_;obtain rfl := ap H;exact And.intro rfl (Exists.intro _ (Exists.intro _ ⟨aH rfl (.refl _), aI [] rfl, rfl, rfl⟩))
   ·replace H := ba c19 H;refine AW.scope <| af ?_;obtain ⟨x20, e21, H⟩ := bg H;refine aa ?_;show AR _ _ _ _ _ [0, 1, 2] _;refine zm rfl <| zS rfl (nI eu ab rfl e21) <| za rfl <| ag <| af ?_;obtain ⟨g22, H⟩ := ay H;refine aa ?_;show AR _ _ _ _ _ [0, 1, 2, 3] _;refine zm rfl <| zS rfl (aU ab rfl) <| zS rfl (eL rfl rfl g22) <| za rfl <| ag <| af <| aa ?_;show AR _ _ _ _ _ [0, 1] _;refine zm rfl <| za rfl <| ag <| af <| aa ?_;show AR _ _ _ _ _ [0] _;refine za rfl <| ag <| bk (X := Unit) (fun _ => ⟨[], [], []⟩) (fun _ => jW = some r3) ?_ ?_
    ·refine aO <| cl (X := Nat) (fun n24 => ⟨[(0, S a1), (7, S x20), (8, i64 ((x20.length : Int) - 1)), (9, i64 ((x20.length : Int) - 1)), (10, i64 0)], [], []⟩) (fun n24 => lD a1 x20 n24 () = some r3) (fun n24 => n24) F H (aP [] (.cons (.refl _) (.cons (.refl _) (.cons (.refl _) (.cons (.refl _) (.cons (.refl _) (.nil _)))))) rfl) ?_;rintro n24 H;obtain ⟨n24, rfl, H⟩ := cO H;replace H : jY a1 x20 (lD a1 x20 n24) = some r3 := H
     unfold jY at H
     refine af <| af <| aa ?_;show AR _ _ _ _ _ [0, 1, 2, 3] _;refine zm rfl <| zm rfl <| zS rfl (aU ab rfl) <| zS rfl (bC rfl rfl) <| ag <| az rfl (fun c25 => ?_) (fun c25 => ?_)
     ·replace H := aZ c25 H;refine aC <| aO <| AW.scope <| af <| af ?_;obtain ⟨g26, H⟩ := ay H;obtain ⟨x27, e28, H⟩ := bg H;obtain ⟨g29, H⟩ := ay H;obtain ⟨x30, e31, H⟩ := bg H;refine bz (by kernel_rfl) ?_;show AI _ _ _ _ _ 7 (Array.replicate 7 false) _;refine zk 0 rfl (mv rfl) ?_;show AI _ _ _ _ _ _ #[true, false, false, false, false, false, false] _;refine zk 1 rfl (mv rfl) ?_;show AI _ _ _ _ _ _ #[true, true, false, false, false, false, false] _;refine zk 2 rfl (bj ab rfl rfl g26 e28) ?_;show AI _ _ _ _ _ _ #[true, true, true, false, false, false, false] _;refine zk 3 rfl (mv rfl) ?_;show AI _ _ _ _ _ _ #[true, true, true, true, false, false, false] _;refine zk 4 rfl (mv rfl) ?_;show AI _ _ _ _ _ _ #[true, true, true, true, true, false, false] _;refine zk 5 rfl (bj ab rfl rfl g29 e31) ?_;show AI _ _ _ _ _ _ #[true, true, true, true, true, true, false] _;refine zk 6 rfl (g_ne8 (a := x27) (b := x30) rfl rfl) ?_;show AI _ _ _ _ _ _ #[true, true, true, true, true, true, true] _;refine bE rfl ?_;obtain ⟨g44, H⟩ := ay H;refine az rfl (fun _ => ?_) (fun hx => bS g44 hx);refine af ?_;obtain ⟨g33, H⟩ := ay H;obtain ⟨g34, H⟩ := ay H;obtain ⟨x35, e36, H⟩ := bg H;obtain ⟨g37, H⟩ := ay H;obtain ⟨x38, e39, H⟩ := bg H;obtain ⟨x40, e41, H⟩ := bg H;refine bz (by kernel_rfl) ?_;show AI _ _ _ _ _ 9 (Array.replicate 9 false) _;refine zk 0 rfl (mv rfl) ?_;show AI _ _ _ _ _ _ #[true, false, false, false, false, false, false, false, false] _
      refine zk 1 rfl (mv rfl) ?_;show AI _ _ _ _ _ _ #[true, true, false, false, false, false, false, false, false] _;refine zk 2 rfl (bu rfl rfl g33) ?_;show AI _ _ _ _ _ _ #[true, true, true, false, false, false, false, false, false] _;refine zk 3 rfl (cI ab rfl rfl g34 e36) ?_;show AI _ _ _ _ _ _ #[true, true, true, true, false, false, false, false, false] _;refine zk 4 rfl (mv rfl) ?_;show AI _ _ _ _ _ _ #[true, true, true, true, true, false, false, false, false] _;refine zk 5 rfl (mv rfl) ?_;show AI _ _ _ _ _ _ #[true, true, true, true, true, true, false, false, false] _;refine zk 6 rfl (bj ab rfl rfl g37 e39) ?_;show AI _ _ _ _ _ _ #[true, true, true, true, true, true, true, false, false] _;refine aX (i := 7) (by kernel_rfl) rfl rfl <| dp rfl vi rfl (show ACalls _ _ _ [] (Ret (i64 x40) []) from by subst e41; exact dx x35 x38) ?_;show AI _ _ _ _ _ _ #[true, true, true, true, true, true, true, true, false] _;refine zk 8 rfl (asg rfl) ?_;show AI _ _ _ _ _ _ #[true, true, true, true, true, true, true, true, true] _;refine bE rfl <| af <| af <| aa ?_;show AR _ _ _ _ _ [0, 1] _;refine zm rfl <| zS rfl (bC rfl rfl) <| ag ?_;obtain ⟨g43, H⟩ := ay H;refine az rfl (fun _ => ?_) (fun hx => bS g43 hx);refine af <| aa ?_;show AR _ _ _ _ _ [0] _;refine za rfl <| ag <| aL ?_;obtain rfl := ap H;exact And.intro rfl (Exists.intro _ (Exists.intro _ ⟨aH rfl (.refl _), aI [] rfl, rfl, rfl⟩))
     ·replace H := ba c25 H;refine bZ ?_;exact Exists.intro () ⟨H, aP [] (.nil _) rfl⟩
    rintro _ H;replace H : jW = some r3 := H
    unfold jW at H
    refine af <| af <| aa ?_;show AR _ _ _ _ _ [0] _;refine za rfl <| ag <| aL ?_;obtain rfl := ap H;exact And.intro rfl (Exists.intro _ (Exists.intro _ ⟨aH rfl (.refl _), aI [] rfl, rfl, rfl⟩))
set_option maxRecDepth 100000 in
set_option maxHeartbeats 1000000 in
theorem w_useSet (F : Nat) (a1 : Int) (r2 : Bool) (H : tv F a1 = some r2) : ACalls Tryz.prog 254 [i64 a1] [] (Ret (B r2) []) := by
 unfold tv at H
 refine ax Tryz.func254 rfl rfl ?_;show AW _ _ 5 _ _ _;refine af <| aa ?_;show AR _ _ _ _ _ [0] _;refine za rfl <| ag <| af <| aa ?_;show AR _ _ _ _ _ [0, 1, 2] _;refine zm rfl <| zS rfl (cS rfl rfl) <| za rfl <| ag <| aL ?_;obtain rfl := ap H;exact And.intro rfl (Exists.intro _ (Exists.intro _ ⟨aH rfl (.refl _), aI [] rfl, rfl, rfl⟩))
set_option maxRecDepth 100000 in
set_option maxHeartbeats 1000000 in
theorem wZ (F : Nat) (a1 : List UInt8) (a2 : List UInt8) (r3 : Int) (H : oH F a1 a2 = some r3) : ACalls Tryz.prog 234 [S a1, S a2] [] (Ret (i64 r3) []) := by
 unfold oH at H
 refine ax Tryz.func234 rfl rfl ?_;show AW _ _ 55 _ _ _;refine af <| aa ?_;show AR _ _ _ _ _ [0] _;refine za rfl <| ag <| af <| af <| aa ?_;show AR _ _ _ _ _ [0, 1] _;refine zm rfl <| zS rfl (eU rfl rfl) <| ag <| az rfl (fun c4 => ?_) (fun c4 => ?_)
 ·replace H := aZ c4 H;refine af <| aa ?_;show AR _ _ _ _ _ [0] _;refine za rfl <| ag <| aL ?_;obtain rfl := ap H;exact And.intro rfl (Exists.intro _ (Exists.intro _ ⟨aH rfl (.refl _), aI [] rfl, rfl, rfl⟩))
 ·replace H := ba c4 H;refine aC <| af <| af <| aa ?_;show AR _ _ _ _ _ [0, 1, 2] _;refine zm rfl <| zS rfl (aU ab rfl) <| zS rfl (cJ rfl rfl) <| ag <| az rfl (fun c5 => ?_) (fun c5 => ?_)
  ·replace H := aZ c5 H;refine af ?_;obtain ⟨g6, H⟩ := ay H;obtain ⟨x7, e8, H⟩ := bg H;obtain ⟨g9, H⟩ := ay H;refine aa ?_;show AR _ _ _ _ _ [0, 1, 2, 3] _;refine zm rfl <| zS rfl (bj ab rfl rfl g6 e8) <| zS rfl (sg (by kernel_rfl) eu rfl g9) <| za rfl <| ag <| bk (X := Int) (fun y11 => ⟨[(0, S a1), (5, .v (.int .i32 y11))], [], []⟩) (fun y11 => ic F a1 y11 = some r3) ?_ ?_
   ·refine af <| aa ?_;show AR _ _ _ _ _ [0, 1] _;refine zm rfl <| zS rfl (dz rfl rfl) <| ag <| az rfl (fun c10 => ?_) (fun c10 => ?_)
    ·replace H := aZ c10 H;refine aa ?_;show AR _ _ _ _ _ [0] _;refine za rfl <| ag ?_;exact Exists.intro 65533 ⟨H, aP [] (.cons (.refl _) (.cons (.refl _) (.nil _))) rfl⟩
    ·replace H := ba c10 H;refine aC ?_;exact Exists.intro (x7.toNat : Int) ⟨H, aP [] (.cons (.refl _) (.cons (.refl _) (.nil _))) rfl⟩
   rintro y11 H;replace H : ic F a1 y11 = some r3 := H
   unfold ic at H
   refine af ?_;obtain ⟨x13, e14, H⟩ := bK H;refine aa ?_;show AR _ _ _ _ _ [0, 1, 2, 3] _;refine zm rfl <| zm rfl <| aq rfl rfl (aD rfl sx rfl (rQ F a1 y11 x13 e14) ?_);refine za rfl <| ag <| aL ?_;obtain rfl := ap H;exact And.intro rfl (Exists.intro _ (Exists.intro _ ⟨aH rfl (.refl _), aI [] rfl, rfl, rfl⟩))
  ·replace H := ba c5 H;refine aC <| bk (X := Unit) (fun _ => ⟨[(0, S a1), (1, S a2)], [], []⟩) (fun _ => jZ F a1 a2 = some r3) ?_ ?_
   ·refine af ?_;obtain ⟨x15, e16, H⟩ := bK H;refine aa ?_;show AR _ _ _ _ _ [0, 1, 2] _;refine zm rfl <| zS rfl (aU ab rfl) <| aq rfl rfl (aD rfl xN rfl (w_useSet F (a1.length : Int) x15 e16) ?_);refine ag ?_;obtain ⟨g18, H⟩ := ay H;replace g18 := fn g18;refine az rfl (fun hx => bS hx g18) (fun _ => ?_);refine aC ?_;exact Exists.intro () ⟨H, aP [] (.cons (.refl _) (.cons (.refl _) (.nil _))) rfl⟩
   rintro _ H;replace H : jZ F a1 a2 = some r3 := H
   unfold jZ at H
   refine bk (X := Unit) (fun _ => ⟨[], [], []⟩) (fun _ => ka = some r3) ?_ ?_
   ·refine af <| aa ?_;show AR _ _ _ _ _ [0, 1] _;refine zm rfl <| zX rfl (na ab rfl) ?_;rintro _ _ ⟨o20, rfl, rfl⟩;refine ag <| aO <| cl (X := Nat × Nat) (fun (n23, y21) => ⟨[(1, S a2), (45, .pt o20 0)], [], [.iter o20 a1 y21]⟩) (fun (n23, y21) => kb F a1 a2 n23 y21 = some r3) (fun (n23, y21) => n23) (F, 0) H (aP [0] (.cons (.refl _) (.cons (.refl _) (.nil _))) rfl) ?_;rintro ⟨n23, y21⟩ H;obtain ⟨n23, rfl, H⟩ := cO H;replace H : kc F a1 a2 (kb F a1 a2 n23) y21 = some r3 := H
    unfold kc at H
    refine af ?_
    rcases ak (decide (y21 < a1.length)) with c24 | c24
    ·replace H := aZ c24 H;refine aa ?_;show AR _ _ _ _ _ [0, 1] _;refine zR rfl (vc (i := 0) rfl rfl c24) <| zS rfl (aF (av := .v _) rfl rfl) <| ag <| af <| az rfl (fun _ => ?_) (fun hx => bS rfl hx);refine aC <| aO <| af <| aa ?_;show AR _ _ _ _ _ [0, 1, 2, 3] _;refine zS rfl (aF (av := .v _) rfl rfl) <| zS rfl (aF (av := .v _) rfl rfl) <| za rfl <| za rfl <| ag <| af ?_;obtain ⟨x25, e26, H⟩ := bK H;refine aa ?_;show AR _ _ _ _ _ [0, 1, 2, 3] _;refine zm rfl <| zm rfl <| aq rfl rfl (aD rfl sx rfl (rQ F a2 ((pR a1 y21).1 : Int) x25 e26) ?_);refine zS rfl (dz rfl rfl) <| ag <| az rfl (fun c27 => ?_) (fun c27 => ?_)
     ·replace H := aZ c27 H;refine af <| aa ?_;show AR _ _ _ _ _ [0, 1] _;refine zm rfl <| za rfl <| ag <| aL ?_;obtain rfl := ap H;exact And.intro rfl (Exists.intro _ (Exists.intro _ ⟨aH rfl (.refl _), aI [] rfl, rfl, rfl⟩))
     ·replace H := ba c27 H;refine aC ?_;exact Exists.intro (n23, y21 + (pR a1 y21).2) ⟨H, Nat.lt_succ_self _, aP [0] (.cons (.refl _) (.cons (.refl _) (.nil _))) rfl⟩
    ·replace H := ba c24 H;refine aa ?_;show AR _ _ _ _ _ [0, 1] _;refine zR rfl (vd (i := 0) rfl rfl c24) <| zS rfl (aF (av := .v _) rfl rfl) <| ag <| af <| az rfl (fun hx => bS hx rfl) (fun _ => ?_);refine bZ ?_;exact Exists.intro () ⟨H, aP [] (.nil _) rfl⟩
   rintro _ H;replace H : ka = some r3 := H
   unfold ka at H
   refine af <| aa ?_;show AR _ _ _ _ _ [0] _;refine za rfl <| ag <| aL ?_;obtain rfl := ap H;exact And.intro rfl (Exists.intro _ (Exists.intro _ ⟨aH rfl (.refl _), aI [] rfl, rfl, rfl⟩))
theorem og (F : Nat) (s chars : List UInt8) (x : Int) (h1 : pQ chars = true) (h2 : okS s.length = true) (h3 : okS chars.length = true) (H : nS F s chars = some x) : ACalls Tryz.prog 234 [S s, S chars] [] (Ret (i64 x) []) := by
 unfold nS at H
 cases hb : (decide (8 < s.length) && decide (2 ≤ chars.length)) with
 | true =>
  rw [hb] at H
  obtain rfl := ap H
  simp only [Bool.and_eq_true, decide_eq_true_eq] at hb
  refine cL fun I A w vs hI hv => ?_
  obtain ⟨v1, r1, rfl, e1, hv⟩ := hv.out_cons;obtain ⟨v2, r2, rfl, e2, hv⟩ := hv.out_cons
  rw [hv.out_nil, fv e1, fv e2]
  refine (Tryz.strings_IndexAny_long (fun _ => by kernel_rfl) ⟨s.toArray⟩ ⟨chars.toArray⟩ w (by simpa [ByteArray.size] using hb.2) (by simpa [ByteArray.size] using hb.1) (by simpa [ByteArray.size] using gW h2) (by simpa [ByteArray.size] using gW h3) (fun j b hj => asciiB_s h1 j b (by simpa using hj))).mono fun e w' ⟨he, hw⟩ => ⟨by simpa using he, ?_⟩
  subst hw;exact ((Below.refl _ _).alloc (Nat.le_refl _) _).alloc (by simp) _
 | false => rw [hb] at H; exact wZ F s chars x H
set_option maxRecDepth 100000 in
set_option maxHeartbeats 1000000 in
theorem rB (F : Nat) (a1 : List UInt8) (a2 : List UInt8) (r3 : Bool) (H : iQ F a1 a2 = some r3) : ACalls Tryz.prog 271 [S a1, S a2] [] (Ret (B r3) []) := by
 unfold iQ at H
 refine ax Tryz.func271 rfl rfl ?_;show AW _ _ 9 _ _ _;refine af <| aa ?_;show AR _ _ _ _ _ [0] _;refine za rfl <| ag <| af ?_;obtain ⟨g4, H⟩ := ay H;obtain ⟨g5, H⟩ := ay H;obtain ⟨g6, H⟩ := ay H;obtain ⟨x7, e8, H⟩ := bK H;refine aa ?_;show AR _ _ _ _ _ [0, 1, 2, 3, 4] _;refine zm rfl <| zm rfl <| aq rfl rfl (aD rfl xS rfl (og F a1 a2 x7 g4 g5 g6 e8) ?_);refine zS rfl (dz rfl rfl) <| za rfl <| ag <| aL ?_;obtain rfl := ap H;exact And.intro rfl (Exists.intro _ (Exists.intro _ ⟨aH rfl (.refl _), aI [] rfl, rfl, rfl⟩))
end Go.Proofs.YtjegcifofddgbaaGreatDoor
namespace Go.Pv
def mz (F : Nat) (a1 : Int) : Option ((List UInt8) × Bool) :=
kN (!(((decide (a1 = 9)) || (decide (a1 = 10))) || (decide (a1 = 13)))) (mQ F a1 32 55295) fun x7 =>
kN ((!(((decide (a1 = 9)) || (decide (a1 = 10))) || (decide (a1 = 13)))) && (!x7)) (mQ F a1 57344 65533) fun x10 =>
kN (((!(((decide (a1 = 9)) || (decide (a1 = 10))) || (decide (a1 = 13)))) && (!x7)) && (!x10)) (mQ F a1 65536 1114111) fun x13 =>
bif (((!(((decide (a1 = 9)) || (decide (a1 = 10))) || (decide (a1 = 13)))) && (!x7)) && (!x10)) && (!x13) then
  some (([] : List UInt8), false)
else
  grd (okJ a1) <|
  lt (eI a1) fun x17 =>
  some (x17, true)
def mJ (F : Nat) : Option ((List (List UInt8 × Int))) :=
some ([(([97, 109, 112] : List UInt8), 38), (([108, 116] : List UInt8), 60), (([103, 116] : List UInt8), 62), (([113, 117, 111, 116] : List UInt8), 34), (([97, 112, 111, 115] : List UInt8), 39)] : List (List UInt8 × Int))
def ie (F : Nat) (a1 : List UInt8) (a2 : Int) : Option ((List UInt8) × Bool) :=
fV (!(decide (a1 = ([] : List UInt8)))) (cD 0 a1.length) <|
lt (at_ a1 0) fun x7 =>
fV (!((decide (a1 = ([] : List UInt8))) || (decide (x7 = 43)))) (cD 0 a1.length) <|
lt (at_ a1 0) fun x11 =>
fV (!(((decide (a1 = ([] : List UInt8))) || (decide (x7 = 43))) || (decide (x11 = 45)))) (cD 0 a1.length) <|
lt (at_ a1 0) fun x15 =>
kN (!((((decide (a1 = ([] : List UInt8))) || (decide (x7 = 43))) || (decide (x11 = 45))) || (decide (x15 = 95)))) (iQ F a1 ([95] : List UInt8)) fun x18 =>
bif ((((decide (a1 = ([] : List UInt8))) || (decide (x7 = 43))) || (decide (x11 = 45))) || (decide (x15 = 95))) || x18 then
  some (([] : List UInt8), false)
else
  hC (eM F a1 a2 0) fun x21 x22 =>
  bif !decide (x22 = 0) then
    some (([] : List UInt8), false)
  else
    hC (mz F x21) fun x25 x26 =>
    some (x25, x26)
def my (F : Nat) (a1 : List UInt8) : Option ((List UInt8) × Bool) :=
bnd (mJ F) fun x4 =>
bif Go.Av.mhas x4 a1 then
  lt (eI (Go.Av.mget x4 a1)) fun x7 =>
  some (x7, true)
else
  lt (Go.Lib.trimPrefix a1 ([35, 120] : List UInt8), Go.Lib.hasPrefix a1 ([35, 120] : List UInt8)) fun x9 =>
  bif x9.2 then
    hC (ie F x9.1 16) fun x12 x13 =>
    some (x12, x13)
  else
    lt (Go.Lib.trimPrefix a1 ([35] : List UInt8), Go.Lib.hasPrefix a1 ([35] : List UInt8)) fun x15 =>
    bif x15.2 then
      hC (ie F x15.1 10) fun x18 x19 =>
      some (x18, x19)
    else
      some (([] : List UInt8), false)
def kX (F : Nat) (a1 : List UInt8) : Option ((List UInt8) × Int) :=
grd (gZ 1 a1.length) <|
lt (cB a1 1) fun x5 =>
grd (pQ ([38, 59] : List UInt8)) <|
grd (okS x5.length) <|
grd (okS ([38, 59] : List UInt8).length) <|
bnd (nS F x5 ([38, 59] : List UInt8)) fun x10 =>
bnd (mQ F x10 1 10) fun x12 =>
fV (!(!x12)) (okI (x10 + 1)) <|
fV (!(!x12)) (cD (x10 + 1) a1.length) <|
lt (at_ a1 (x10 + 1)) fun x17 =>
bif (!x12) || (decide (x17 = 38)) then
  some (([] : List UInt8), 0)
else
  grd (okI (x10 + 1)) <|
  grd (qa 1 (x10 + 1) a1.length) <|
  lt (sub a1 1 (x10 + 1)) fun x22 =>
  hC (my F x22) fun x24 x25 =>
  bif !x25 then
    some (([] : List UInt8), 0)
  else
    grd (okI (x10 + 2)) <|
    some (x24, x10 + 2)
def gq (rec11 : ((List UInt8) × Bool × (List UInt8)) → Option ((List UInt8) × Bool)) (x25 : List UInt8) (x29 : List UInt8) (y35 : Bool) (y36 : List UInt8) (y37 : Int) : Option ((List UInt8) × Bool) :=
grd (okW x25 y36) <|
lt (x25 ++ y36) fun x40 =>
grd (gZ y37 x29.length) <|
lt (cB x29 y37) fun x44 =>
rec11 (x44, y35, x40)
def iH (F : Nat) (rec11 : ((List UInt8) × Bool × (List UInt8)) → Option ((List UInt8) × Bool)) (y6 : List UInt8) (y7 : Bool) (y9 : List UInt8) : Option ((List UInt8) × Bool) :=
lt (Go.Lib.indexByte y6 38) fun x13 =>
bif decide (x13 < 0) then
  grd (okW y9 y6) <|
  lt (y9 ++ y6) fun x17 =>
  grd (okW x17 []) <|
  some (x17, y7)
else
  grd (gZ x13 y6.length) <|
  lt (to_ y6 x13) fun x22 =>
  grd (okW y9 x22) <|
  lt (y9 ++ x22) fun x25 =>
  grd (gZ x13 y6.length) <|
  lt (cB y6 x13) fun x29 =>
  hC (kX F x29) fun x31 x32 =>
  bif decide (x32 = 0) then
    gq rec11 x25 x29 false ([38] : List UInt8) 1
  else
    gq rec11 x25 x29 y7 x31 x32
def fE (F : Nat) (n : Nat) : ((List UInt8) × Bool × (List UInt8)) → Option ((List UInt8) × Bool) :=
  loop (fun rec x => iH F rec x.1 x.2.1 x.2.2) n
def oA (F : Nat) (a1 : List UInt8) : Option ((List UInt8) × Bool) :=
fE F F (a1, true, [])
def dW (F : Nat) (a1 : List UInt8) : Option ((List UInt8)) :=
hC (oA F a1) fun x3 x4 =>
some x3
end Go.Pv
namespace Go.Proofs.YtjegcifofddgbaaGreatDoor
open Go.RowKit Go.Av Go.Pv
theorem ph : ∀ (args : Array Value) (w : World), (callFunc 62 args).run Tryz.prog w = .ok (.enter 62 args) w := fun _ _ => by kernel_rfl
theorem xC : ∀ (args : Array Value) (w : World), (callFunc 63 args).run Tryz.prog w = .ok (.enter 63 args) w := fun _ _ => by kernel_rfl
theorem xA : ∀ (args : Array Value) (w : World), (callFunc 64 args).run Tryz.prog w = .ok (.enter 64 args) w := fun _ _ => by kernel_rfl
theorem wq : ∀ (args : Array Value) (w : World), (callFunc 151 args).run Tryz.prog w = .ok (.enter 151 args) w := fun _ _ => by kernel_rfl
theorem qI : ∀ (args : Array Value) (w : World), (callFunc 185 args).run Tryz.prog w = .ok (.enter 185 args) w := fun _ _ => by kernel_rfl
theorem wp : ∀ (args : Array Value) (w : World), (callFunc 198 args).run Tryz.prog w = .ok (.enter 198 args) w := fun _ _ => by kernel_rfl
theorem wo : ∀ (args : Array Value) (w : World), (callFunc 234 args).run Tryz.prog w = .ok (.enter 234 args) w := fun _ _ => by kernel_rfl
theorem lH : ∀ (args : Array Value) (w : World), (callFunc 235 args).run Tryz.prog w = .ok (.enter 235 args) w := fun _ _ => by kernel_rfl
theorem wn : ∀ (args : Array Value) (w : World), (callFunc 236 args).run Tryz.prog w = .ok (.enter 236 args) w := fun _ _ => by kernel_rfl
theorem wm : ∀ (args : Array Value) (w : World), (callFunc 255 args).run Tryz.prog w = .ok (.enter 255 args) w := fun _ _ => by kernel_rfl
theorem qH : ∀ (args : Array Value) (w : World), (callFunc 256 args).run Tryz.prog w = .ok (.enter 256 args) w := fun _ _ => by kernel_rfl
theorem wl : ∀ (args : Array Value) (w : World), (callFunc 271 args).run Tryz.prog w = .ok (.enter 271 args) w := fun _ _ => by kernel_rfl
theorem wk : ∀ (args : Array Value) (w : World), (callFunc 272 args).run Tryz.prog w = .ok (.enter 272 args) w := fun _ _ => by kernel_rfl
theorem wj : ∀ (args : Array Value) (w : World), (callFunc 273 args).run Tryz.prog w = .ok (.enter 273 args) w := fun _ _ => by kernel_rfl
set_option maxRecDepth 100000 in
set_option maxHeartbeats 1000000 in
theorem vu (F : Nat) (a1 : Int) (r2 : List UInt8) (r3 : Bool) (H : mz F a1 = some (r2, r3)) : ACalls Tryz.prog 273 [i64 a1] [] (Ret (.tup [S r2, B r3]) []) := by
 unfold mz at H
 refine ax Tryz.func273 rfl rfl ?_;show AW _ _ 35 _ _ _;refine af <| aa ?_;show AR _ _ _ _ _ [0, 1] _;refine za rfl <| za rfl <| ag <| af <| aa ?_;show AR _ _ _ _ _ [0, 1, 2, 3, 4, 5, 6, 7, 8, 9, 10] _;refine zm rfl <| zS rfl (cJ rfl rfl) <| zm rfl <| bb (l := [6, 7, 8, 9, 10]) 10 (B ((decide (a1 = 9)) || (decide (a1 = 10)))) (fun K => ?_) ?_
 ·rcases ak (decide (a1 = 9)) with h4 | h4
  ·refine zF h4 rfl <| zF h4 rfl <| zS rfl (aG (av := .v _) rfl h4 rfl) ?_;exact K _ 2 _ (aA (fT h4)) rfl rfl
  ·refine zM h4 rfl <| zU h4 rfl (cJ rfl rfl) <| zS rfl (aE (av := .v _) rfl h4 rfl) ?_;exact K _ 2 _ (aA (fU h4)) rfl rfl
 refine zm rfl <| bb (l := [10]) 14 (B (((decide (a1 = 9)) || (decide (a1 = 10))) || (decide (a1 = 13)))) (fun K => ?_) ?_
 ·rcases ak ((decide (a1 = 9)) || (decide (a1 = 10))) with h5 | h5
  ·refine zF h5 rfl <| zF h5 rfl <| zS rfl (aG (av := .v _) rfl h5 rfl) ?_;exact K _ 2 _ (aA (fT h5)) rfl rfl
  ·refine zM h5 rfl <| zU h5 rfl (cJ rfl rfl) <| zS rfl (aE (av := .v _) rfl h5 rfl) ?_;exact K _ 2 _ (aA (fU h5)) rfl rfl
 refine za rfl <| ag <| af <| af ?_;obtain ⟨x7, e8, H⟩ := ft H;obtain ⟨x10, e11, H⟩ := ft H;obtain ⟨x13, e14, H⟩ := ft H;refine aa ?_;show AR _ _ _ _ _ [0, 1, 2, 3, 4, 5, 6, 7, 8, 9, 10, 11, 12, 13, 14, 15, 16] _;refine zm rfl <| zS rfl (cx rfl) <| zm rfl <| bb (l := [7, 8, 9, 10, 11, 12, 13, 14, 15, 16]) 21 (B ((!(((decide (a1 = 9)) || (decide (a1 = 10))) || (decide (a1 = 13)))) && (!x7))) (fun K => ?_) ?_
 ·rcases ak (!(((decide (a1 = 9)) || (decide (a1 = 10))) || (decide (a1 = 13)))) with h6 | h6
  ·refine zM h6 rfl <| zT h6 rfl (aD rfl lH rfl (ou F a1 32 55295 x7 (e8 h6)) ?_);refine zU h6 rfl (cx rfl) <| zS rfl (aG (av := .v _) rfl h6 rfl) ?_;exact K _ 3 _ (aA (cz h6)) rfl rfl
  ·refine zF h6 rfl <| zF h6 rfl <| zF h6 rfl <| zS rfl (aE (av := .v _) rfl h6 rfl) ?_;exact K _ 3 _ (aA (cA h6)) rfl rfl
 refine zm rfl <| bb (l := [12, 13, 14, 15, 16]) 26 (B (((!(((decide (a1 = 9)) || (decide (a1 = 10))) || (decide (a1 = 13)))) && (!x7)) && (!x10))) (fun K => ?_) ?_
 ·rcases ak ((!(((decide (a1 = 9)) || (decide (a1 = 10))) || (decide (a1 = 13)))) && (!x7)) with h9 | h9
  ·refine zM h9 rfl <| zT h9 rfl (aD rfl lH rfl (ou F a1 57344 65533 x10 (e11 h9)) ?_);refine zU h9 rfl (cx rfl) <| zS rfl (aG (av := .v _) rfl h9 rfl) ?_;exact K _ 3 _ (aA (cz h9)) rfl rfl
  ·refine zF h9 rfl <| zF h9 rfl <| zF h9 rfl <| zS rfl (aE (av := .v _) rfl h9 rfl) ?_;exact K _ 3 _ (aA (cA h9)) rfl rfl
 refine zm rfl <| bb (l := []) 31 (B ((((!(((decide (a1 = 9)) || (decide (a1 = 10))) || (decide (a1 = 13)))) && (!x7)) && (!x10)) && (!x13))) (fun K => ?_) ?_
 ·rcases ak (((!(((decide (a1 = 9)) || (decide (a1 = 10))) || (decide (a1 = 13)))) && (!x7)) && (!x10)) with h12 | h12
  ·refine zM h12 rfl <| zT h12 rfl (aD rfl lH rfl (ou F a1 65536 1114111 x13 (e14 h12)) ?_);refine zU h12 rfl (cx rfl) <| zS rfl (aG (av := .v _) rfl h12 rfl) ?_;exact K _ 3 _ (aA (cz h12)) rfl rfl
  ·refine zF h12 rfl <| zF h12 rfl <| zF h12 rfl <| zS rfl (aE (av := .v _) rfl h12 rfl) ?_;exact K _ 3 _ (aA (cA h12)) rfl rfl
 refine ag <| az rfl (fun c15 => ?_) (fun c15 => ?_)
 ·replace H := aZ c15 H;refine af <| aa ?_;show AR _ _ _ _ _ [0, 1] _;refine za rfl <| za rfl <| ag <| aL ?_;obtain ⟨rfl, rfl⟩ := dh H;exact And.intro rfl (Exists.intro _ (Exists.intro _ ⟨be rfl (.refl _) (.refl _), aI [] rfl, rfl, rfl⟩))
 ·replace H := ba c15 H;refine aC <| af ?_;obtain ⟨g16, H⟩ := ay H;obtain ⟨x17, e18, H⟩ := bg H;refine aa ?_;show AR _ _ _ _ _ [0, 1, 2, 3, 4] _;refine zm rfl <| zS rfl (sg (by kernel_rfl) eu rfl g16) <| zS rfl (nI eu ab rfl e18) <| za rfl <| za rfl <| ag <| aL ?_;obtain ⟨rfl, rfl⟩ := dh H;exact And.intro rfl (Exists.intro _ (Exists.intro _ ⟨be rfl (.refl _) (.refl _), aI [] rfl, rfl, rfl⟩))
abbrev _root_.Go.Av.eb := @Tryz.underlying272
set_option maxRecDepth 100000 in
set_option maxHeartbeats 1000000 in
theorem tM (F : Nat) (r1 : List (List UInt8 × Int)) (H : mJ F = some r1) : ACalls Tryz.prog 255 [] [] (Ret (mpI .i32 r1) []) := by
 unfold mJ at H
 refine ax Tryz.func255 rfl rfl ?_;show AW _ _ 3 _ _ _;refine af <| aa ?_;show AR _ _ _ _ _ [0] _;refine za rfl <| ag <| af <| aa ?_;show AR _ _ _ _ _ [0, 1, 2, 3, 4, 5, 6, 7] _;refine AM.make (k := .i32) rfl rfl <| cQ (s := ([97, 109, 112] : List UInt8)) rfl eb ab rfl (by decide) <| cQ (s := ([108, 116] : List UInt8)) rfl eb ab rfl (by decide) <| cQ (s := ([103, 116] : List UInt8)) rfl eb ab rfl (by decide) <| cQ (s := ([113, 117, 111, 116] : List UInt8)) rfl eb ab rfl (by decide) <| cQ (s := ([97, 112, 111, 115] : List UInt8)) rfl eb ab rfl (by decide) <| AM.done (es := ([(([97, 109, 112] : List UInt8), 38), (([108, 116] : List UInt8), 60), (([103, 116] : List UInt8), 62), (([113, 117, 111, 116] : List UInt8), 34), (([97, 112, 111, 115] : List UInt8), 39)] : List (List UInt8 × Int))) <| zS rfl (aj (av := mpI _ _) rfl) <| zS rfl (aB (av := mpI _ _) rfl) <| ag <| aL ?_;obtain rfl := ap H;exact And.intro rfl (Exists.intro _ (Exists.intro _ ⟨aH rfl (.refl _), aI [] rfl, rfl, rfl⟩))
set_option maxRecDepth 100000 in
set_option maxHeartbeats 1000000 in
theorem nZ (F : Nat) (a1 : List UInt8) (a2 : Int) (r3 : List UInt8) (r4 : Bool) (H : ie F a1 a2 = some (r3, r4)) : ACalls Tryz.prog 256 [S a1, i64 a2] [] (Ret (.tup [S r3, B r4]) []) := by
 unfold ie at H
 refine ax Tryz.func256 rfl rfl ?_;show AW _ _ 41 _ _ _;refine af <| aa ?_;show AR _ _ _ _ _ [0, 1] _;refine za rfl <| za rfl <| ag <| af <| af ?_;obtain ⟨g6, H⟩ := dq H;obtain ⟨x7, e8, H⟩ := bg H;obtain ⟨g10, H⟩ := dq H;obtain ⟨x11, e12, H⟩ := bg H;obtain ⟨g14, H⟩ := dq H;obtain ⟨x15, e16, H⟩ := bg H;obtain ⟨x18, e19, H⟩ := ft H;refine aa ?_;show AR _ _ _ _ _ [0, 1, 2, 3, 4, 5, 6, 7, 8, 9, 10, 11, 12, 13, 14, 15, 16, 17, 18, 19, 20] _;refine zm rfl <| zS rfl (eU rfl rfl) <| zm rfl <| bb (l := [7, 8, 9, 10, 11, 12, 13, 14, 15, 16, 17, 18, 19, 20]) 14 (B ((decide (a1 = ([] : List UInt8))) || (decide (x7 = 43)))) (fun K => ?_) ?_
 ·rcases ak (decide (a1 = ([] : List UInt8))) with h5 | h5
  ·refine zF h5 rfl <| zF h5 rfl <| zF h5 rfl <| zS rfl (aG (av := .v _) rfl h5 rfl) ?_;exact K _ 3 _ (aA (fT h5)) rfl rfl
  ·refine zM h5 rfl <| zU h5 rfl (bj ab rfl rfl (g6 (nf h5)) e8) <| zU h5 rfl (fw (a := x7) (b := 43) rfl rfl) <| zS rfl (aE (av := .v _) rfl h5 rfl) ?_;exact K _ 3 _ (aA (fU h5)) rfl rfl
 refine zm rfl <| bb (l := [12, 13, 14, 15, 16, 17, 18, 19, 20]) 19 (B (((decide (a1 = ([] : List UInt8))) || (decide (x7 = 43))) || (decide (x11 = 45)))) (fun K => ?_) ?_
 ·rcases ak ((decide (a1 = ([] : List UInt8))) || (decide (x7 = 43))) with h9 | h9
  ·refine zF h9 rfl <| zF h9 rfl <| zF h9 rfl <| zS rfl (aG (av := .v _) rfl h9 rfl) ?_;exact K _ 3 _ (aA (fT h9)) rfl rfl
  ·refine zM h9 rfl <| zU h9 rfl (bj ab rfl rfl (g10 (nf h9)) e12) <| zU h9 rfl (fw (a := x11) (b := 45) rfl rfl) <| zS rfl (aE (av := .v _) rfl h9 rfl) ?_;exact K _ 3 _ (aA (fU h9)) rfl rfl
 refine zm rfl <| bb (l := [17, 18, 19, 20]) 24 (B ((((decide (a1 = ([] : List UInt8))) || (decide (x7 = 43))) || (decide (x11 = 45))) || (decide (x15 = 95)))) (fun K => ?_) ?_
 ·rcases ak (((decide (a1 = ([] : List UInt8))) || (decide (x7 = 43))) || (decide (x11 = 45))) with h13 | h13
  ·refine zF h13 rfl <| zF h13 rfl <| zF h13 rfl <| zS rfl (aG (av := .v _) rfl h13 rfl) ?_;exact K _ 3 _ (aA (fT h13)) rfl rfl
  ·refine zM h13 rfl <| zU h13 rfl (bj ab rfl rfl (g14 (nf h13)) e16) <| zU h13 rfl (fw (a := x15) (b := 95) rfl rfl) <| zS rfl (aE (av := .v _) rfl h13 rfl) ?_;exact K _ 3 _ (aA (fU h13)) rfl rfl
 refine zm rfl <| bb (l := []) 28 (B (((((decide (a1 = ([] : List UInt8))) || (decide (x7 = 43))) || (decide (x11 = 45))) || (decide (x15 = 95))) || x18)) (fun K => ?_) ?_
 ·rcases ak ((((decide (a1 = ([] : List UInt8))) || (decide (x7 = 43))) || (decide (x11 = 45))) || (decide (x15 = 95))) with h17 | h17
  ·refine zF h17 rfl <| zF h17 rfl <| zS rfl (aG (av := .v _) rfl h17 rfl) ?_;exact K _ 2 _ (aA (fT h17)) rfl rfl
  ·refine zM h17 rfl <| zT h17 rfl (aD rfl wl rfl (rB F a1 ([95] : List UInt8) x18 (e19 (nf h17))) ?_);refine zS rfl (aE (av := .v _) rfl h17 rfl) ?_;exact K _ 2 _ (aA (fU h17)) rfl rfl
 refine ag <| az rfl (fun c20 => ?_) (fun c20 => ?_)
 ·replace H := aZ c20 H;refine af <| aa ?_;show AR _ _ _ _ _ [0, 1] _;refine za rfl <| za rfl <| ag <| aL ?_;obtain ⟨rfl, rfl⟩ := dh H;exact And.intro rfl (Exists.intro _ (Exists.intro _ ⟨be rfl (.refl _) (.refl _), aI [] rfl, rfl, rfl⟩))
 ·replace H := ba c20 H;refine aC <| af ?_;obtain ⟨x21, x22, e23, H⟩ := cZ H;refine aa ?_;show AR _ _ _ _ _ [0, 1, 2, 3, 4, 5, 6, 7] _;refine zm rfl <| zm rfl <| aq rfl rfl (aD rfl wk rfl (nh F a1 a2 0 x21 x22 e23) ?_);refine zS rfl (aj (av := .tup _) rfl) <| zS rfl (aF (av := .v _) rfl rfl) <| zS rfl (aF (av := eAny _ _) rfl rfl) <| za rfl <| zS rfl (aB (av := eAny _ _) rfl) <| ag <| af <| af <| aa ?_;show AR _ _ _ _ _ [0, 1] _;refine zS rfl (aj (av := eAny _ _) rfl) <| zS rfl (vJ cR rfl rfl) <| ag <| az rfl (fun c24 => ?_) (fun c24 => ?_)
  ·replace H := aZ c24 H;refine af <| aa ?_;show AR _ _ _ _ _ [0, 1] _;refine za rfl <| za rfl <| ag <| aL ?_;obtain ⟨rfl, rfl⟩ := dh H;exact And.intro rfl (Exists.intro _ (Exists.intro _ ⟨be rfl (.refl _) (.refl _), aI [] rfl, rfl, rfl⟩))
  ·replace H := ba c24 H;refine aC <| af ?_;obtain ⟨x25, x26, e27, H⟩ := cZ H;refine aa ?_;show AR _ _ _ _ _ [0, 1, 2, 3, 4, 5] _;refine zm rfl <| aq rfl rfl (aD rfl wj rfl (vu F x21 x25 x26 e27) ?_);refine zS rfl (aF (av := .v _) rfl rfl) <| zS rfl (aF (av := .v _) rfl rfl) <| za rfl <| za rfl <| ag <| aL ?_;obtain ⟨rfl, rfl⟩ := dh H;exact And.intro rfl (Exists.intro _ (Exists.intro _ ⟨be rfl (.refl _) (.refl _), aI [] rfl, rfl, rfl⟩))
set_option maxRecDepth 100000 in
set_option maxHeartbeats 1000000 in
theorem vr (F : Nat) (a1 : List UInt8) (r2 : List UInt8) (r3 : Bool) (H : my F a1 = some (r2, r3)) : ACalls Tryz.prog 236 [S a1] [] (Ret (.tup [S r2, B r3]) []) := by
 unfold my at H
 refine ax Tryz.func236 rfl rfl ?_;show AW _ _ 39 _ _ _;refine af <| aa ?_;show AR _ _ _ _ _ [0, 1] _;refine za rfl <| za rfl <| ag <| af <| af ?_;obtain ⟨x4, e5, H⟩ := bK H;refine aa ?_;show AR _ _ _ _ _ [0, 1, 2, 3, 4, 5, 6, 7] _;refine aq rfl rfl (aD rfl wm rfl (tM F x4 e5) ?_);refine zm rfl <| zS rfl (xo eb ab (fun _ => by kernel_rfl) rfl rfl) <| zS rfl (aj (av := .tup _) rfl) <| zS rfl (aF (av := .v _) rfl rfl) <| zS rfl (aF (av := .v _) rfl rfl) <| za rfl <| za rfl <| ag <| af <| aa ?_;show AR _ _ _ _ _ [0] _;refine zm rfl <| ag <| az rfl (fun c6 => ?_) (fun c6 => ?_)
 ·replace H := aZ c6 H;refine af ?_;obtain ⟨x7, e8, H⟩ := bg H;refine aa ?_;show AR _ _ _ _ _ [0, 1, 2, 3] _;refine zm rfl <| zS rfl (nI eu ab rfl e8) <| za rfl <| za rfl <| ag <| aL ?_;obtain ⟨rfl, rfl⟩ := dh H;exact And.intro rfl (Exists.intro _ (Exists.intro _ ⟨be rfl (.refl _) (.refl _), aI [] rfl, rfl, rfl⟩))
 ·replace H := ba c6 H;refine aC <| af <| af ?_;obtain ⟨x9, e10, H⟩ := bg H;refine aa ?_;show AR _ _ _ _ _ [0, 1, 2, 3, 4, 5, 6] _;refine zm rfl <| aq rfl rfl (aD rfl qI rfl (show ACalls _ _ _ [] (Ret (.tup [S x9.1, B x9.2]) []) from by subst e10; exact nd a1 ([35, 120] : List UInt8)) ?_);refine zS rfl (aj (av := .tup _) rfl) <| zS rfl (aF (av := .v _) rfl rfl) <| zS rfl (aF (av := .v _) rfl rfl) <| za rfl <| za rfl <| ag <| af <| aa ?_;show AR _ _ _ _ _ [0] _;refine zm rfl <| ag <| az rfl (fun c11 => ?_) (fun c11 => ?_)
  ·replace H := aZ c11 H;refine af ?_;obtain ⟨x12, x13, e14, H⟩ := cZ H;refine aa ?_;show AR _ _ _ _ _ [0, 1, 2, 3, 4, 5] _;refine zm rfl <| aq rfl rfl (aD rfl qH rfl (nZ F x9.1 16 x12 x13 e14) ?_);refine zS rfl (aF (av := .v _) rfl rfl) <| zS rfl (aF (av := .v _) rfl rfl) <| za rfl <| za rfl <| ag <| aL ?_;obtain ⟨rfl, rfl⟩ := dh H;exact And.intro rfl (Exists.intro _ (Exists.intro _ ⟨be rfl (.refl _) (.refl _), aI [] rfl, rfl, rfl⟩))
  ·replace H := ba c11 H;refine aC <| af <| af ?_;obtain ⟨x15, e16, H⟩ := bg H;refine aa ?_;show AR _ _ _ _ _ [0, 1, 2, 3, 4, 5, 6] _;refine zm rfl <| aq rfl rfl (aD rfl qI rfl (show ACalls _ _ _ [] (Ret (.tup [S x15.1, B x15.2]) []) from by subst e16; exact nd a1 ([35] : List UInt8)) ?_);refine zS rfl (aj (av := .tup _) rfl) <| zS rfl (aF (av := .v _) rfl rfl) <| zS rfl (aF (av := .v _) rfl rfl) <| za rfl <| za rfl <| ag <| af <| aa ?_;show AR _ _ _ _ _ [0] _;refine zm rfl <| ag <| az rfl (fun c17 => ?_) (fun c17 => ?_)
   ·replace H := aZ c17 H;refine af ?_;obtain ⟨x18, x19, e20, H⟩ := cZ H;refine aa ?_;show AR _ _ _ _ _ [0, 1, 2, 3, 4, 5] _;refine zm rfl <| aq rfl rfl (aD rfl qH rfl (nZ F x15.1 10 x18 x19 e20) ?_);refine zS rfl (aF (av := .v _) rfl rfl) <| zS rfl (aF (av := .v _) rfl rfl) <| za rfl <| za rfl <| ag <| aL ?_;obtain ⟨rfl, rfl⟩ := dh H;exact And.intro rfl (Exists.intro _ (Exists.intro _ ⟨be rfl (.refl _) (.refl _), aI [] rfl, rfl, rfl⟩))
   ·replace H := ba c17 H;refine aC <| af <| aa ?_;show AR _ _ _ _ _ [0, 1] _;refine za rfl <| za rfl <| ag <| aL ?_;obtain ⟨rfl, rfl⟩ := dh H;exact And.intro rfl (Exists.intro _ (Exists.intro _ ⟨be rfl (.refl _) (.refl _), aI [] rfl, rfl, rfl⟩))
set_option maxRecDepth 100000 in
set_option maxHeartbeats 1000000 in
theorem tN (F : Nat) (a1 : List UInt8) (r2 : List UInt8) (r3 : Int) (H : kX F a1 = some (r2, r3)) : ACalls Tryz.prog 198 [S a1] [] (Ret (.tup [S r2, i64 r3]) []) := by
 unfold kX at H
 refine ax Tryz.func198 rfl rfl ?_;show AW _ _ 33 _ _ _;refine af <| aa ?_;show AR _ _ _ _ _ [0, 1] _;refine za rfl <| za rfl <| ag <| af ?_;obtain ⟨g4, H⟩ := ay H;obtain ⟨x5, e6, H⟩ := bg H;obtain ⟨g7, H⟩ := ay H;obtain ⟨g8, H⟩ := ay H;obtain ⟨g9, H⟩ := ay H;obtain ⟨x10, e11, H⟩ := bK H;refine aa ?_;show AR _ _ _ _ _ [0, 1, 2, 3] _;refine zm rfl <| zS rfl (cI ab rfl rfl g4 e6) <| aq rfl rfl (aD rfl wo rfl (og F x5 ([38, 59] : List UInt8) x10 g7 g8 g9 e11) ?_);refine za rfl <| ag <| af <| af ?_;obtain ⟨x12, e13, H⟩ := bK H;obtain ⟨g15, H⟩ := dq H;obtain ⟨g16, H⟩ := dq H;obtain ⟨x17, e18, H⟩ := bg H;refine aa ?_;show AR _ _ _ _ _ [0, 1, 2, 3, 4, 5, 6, 7, 8, 9] _;refine zm rfl <| aq rfl rfl (aD rfl lH rfl (ou F x10 1 10 x12 e13) ?_);refine zS rfl (cx rfl) <| zm rfl <| bb (l := []) 19 (B ((!x12) || (decide (x17 = 38)))) (fun K => ?_) ?_
 ·rcases ak (!x12) with h14 | h14
  ·refine zF h14 rfl <| zF h14 rfl <| zF h14 rfl <| zF h14 rfl <| zF h14 rfl <| zS rfl (aG (av := .v _) rfl h14 rfl) ?_;exact K _ 5 _ (aA (fT h14)) rfl rfl
  ·refine zM h14 rfl <| zM h14 rfl <| zU h14 rfl (bu rfl rfl (g15 (nf h14))) <| zU h14 rfl (bj ab rfl rfl (g16 (nf h14)) e18) <| zU h14 rfl (fw (a := x17) (b := 38) rfl rfl) <| zS rfl (aE (av := .v _) rfl h14 rfl) ?_;exact K _ 5 _ (aA (fU h14)) rfl rfl
 refine ag <| az rfl (fun c19 => ?_) (fun c19 => ?_)
 ·replace H := aZ c19 H;refine af <| aa ?_;show AR _ _ _ _ _ [0, 1] _;refine za rfl <| za rfl <| ag <| aL ?_;obtain ⟨rfl, rfl⟩ := dh H;exact And.intro rfl (Exists.intro _ (Exists.intro _ ⟨be rfl (.refl _) (.refl _), aI [] rfl, rfl, rfl⟩))
 ·replace H := ba c19 H;refine aC <| af ?_;obtain ⟨g20, H⟩ := ay H;obtain ⟨g21, H⟩ := ay H;obtain ⟨x22, e23, H⟩ := bg H;obtain ⟨x24, x25, e26, H⟩ := cZ H;refine aa ?_;show AR _ _ _ _ _ [0, 1, 2, 3, 4, 5, 6, 7, 8, 9] _;refine zm rfl <| zm rfl <| zS rfl (bu rfl rfl g20) <| zS rfl (kA ab rfl rfl rfl g21 e23) <| aq rfl rfl (aD rfl wn rfl (vr F x22 x24 x25 e26) ?_);refine zS rfl (aj (av := .tup _) rfl) <| zS rfl (aF (av := .v _) rfl rfl) <| zS rfl (aF (av := .v _) rfl rfl) <| za rfl <| za rfl <| ag <| af <| af <| aa ?_;show AR _ _ _ _ _ [0, 1] _;refine zm rfl <| zS rfl (cx rfl) <| ag <| az rfl (fun c27 => ?_) (fun c27 => ?_)
  ·replace H := aZ c27 H;refine af <| aa ?_;show AR _ _ _ _ _ [0, 1] _;refine za rfl <| za rfl <| ag <| aL ?_;obtain ⟨rfl, rfl⟩ := dh H;exact And.intro rfl (Exists.intro _ (Exists.intro _ ⟨be rfl (.refl _) (.refl _), aI [] rfl, rfl, rfl⟩))
  ·replace H := ba c27 H;refine aC <| af ?_;obtain ⟨g28, H⟩ := ay H;refine aa ?_;show AR _ _ _ _ _ [0, 1, 2, 3, 4] _;refine zm rfl <| zm rfl <| zS rfl (bu rfl rfl g28) <| za rfl <| za rfl <| ag <| aL ?_;obtain ⟨rfl, rfl⟩ := dh H;exact And.intro rfl (Exists.intro _ (Exists.intro _ ⟨be rfl (.refl _) (.refl _), aI [] rfl, rfl, rfl⟩))
set_option maxRecDepth 100000 in
set_option maxHeartbeats 1000000 in
theorem vt (F : Nat) (a1 : List UInt8) (r2 : List UInt8) (r3 : Bool) (H : oA F a1 = some (r2, r3)) : ACalls Tryz.prog 151 [S a1] [] (Ret (.tup [S r2, B r3]) []) := by
 unfold oA at H
 refine ax Tryz.func151 rfl rfl ?_;show AW _ _ 36 _ _ _;refine af <| aa ?_;show AR _ _ _ _ _ [0, 1] _;refine za rfl <| za rfl <| ag <| af <| aa ?_;show AR _ _ _ _ _ [0] _;refine zX rfl (jV (zs := [(.pointer none), .slice none 0 0]) (by kernel_rfl)) ?_;rintro _ _ ⟨o4, rfl, rfl⟩;refine ag ?_
 refine eB 0 1 1 5 rfl rfl fun t5 => ?_
 show AW _ _ _ _ _ ⟨_, _, [.tok t5 5, .obj o4 [.v (.pointer none), slE Enc.byte [] (some t5)], .ty o4 91]⟩;refine af <| aa ?_;show AR _ _ _ _ _ [0] _;refine za rfl <| ag <| aO <| cl (X := Nat × (List UInt8) × Bool × AV × (List UInt8) × Nat) (fun (n12, y6, y7, t8, y9, t10) => ⟨[(0, S y6), (4, .pt o4 0), (5, B y7)], [], [.obj o4 [t8, slE Enc.byte y9 (some t10)], .ty o4 91, .tok t10 5]⟩) (fun (n12, y6, y7, t8, y9, t10) => fE F n12 (y6, y7, y9) = some (r2, r3) ∧ (t8 = .v (.pointer none) ∨ t8 = .pt o4 0)) (fun (n12, y6, y7, t8, y9, t10) => n12) (F, a1, true, (.v (.pointer none)), [], t5) ⟨H, .inl rfl⟩ (aP [1, 1, 0] (.cons (.refl _) (.cons (.refl _) (.cons (.refl _) (.nil _)))) rfl) ?_;rintro ⟨n12, y6, y7, t8, y9, t10⟩ ⟨H, ht8⟩;obtain ⟨n12, rfl, H⟩ := cO H;replace H : iH F (fE F n12) y6 y7 y9 = some (r2, r3) := H
 unfold iH at H
 refine aO <| af ?_;obtain ⟨x13, e14, H⟩ := bg H;refine aa ?_;show AR _ _ _ _ _ [0, 1, 2] _;refine zm rfl <| aq rfl rfl (aD rfl xA rfl (show ACalls _ _ _ [] (Ret (i64 x13) []) from by subst e14; exact dx y6 38) ?_);refine za rfl <| ag <| af <| af <| aa ?_;show AR _ _ _ _ _ [0, 1] _;refine zm rfl <| zS rfl (bC rfl rfl) <| ag <| az rfl (fun c15 => ?_) (fun c15 => ?_)
 ·replace H := aZ c15 H;refine af ?_;obtain ⟨g16, H⟩ := ay H;obtain ⟨x17, e18, H⟩ := bg H;refine aa ?_;show AR _ _ _ _ _ [0, 1] _;refine zm rfl <| aq rfl rfl (bI [0, 0, 0] rfl ph rfl (bN  o4 (t8) ht8 y9 y6 t10 (jc g16)) rfl (fun c A' h => by cases h.1) ?_)
  rintro av A' ⟨h, t19, rfl⟩; cases h
  rw [e18]
  refine ag <| af ?_;obtain ⟨g20, H⟩ := ay H;refine aa ?_;show AR _ _ _ _ _ [0, 1, 2, 3] _;refine aq rfl rfl (bI [0, 1] rfl xC rfl (fh  o4 (.pt o4 0) x17 t19 (pO g20)) rfl (fun c A' h => by cases h.1) ?_)
  rintro av A' ⟨h, rfl⟩; cases h
  refine zm rfl <| za rfl <| za rfl <| ag <| aL ?_;obtain ⟨rfl, rfl⟩ := dh H;exact And.intro rfl (Exists.intro _ (Exists.intro _ ⟨be rfl (.refl _) (.refl _), aI [] rfl, rfl, rfl⟩))
 ·replace H := ba c15 H;refine aC <| af ?_;obtain ⟨g21, H⟩ := ay H;obtain ⟨x22, e23, H⟩ := bg H;obtain ⟨g24, H⟩ := ay H;obtain ⟨x25, e26, H⟩ := bg H;refine aa ?_;show AR _ _ _ _ _ [0, 1, 2, 3] _;refine zm rfl <| zm rfl <| zS rfl (ld ab rfl rfl g21 e23) <| aq rfl rfl (bI [0, 0, 0] rfl ph rfl (bN  o4 (t8) ht8 y9 x22 t10 (jc g24)) rfl (fun c A' h => by cases h.1) ?_)
  rintro av A' ⟨h, t27, rfl⟩; cases h
  rw [e26]
  refine ag <| af ?_;obtain ⟨g28, H⟩ := ay H;obtain ⟨x29, e30, H⟩ := bg H;refine aa ?_;show AR _ _ _ _ _ [0, 1, 2, 3] _;refine zm rfl <| zm rfl <| zS rfl (cI ab rfl rfl g28 e30) <| za rfl <| ag <| af ?_;obtain ⟨x31, x32, e33, H⟩ := cZ H;refine aa ?_;show AR _ _ _ _ _ [0, 1, 2, 3, 4, 5, 6] _;refine zm rfl <| aq rfl rfl (aD rfl wp rfl (tN F x29 x31 x32 e33) ?_);refine zS rfl (aj (av := .tup _) rfl) <| zS rfl (aF (av := .v _) rfl rfl) <| zS rfl (aF (av := .v _) rfl rfl) <| za rfl <| za rfl <| ag <| bk (X := Bool × (List UInt8) × Int) (fun (y35, y36, y37) => ⟨[(0, S x29), (4, .pt o4 0), (5, B y35), (7, S y36), (8, i64 y37)], [], [.obj o4 [.pt o4 0, slE Enc.byte x25 (some t27)], .ty o4 91, .tok t27 5]⟩) (fun (y35, y36, y37) => gq (fE F n12) x25 x29 y35 y36 y37 = some (r2, r3)) ?_ ?_
  ·refine af <| aa ?_;show AR _ _ _ _ _ [0, 1] _;refine zm rfl <| zS rfl (cJ rfl rfl) <| ag <| az rfl (fun c34 => ?_) (fun c34 => ?_)
   ·replace H := aZ c34 H;refine aa ?_;show AR _ _ _ _ _ [0, 1, 2] _;refine za rfl <| za rfl <| za rfl <| ag ?_;exact Exists.intro (false, ([38] : List UInt8), 1) ⟨H, aP [0, 0, 0] (.cons (.refl _) (.cons (.refl _) (.cons (.refl _) (.cons (.refl _) (.cons (.refl _) (.nil _)))))) rfl⟩
   ·replace H := ba c34 H;refine aC ?_;exact Exists.intro (y7, x31, x32) ⟨H, aP [0, 0, 0] (.cons (.refl _) (.cons (.refl _) (.cons (.refl _) (.cons (.refl _) (.cons (.refl _) (.nil _)))))) rfl⟩
  rintro ⟨y35, y36, y37⟩ H;replace H : gq (fE F n12) x25 x29 y35 y36 y37 = some (r2, r3) := H
  unfold gq at H
  refine af ?_;obtain ⟨g39, H⟩ := ay H;obtain ⟨x40, e41, H⟩ := bg H;refine aa ?_;show AR _ _ _ _ _ [0, 1] _;refine zm rfl <| aq rfl rfl (bI [0, 0, 0] rfl ph rfl (bN  o4 (.pt o4 0) (.inr rfl) x25 y36 t27 (jc g39)) rfl (fun c A' h => by cases h.1) ?_)
  rintro av A' ⟨h, t42, rfl⟩; cases h
  rw [e41]
  refine ag ?_;obtain ⟨g43, H⟩ := ay H;obtain ⟨x44, e45, H⟩ := bg H;refine aa ?_;show AR _ _ _ _ _ [0, 1, 2, 3] _;refine zm rfl <| zm rfl <| zS rfl (cI ab rfl rfl g43 e45) <| za rfl <| ag ?_;exact Exists.intro (n12, x44, y35, (.pt o4 0), x40, t42) ⟨⟨H, .inr rfl⟩, Nat.lt_succ_self _, aP [0, 0, 0] (.cons (.refl _) (.cons (.refl _) (.cons (.refl _) (.nil _)))) rfl⟩
set_option maxRecDepth 100000 in
set_option maxHeartbeats 1000000 in
theorem tQ (F : Nat) (a1 : List UInt8) (r2 : List UInt8) (H : dW F a1 = some r2) : ACalls Tryz.prog 99 [S a1] [] (Ret (S r2) []) := by
 unfold dW at H
 refine ax Tryz.func99 rfl rfl ?_;show AW _ _ 11 _ _ _;refine af <| aa ?_;show AR _ _ _ _ _ [0] _;refine za rfl <| ag <| af ?_;obtain ⟨x3, x4, e5, H⟩ := cZ H;refine aa ?_;show AR _ _ _ _ _ [0, 1, 2, 3, 4, 5, 6] _;refine zm rfl <| aq rfl rfl (aD rfl wq rfl (vt F a1 x3 x4 e5) ?_);refine zS rfl (aj (av := .tup _) rfl) <| zS rfl (aF (av := .v _) rfl rfl) <| zS rfl (aF (av := .v _) rfl rfl) <| za rfl <| za rfl <| ag <| af <| aa ?_;show AR _ _ _ _ _ [0, 1] _;refine zm rfl <| za rfl <| ag <| aL ?_;obtain rfl := ap H;exact And.intro rfl (Exists.intro _ (Exists.intro _ ⟨aH rfl (.refl _), aI [] rfl, rfl, rfl⟩))
end Go.Proofs.YtjegcifofddgbaaGreatDoor
namespace Go.Pv
def oV : List UInt8 := [97, 98, 99, 100, 101, 102, 103, 104, 105, 106, 107, 108, 109, 110, 111, 112, 113, 114, 115, 116, 117, 118, 119, 120, 121, 122, 65, 66, 67, 68, 69, 70, 71, 72, 73, 74, 75, 76, 77, 78, 79, 80, 81, 82, 83, 84, 85, 86, 87, 88, 89, 90, 48, 49, 50, 51, 52, 53, 54, 55, 56, 57]
def mF : List UInt8 := [97, 98, 99, 100, 101, 102, 103, 104, 105, 106, 107, 108, 109, 110, 111, 112, 113, 114, 115, 116, 117, 118, 119, 120, 121, 122, 65, 66, 67, 68, 69, 70, 71, 72, 73, 74, 75, 76, 77, 78, 79, 80, 81, 82, 83, 84, 85, 86, 87, 88, 89, 90, 47, 33]
def fB (F : Nat) : Option ((List (List UInt8 × Int))) :=
some ([(([112] : List UInt8), 1), (([98, 114] : List UInt8), 1), (([100, 105, 118] : List UInt8), 1), (([108, 105] : List UInt8), 1), (([116, 114] : List UInt8), 1), (([117, 108] : List UInt8), 1), (([111, 108] : List UInt8), 1), (([116, 97, 98, 108, 101] : List UInt8), 1), (([104, 49] : List UInt8), 1), (([104, 50] : List UInt8), 1), (([104, 51] : List UInt8), 1), (([104, 52] : List UInt8), 1), (([104, 53] : List UInt8), 1), (([104, 54] : List UInt8), 1)] : List (List UInt8 × Int))
def kd (y17 : List (List UInt8)) : Option ((List (List UInt8))) :=
some y17
def mU (F : Nat) (a2 : List UInt8) (a3 : List (List UInt8)) (a6 : List UInt8) : Option ((List (List UInt8))) :=
grd (okW a6 []) <|
grd (bt (a3.length + ([a6] : List (List UInt8)).length)) <|
lt (a3 ++ ([a6] : List (List UInt8))) fun x13 =>
kd x13
def fJ (x28 : List UInt8) (y50 : List UInt8) : Option ((List UInt8) × (List UInt8)) :=
some (x28, y50)
def gu (x28 : List UInt8) (x31 : List UInt8 × List UInt8 × Bool) (y45 : Int) : Option ((List UInt8) × (List UInt8)) :=
grd (gZ y45 x31.2.1.length) <|
lt (cB x31.2.1 y45) fun x48 =>
fJ x28 x48
def gt (F : Nat) (a2 : List UInt8) (x13 : List UInt8) (y23 : Int) : Option ((List UInt8) × (List UInt8)) :=
grd (gZ y23 x13.length) <|
lt (to_ x13 y23) fun x26 =>
bnd (gm F x26) fun x28 =>
grd (okS a2.length) <|
lt (Go.Lib.cut a2 ([62] : List UInt8)) fun x31 =>
bif (!(decide ((x13.length : Int) < (a2.length : Int) - 1))) && ((decide (x28 = ([115, 99, 114, 105, 112, 116] : List UInt8))) || (decide (x28 = ([115, 116, 121, 108, 101] : List UInt8)))) then
  bnd (gm F x31.2.1) fun x36 =>
  grd (bt (([60, 47] : List UInt8).length + x28.length)) <|
  lt (([60, 47] : List UInt8) ++ x28) fun x39 =>
  grd (okS x36.length) <|
  lt (Go.Lib.index x36 x39) fun x42 =>
  bif decide (x42 < 0) then
    gu x28 x31 (x31.2.1.length : Int)
  else
    gu x28 x31 x42
else
  fJ x28 x31.2.1
def iP (F : Nat) (a2 : List UInt8) (x13 : List UInt8) (rec17 : Int → Option ((List UInt8) × (List UInt8))) (y16 : Int) : Option ((List UInt8) × (List UInt8)) :=
bnd (gx F x13 y16 oV) fun x19 =>
bif x19 then
  grd (okI (y16 + 1)) <|
  rec17 (y16 + 1)
else
  gt F a2 x13 y16
def iO (F : Nat) (a2 : List UInt8) (x13 : List UInt8) (n : Nat) : Int → Option ((List UInt8) × (List UInt8)) :=
  loop (fun rec x => iP F a2 x13 rec x) n
def mA (F : Nat) (a2 : List UInt8) (a3 : List (List UInt8)) (a6 : List UInt8) : Option ((List UInt8) × (List UInt8)) :=
grd (gZ 1 a2.length) <|
lt (cB a2 1) fun x11 =>
lt (Go.Lib.trimPrefix x11 ([47] : List UInt8)) fun x13 =>
grd (okI ((a2.length : Int) - 1)) <|
iO F a2 x13 F 0
def fM (F : Nat) (rec19 : ((List (List UInt8 × Int)) × (List UInt8) × (List (List UInt8)) × (List UInt8)) → Option ((List (List UInt8)))) (y12 : List (List UInt8 × Int)) (y13 : List UInt8) (y14 : List (List UInt8)) (y17 : List UInt8) : Option ((List (List UInt8))) :=
lt (Go.Lib.indexByte y13 60) fun x21 =>
bif decide (x21 < 0) then
  grd (okW y17 y13) <|
  lt (y17 ++ y13) fun x25 =>
  bnd (mU F y13 y14 x25) fun x28 =>
  some x28
else
  grd (gZ x21 y13.length) <|
  lt (to_ y13 x21) fun x33 =>
  grd (okW y17 x33) <|
  lt (y17 ++ x33) fun x36 =>
  grd (gZ x21 y13.length) <|
  lt (cB y13 x21) fun x40 =>
  bnd (gx F x40 1 mF) fun x42 =>
  bif !x42 then
    grd (okW x36 ([60] : List UInt8)) <|
    lt (x36 ++ ([60] : List UInt8)) fun x46 =>
    grd (gZ 1 x40.length) <|
    lt (cB x40 1) fun x50 =>
    rec19 (y12, x50, y14, x46)
  else
    hC (mA F x40 y14 x36) fun x52 x53 =>
    bif decide (0 < Go.Av.mget y12 x52) then
      bnd (mU F x53 y14 x36) fun x56 =>
      rec19 (y12, x53, x56, [])
    else
      rec19 (y12, x53, y14, x36)
def ig (F : Nat) (n : Nat) : ((List (List UInt8 × Int)) × (List UInt8) × (List (List UInt8)) × (List UInt8)) → Option ((List (List UInt8))) :=
  loop (fun rec x => fM F rec x.1 x.2.1 x.2.2.1 x.2.2.2) n
def oI (F : Nat) (a2 : List UInt8) (a3 : List (List UInt8)) (a6 : List UInt8) : Option ((List (List UInt8))) :=
bnd (fB F) fun x60 =>
fM F (ig F F) x60 a2 a3 a6
def iA (y31 : List (List UInt8)) : Option ((List UInt8)) :=
grd (pP y31 ([10] : List UInt8)) <|
lt (Go.Av.Str.join ([10] : List UInt8) y31) fun x35 =>
some x35
def gn (y11 : Int) (rec12 : ((List (List UInt8)) × Int) → Option ((List UInt8))) (y27 : List (List UInt8)) : Option ((List UInt8)) :=
grd (okI (y11 + 1)) <|
rec12 (y27, y11 + 1)
def iB (F : Nat) (x7 : List (List UInt8)) (rec12 : ((List (List UInt8)) × Int) → Option ((List UInt8))) (y9 : List (List UInt8)) (y11 : Int) : Option ((List UInt8)) :=
bif decide (y11 < (x7.length : Int)) then
  grd (cD y11 x7.length) <|
  lt (at_ x7 y11) fun x16 =>
  bnd (dW F x16) fun x18 =>
  bnd (kg F x18) fun x20 =>
  bif !decide (x20 = ([] : List UInt8)) then
    grd (bt (y9.length + ([x20] : List (List UInt8)).length)) <|
    lt (y9 ++ ([x20] : List (List UInt8))) fun x25 =>
    gn y11 rec12 x25
  else
    gn y11 rec12 y9
else
  iA y9
def fD (F : Nat) (x7 : List (List UInt8)) (n : Nat) : ((List (List UInt8)) × Int) → Option ((List UInt8)) :=
  loop (fun rec x => iB F x7 rec x.1 x.2) n
def mw (F : Nat) (a1 : List UInt8) : Option ((List UInt8)) :=
bnd (oI F a1 [] []) fun x7 =>
fD F x7 F ([], 0)
end Go.Pv
namespace Go.Proofs.YtjegcifofddgbaaGreatDoor
open Go.RowKit Go.Av Go.Pv
theorem uw : ∀ (args : Array Value) (w : World), (callFunc 36 args).run Tryz.prog w = .ok (.enter 36 args) w := fun _ _ => by kernel_rfl
theorem uv : ∀ (args : Array Value) (w : World), (callFunc 37 args).run Tryz.prog w = .ok (.enter 37 args) w := fun _ _ => by kernel_rfl
theorem gr : ∀ (args : Array Value) (w : World), (callFunc 62 args).run Tryz.prog w = .ok (.enter 62 args) w := fun _ _ => by kernel_rfl
theorem pI : ∀ (args : Array Value) (w : World), (callFunc 63 args).run Tryz.prog w = .ok (.enter 63 args) w := fun _ _ => by kernel_rfl
theorem pH : ∀ (args : Array Value) (w : World), (callFunc 64 args).run Tryz.prog w = .ok (.enter 64 args) w := fun _ _ => by kernel_rfl
theorem uu : ∀ (args : Array Value) (w : World), (callFunc 95 args).run Tryz.prog w = .ok (.enter 95 args) w := fun _ _ => by kernel_rfl
theorem ut : ∀ (args : Array Value) (w : World), (callFunc 97 args).run Tryz.prog w = .ok (.enter 97 args) w := fun _ _ => by kernel_rfl
theorem ur : ∀ (args : Array Value) (w : World), (callFunc 98 args).run Tryz.prog w = .ok (.enter 98 args) w := fun _ _ => by kernel_rfl
theorem uq : ∀ (args : Array Value) (w : World), (callFunc 99 args).run Tryz.prog w = .ok (.enter 99 args) w := fun _ _ => by kernel_rfl
theorem sW : ∀ (args : Array Value) (w : World), (callFunc 120 args).run Tryz.prog w = .ok (.enter 120 args) w := fun _ _ => by kernel_rfl
theorem sV : ∀ (args : Array Value) (w : World), (callFunc 147 args).run Tryz.prog w = .ok (.enter 147 args) w := fun _ _ => by kernel_rfl
theorem jt : ∀ (args : Array Value) (w : World), (callFunc 148 args).run Tryz.prog w = .ok (.enter 148 args) w := fun _ _ => by kernel_rfl
theorem lz : ∀ (args : Array Value) (w : World), (callFunc 149 args).run Tryz.prog w = .ok (.enter 149 args) w := fun _ _ => by kernel_rfl
theorem ot : ∀ (args : Array Value) (w : World), (callFunc 150 args).run Tryz.prog w = .ok (.enter 150 args) w := fun _ _ => by kernel_rfl
theorem sU : ∀ (args : Array Value) (w : World), (callFunc 196 args).run Tryz.prog w = .ok (.enter 196 args) w := fun _ _ => by kernel_rfl
theorem oq : ∀ (args : Array Value) (w : World), (callFunc 197 args).run Tryz.prog w = .ok (.enter 197 args) w := fun _ _ => by kernel_rfl
abbrev _root_.Go.Av.bG := @Tryz.underlying180
set_option maxRecDepth 100000 in
set_option maxHeartbeats 1000000 in
theorem oK (F : Nat) (r1 : List (List UInt8 × Int)) (H : fB F = some r1) : ACalls Tryz.prog 147 [] [] (Ret (mpI .i64 r1) []) := by
 unfold fB at H
 refine ax Tryz.func147 rfl rfl ?_;show AW _ _ 3 _ _ _;refine af <| aa ?_;show AR _ _ _ _ _ [0] _;refine za rfl <| ag <| af <| aa ?_;show AR _ _ _ _ _ [0, 1, 2, 3, 4, 5, 6, 7, 8, 9, 10, 11, 12, 13, 14, 15, 16] _
 refine AM.make (k := .i64) rfl rfl <| cQ (s := ([112] : List UInt8)) rfl bG ab rfl (by decide) <| cQ (s := ([98, 114] : List UInt8)) rfl bG ab rfl (by decide) <| cQ (s := ([100, 105, 118] : List UInt8)) rfl bG ab rfl (by decide) <| cQ (s := ([108, 105] : List UInt8)) rfl bG ab rfl (by decide) <| cQ (s := ([116, 114] : List UInt8)) rfl bG ab rfl (by decide) <| cQ (s := ([117, 108] : List UInt8)) rfl bG ab rfl (by decide) <| cQ (s := ([111, 108] : List UInt8)) rfl bG ab rfl (by decide) <| cQ (s := ([116, 97, 98, 108, 101] : List UInt8)) rfl bG ab rfl (by decide) <| cQ (s := ([104, 49] : List UInt8)) rfl bG ab rfl (by decide) <| cQ (s := ([104, 50] : List UInt8)) rfl bG ab rfl (by decide) <| cQ (s := ([104, 51] : List UInt8)) rfl bG ab rfl (by decide) <| cQ (s := ([104, 52] : List UInt8)) rfl bG ab rfl (by decide) <| cQ (s := ([104, 53] : List UInt8)) rfl bG ab rfl (by decide) <| cQ (s := ([104, 54] : List UInt8)) rfl bG ab rfl (by decide) <| AM.done (es := ([(([112] : List UInt8), 1), (([98, 114] : List UInt8), 1), (([100, 105, 118] : List UInt8), 1), (([108, 105] : List UInt8), 1), (([116, 114] : List UInt8), 1), (([117, 108] : List UInt8), 1), (([111, 108] : List UInt8), 1), (([116, 97, 98, 108, 101] : List UInt8), 1), (([104, 49] : List UInt8), 1), (([104, 50] : List UInt8), 1), (([104, 51] : List UInt8), 1), (([104, 52] : List UInt8), 1), (([104, 53] : List UInt8), 1), (([104, 54] : List UInt8), 1)] : List (List UInt8 × Int))) <| zS rfl (aj (av := mpI _ _) rfl) <| zS rfl (aB (av := mpI _ _) rfl) <| ag <| aL ?_
 obtain rfl := ap H;exact And.intro rfl (Exists.intro _ (Exists.intro _ ⟨aH rfl (.refl _), aI [] rfl, rfl, rfl⟩))
set_option maxRecDepth 100000 in
set_option maxHeartbeats 1000000 in
theorem mB (F : Nat) (o1 : Nat) (a2 : List UInt8) (a3 : List (List UInt8)) (t4 : Nat) (a5 : AV) (ha5 : a5 = .v (.pointer none) ∨ a5 = .pt o1 2) (a6 : List UInt8) (t7 : Nat) (r8 : List (List UInt8)) (H : mU F a2 a3 a6 = some r8) : ACalls Tryz.prog 148 [.pt o1 0] [.obj o1 [S a2, slE Enc.str a3 (some t4), a5, slE Enc.byte a6 (some t7)], .ty o1 123, .tok t4 9, .tok t7 5] (fun e A' => e = .ret (.tup []) ∧ ∃ t9, A' = [.obj o1 [S a2, slE Enc.str r8 (some t9), .v (.pointer none), ah], .ty o1 123, .tok t9 9]) := by
 unfold mU at H
 refine ax Tryz.func148 rfl rfl ?_;show AW _ _ 19 _ _ _;refine bk (X := (List (List UInt8)) × Nat) (fun (y17, t18) => ⟨[(0, .pt o1 0)], [], [.obj o1 [S a2, slE Enc.str y17 (some t18), a5, slE Enc.byte a6 (some t7)], .ty o1 123, .tok t18 9]⟩) (fun (y17, t18) => kd y17 = some r8) ?_ ?_
 ·obtain ⟨g10, H⟩ := ay H;obtain ⟨g12, H⟩ := ay H;obtain ⟨x13, e14, H⟩ := bg H;refine bz (by kernel_rfl) ?_;show AI _ _ _ _ _ 14 (Array.replicate 14 false) _;refine zk 0 rfl (aj (av := .pt _ _) rfl) ?_;show AI _ _ _ _ _ _ #[true, false, false, false, false, false, false, false, false, false, false, false, false, false] _;refine zk 1 rfl (aj (av := .pt _ _) rfl) ?_;show AI _ _ _ _ _ _ #[true, true, false, false, false, false, false, false, false, false, false, false, false, false] _;refine zk 2 rfl (ar rfl) ?_;show AI _ _ _ _ _ _ #[true, true, true, false, false, false, false, false, false, false, false, false, false, false] _;refine zk 3 rfl (al (n := 1) (by kernel_rfl) rfl) ?_;show AI _ _ _ _ _ _ #[true, true, true, true, false, false, false, false, false, false, false, false, false, false] _;refine zk 5 rfl (aj (av := .pt _ _) rfl) ?_;show AI _ _ _ _ _ _ #[true, true, true, true, false, true, false, false, false, false, false, false, false, false] _;refine zk 6 rfl (ar rfl) ?_;show AI _ _ _ _ _ _ #[true, true, true, true, false, true, true, false, false, false, false, false, false, false] _;refine zk 7 rfl (al (n := 2) (by kernel_rfl) rfl) ?_;show AI _ _ _ _ _ _ #[true, true, true, true, false, true, true, true, false, false, false, false, false, false] _;refine dE (i := 4) (j := 8) (by kernel_rfl) rfl rfl rfl rfl ?_ ?_
  ·refine aW rfl (am (i := 0) ao rfl rfl rfl rfl) ?_;show AI _ _ _ _ _ _ #[true, true, true, true, true, true, true, true, false, false, false, false, false, false] _;refine aX (i := 8) (by kernel_rfl) rfl rfl <| AIO.callAt [0, 2] rfl pI rfl (lL (S a2) (slE Enc.str a3 (some t4)) o1 (a5) a6 t7 (pO g10)) rfl (fun c A' h => by cases h.1) ?_
   rintro av A' ⟨h, rfl⟩; cases h
   show AI _ _ _ _ _ _ #[true, true, true, true, true, true, true, true, true, false, false, false, false, false] _;refine aX (i := 9) (by kernel_rfl) rfl rfl <| aW rfl (bQ (E := Enc.str) (bytes := 16) (xs := [.tmp 10]) (l := ([a6] : List (List UInt8))) ao (by kernel_rfl) rfl rfl (by decide) rfl rfl) ?_;show AI _ _ _ _ _ _ #[true, true, true, true, true, true, true, true, true, true, false, false, false, false] _;refine aX (i := 10) (by kernel_rfl) rfl rfl <| cf rfl (cE (E := Enc.str) (bytes := 16) 2 ao ao rfl (by kernel_rfl) rfl rfl rfl rfl g12 e14) ?_;rintro _ _ ⟨t11, rfl, rfl⟩;show AI _ _ _ _ _ _ #[true, true, true, true, true, true, true, true, true, true, true, false, false, false] _;refine zk 11 rfl (ar rfl) ?_;show AI _ _ _ _ _ _ #[true, true, true, true, true, true, true, true, true, true, true, true, false, false] _;refine zk 12 rfl (al (n := 1) (by kernel_rfl) rfl) ?_;show AI _ _ _ _ _ _ #[true, true, true, true, true, true, true, true, true, true, true, true, true, false] _;refine aX (i := 13) (by kernel_rfl) rfl rfl <| cr (aw (i := 0) (c := slE _ _ _) (by kernel_rfl) rfl rfl rfl rfl (ai rfl)) ?_;show AI _ _ _ _ _ _ #[true, true, true, true, true, true, true, true, true, true, true, true, true, true] _;refine bE rfl ?_;exact Exists.intro (x13, t11) ⟨H, aP [0, 0, 0] (.cons (.refl _) (.nil _)) rfl⟩
  ·refine AIO.callAt [0, 2] rfl pI rfl (lL (S a2) (slE Enc.str a3 (some t4)) o1 (a5) a6 t7 (pO g10)) rfl (fun c A' h => by cases h.1) ?_
   rintro av A' ⟨h, rfl⟩; cases h
   show AI _ _ _ _ _ _ #[true, true, true, true, false, true, true, true, true, false, false, false, false, false] _;refine dE (i := 4) (j := 9) (by kernel_rfl) rfl rfl rfl rfl ?_ ?_
   ·refine aW rfl (am (i := 0) ao rfl rfl rfl rfl) ?_;show AI _ _ _ _ _ _ #[true, true, true, true, true, true, true, true, true, false, false, false, false, false] _;refine aX (i := 9) (by kernel_rfl) rfl rfl <| aW rfl (bQ (E := Enc.str) (bytes := 16) (xs := [.tmp 10]) (l := ([a6] : List (List UInt8))) ao (by kernel_rfl) rfl rfl (by decide) rfl rfl) ?_;show AI _ _ _ _ _ _ #[true, true, true, true, true, true, true, true, true, true, false, false, false, false] _;refine aX (i := 10) (by kernel_rfl) rfl rfl <| cf rfl (cE (E := Enc.str) (bytes := 16) 2 ao ao rfl (by kernel_rfl) rfl rfl rfl rfl g12 e14) ?_;rintro _ _ ⟨t15, rfl, rfl⟩;show AI _ _ _ _ _ _ #[true, true, true, true, true, true, true, true, true, true, true, false, false, false] _;refine zk 11 rfl (ar rfl) ?_;show AI _ _ _ _ _ _ #[true, true, true, true, true, true, true, true, true, true, true, true, false, false] _;refine zk 12 rfl (al (n := 1) (by kernel_rfl) rfl) ?_;show AI _ _ _ _ _ _ #[true, true, true, true, true, true, true, true, true, true, true, true, true, false] _;refine aX (i := 13) (by kernel_rfl) rfl rfl <| cr (aw (i := 0) (c := slE _ _ _) (by kernel_rfl) rfl rfl rfl rfl (ai rfl)) ?_;show AI _ _ _ _ _ _ #[true, true, true, true, true, true, true, true, true, true, true, true, true, true] _;refine bE rfl ?_;exact Exists.intro (x13, t15) ⟨H, aP [0, 0, 0] (.cons (.refl _) (.nil _)) rfl⟩
   ·refine aW rfl (bQ (E := Enc.str) (bytes := 16) (xs := [.tmp 10]) (l := ([a6] : List (List UInt8))) ao (by kernel_rfl) rfl rfl (by decide) rfl rfl) ?_;show AI _ _ _ _ _ _ #[true, true, true, true, false, true, true, true, true, true, false, false, false, false] _;refine aX (i := 4) (by kernel_rfl) rfl rfl <| aW rfl (am (i := 0) ao rfl rfl rfl rfl) ?_;show AI _ _ _ _ _ _ #[true, true, true, true, true, true, true, true, true, true, false, false, false, false] _;refine aX (i := 10) (by kernel_rfl) rfl rfl <| cf rfl (cE (E := Enc.str) (bytes := 16) 2 ao ao rfl (by kernel_rfl) rfl rfl rfl rfl g12 e14) ?_;rintro _ _ ⟨t16, rfl, rfl⟩;show AI _ _ _ _ _ _ #[true, true, true, true, true, true, true, true, true, true, true, false, false, false] _;refine zk 11 rfl (ar rfl) ?_;show AI _ _ _ _ _ _ #[true, true, true, true, true, true, true, true, true, true, true, true, false, false] _;refine zk 12 rfl (al (n := 1) (by kernel_rfl) rfl) ?_;show AI _ _ _ _ _ _ #[true, true, true, true, true, true, true, true, true, true, true, true, true, false] _;refine aX (i := 13) (by kernel_rfl) rfl rfl <| cr (aw (i := 0) (c := slE _ _ _) (by kernel_rfl) rfl rfl rfl rfl (ai rfl)) ?_;show AI _ _ _ _ _ _ #[true, true, true, true, true, true, true, true, true, true, true, true, true, true] _;refine bE rfl ?_;exact Exists.intro (x13, t16) ⟨H, aP [0, 0, 0] (.cons (.refl _) (.nil _)) rfl⟩
 rintro ⟨y17, t18⟩ H;replace H : kd y17 = some r8 := H
 unfold kd at H
 refine aa ?_;show AR _ _ _ _ _ [0, 1, 2, 3] _;refine zS rfl (aj (av := .pt _ _) rfl) <| zS rfl (ar rfl) <| zS rfl (al (n := 2) (by kernel_rfl) rfl) <| aq rfl rfl (bI [0] rfl sU rfl (qp (S a2) (slE Enc.str y17 (some t18)) o1 (a5) (slE Enc.byte a6 (some t7))) rfl (fun c A' h => by cases h.1) ?_)
 rintro av A' ⟨h, rfl⟩; cases h
 refine ag ?_;obtain rfl := ap H;exact And.intro rfl (Exists.intro _ (Exists.intro _ ⟨ck rfl, aI [0, 0, 0] rfl, rfl, t18, rfl⟩))
set_option maxRecDepth 100000 in
set_option maxHeartbeats 1000000 in
theorem qw (F : Nat) (o1 : Nat) (a2 : List UInt8) (a3 : List (List UInt8)) (t4 : Nat) (a5 : AV) (ha5 : a5 = .v (.pointer none) ∨ a5 = .pt o1 2) (a6 : List UInt8) (t7 : Nat) (r8 : List UInt8) (r9 : List UInt8) (H : mA F a2 a3 a6 = some (r8, r9)) : ACalls Tryz.prog 150 [.pt o1 0] [.obj o1 [S a2, slE Enc.str a3 (some t4), a5, slE Enc.byte a6 (some t7)], .ty o1 123, .tok t4 9, .tok t7 5] (fun e A' => e = .ret (S r8) ∧ A' = [.obj o1 [S r9, slE Enc.str a3 (some t4), a5, slE Enc.byte a6 (some t7)], .ty o1 123, .tok t4 9, .tok t7 5]) := by
 unfold mA at H
 refine ax Tryz.func150 rfl rfl ?_;show AW _ _ 79 _ _ _;refine af <| aa ?_;show AR _ _ _ _ _ [0] _;refine za rfl <| ag <| af ?_;obtain ⟨g10, H⟩ := ay H;obtain ⟨x11, e12, H⟩ := bg H;obtain ⟨x13, e14, H⟩ := bg H;refine aa ?_;show AR _ _ _ _ _ [0, 1, 2, 3, 4, 5, 6] _;refine zS rfl (aj (av := .pt _ _) rfl) <| zS rfl (ar rfl) <| zS rfl (al (n := 0) (by kernel_rfl) rfl) <| zR rfl (am (i := 0) ab rfl rfl rfl rfl) <| zS rfl (cI ab rfl rfl g10 e12) <| aq rfl rfl (aD rfl uv rfl (show ACalls _ _ _ [] (Ret (S x13) []) from by subst e14; exact lZ x11 ([47] : List UInt8)) ?_);refine za rfl <| ag <| af ?_;obtain ⟨g15, H⟩ := ay H;refine aa ?_;show AR _ _ _ _ _ [0, 1, 2, 3, 4, 5, 6, 7, 8, 9] _;refine zm rfl <| zS rfl (aU ab rfl) <| zS rfl (aj (av := .pt _ _) rfl) <| zS rfl (ar rfl) <| zS rfl (al (n := 0) (by kernel_rfl) rfl) <| zR rfl (am (i := 0) ab rfl rfl rfl rfl) <| zS rfl (aU ab rfl) <| zS rfl (eL rfl rfl g15) <| zS rfl (bC rfl rfl) <| za rfl <| ag <| af <| aa ?_;show AR _ _ _ _ _ [0] _
 refine za rfl <| ag <| bk (X := Int) (fun y23 => ⟨[(0, .pt o1 0), (3, S x13), (4, B (decide ((x13.length : Int) < (a2.length : Int) - 1))), (5, i64 y23)], [], [.obj o1 [S a2, slE Enc.str a3 (some t4), a5, slE Enc.byte a6 (some t7)], .ty o1 123, .tok t4 9, .tok t7 5]⟩) (fun y23 => gt F a2 x13 y23 = some (r8, r9)) ?_ ?_
 ·refine aO <| cl (X := Nat × Int) (fun (n18, y16) => ⟨[(0, .pt o1 0), (3, S x13), (4, B (decide ((x13.length : Int) < (a2.length : Int) - 1))), (5, i64 y16)], [], [.obj o1 [S a2, slE Enc.str a3 (some t4), a5, slE Enc.byte a6 (some t7)], .ty o1 123, .tok t4 9, .tok t7 5]⟩) (fun (n18, y16) => iO F a2 x13 n18 y16 = some (r8, r9)) (fun (n18, y16) => n18) (F, 0) H (aP [0, 0, 0, 0] (.cons (.refl _) (.cons (.refl _) (.cons (.refl _) (.cons (.refl _) (.nil _))))) rfl) ?_;rintro ⟨n18, y16⟩ H;obtain ⟨n18, rfl, H⟩ := cO H;replace H : iP F a2 x13 (iO F a2 x13 n18) y16 = some (r8, r9) := H
  unfold iP at H
  refine af <| af ?_;obtain ⟨x19, e20, H⟩ := bK H;refine aa ?_;show AR _ _ _ _ _ [0, 1, 2] _;refine zm rfl <| zm rfl <| aq rfl rfl (aD rfl lz rfl (mb F x13 y16 oV x19 e20) ?_);refine ag <| az rfl (fun c21 => ?_) (fun c21 => ?_)
  ·replace H := aZ c21 H;refine aC <| aO ?_;obtain ⟨g22, H⟩ := ay H;refine aa ?_;show AR _ _ _ _ _ [0, 1, 2] _;refine zm rfl <| zS rfl (bu rfl rfl g22) <| za rfl <| ag ?_;exact Exists.intro (n18, y16 + 1) ⟨H, Nat.lt_succ_self _, aP [0, 0, 0, 0] (.cons (.refl _) (.cons (.refl _) (.cons (.refl _) (.cons (.refl _) (.nil _))))) rfl⟩
  ·replace H := ba c21 H;refine bZ ?_;exact Exists.intro y16 ⟨H, aP [0, 0, 0, 0] (.cons (.refl _) (.cons (.refl _) (.cons (.refl _) (.cons (.refl _) (.nil _))))) rfl⟩
 rintro y23 H;replace H : gt F a2 x13 y23 = some (r8, r9) := H
 unfold gt at H
 refine af ?_;obtain ⟨g25, H⟩ := ay H;obtain ⟨x26, e27, H⟩ := bg H;obtain ⟨x28, e29, H⟩ := bK H;refine aa ?_;show AR _ _ _ _ _ [0, 1, 2, 3, 4] _;refine zm rfl <| zm rfl <| zS rfl (ld ab rfl rfl g25 e27) <| aq rfl rfl (aD rfl oq rfl (mX F x26 x28 e29) ?_);refine za rfl <| ag <| af ?_;obtain ⟨g30, H⟩ := ay H;obtain ⟨x31, e32, H⟩ := bg H;refine aa ?_;show AR _ _ _ _ _ [0, 1, 2, 3, 4, 5, 6, 7, 8, 9, 10, 11, 12] _;refine zS rfl (aj (av := .pt _ _) rfl) <| zS rfl (aj (av := .pt _ _) rfl) <| zS rfl (ar rfl) <| zS rfl (al (n := 0) (by kernel_rfl) rfl) <| zR rfl (am (i := 0) ab rfl rfl rfl rfl) <| aq rfl rfl (aD rfl uw rfl (show ACalls _ _ _ [] (Ret (.tup [S x31.1, S x31.2.1, B x31.2.2]) []) from by subst e32; exact tk a2 ([62] : List UInt8) (gW g30)) ?_);refine zS rfl (aj (av := .tup _) rfl) <| zS rfl (aF (av := .v _) rfl rfl) <| zS rfl (aF (av := .v _) rfl rfl) <| zS rfl (aF (av := .v _) rfl rfl) <| zS rfl (ar rfl) <| zS rfl (al (n := 0) (by kernel_rfl) rfl) <| s0 rfl rfl (aw (i := 0) (c := .v _) (by kernel_rfl) rfl rfl rfl rfl (ai rfl)) <| ag <| bk (X := (List UInt8)) (fun y50 => ⟨[(6, S x28)], [], [.obj o1 [S y50, slE Enc.str a3 (some t4), a5, slE Enc.byte a6 (some t7)], .ty o1 123, .tok t4 9, .tok t7 5]⟩) (fun y50 => fJ x28 y50 = some (r8, r9)) ?_ ?_
 ·refine af <| aa ?_;show AR _ _ _ _ _ [0, 1, 2, 3, 4, 5, 6, 7, 8, 9] _;refine zm rfl <| zS rfl (cx rfl) <| zm rfl <| bb (l := []) 53 (B ((!(decide ((x13.length : Int) < (a2.length : Int) - 1))) && ((decide (x28 = ([115, 99, 114, 105, 112, 116] : List UInt8))) || (decide (x28 = ([115, 116, 121, 108, 101] : List UInt8)))))) (fun K => ?_) ?_
  ·rcases ak (!(decide ((x13.length : Int) < (a2.length : Int) - 1))) with h33 | h33
   ·refine zM h33 rfl <| zU h33 rfl (eU rfl rfl) <| zM h33 rfl <| bb (l := [9]) 52 (B ((decide (x28 = ([115, 99, 114, 105, 112, 116] : List UInt8))) || (decide (x28 = ([115, 116, 121, 108, 101] : List UInt8))))) (fun K => ?_) ?_
    ·rcases ak (decide (x28 = ([115, 99, 114, 105, 112, 116] : List UInt8))) with h34 | h34
     ·refine zF h34 rfl <| zF h34 rfl <| zU h33 rfl (aG (av := .v _) rfl h34 rfl) ?_;exact K _ 2 _ (aA (fT h34)) rfl rfl
     ·refine zM h34 rfl <| zU h34 rfl (eU rfl rfl) <| zU h33 rfl (aE (av := .v _) rfl h34 rfl) ?_;exact K _ 2 _ (aA (fU h34)) rfl rfl
    refine zS rfl (aG (av := .v _) rfl h33 rfl) ?_;exact K _ 4 _ (aA (cz h33)) rfl rfl
   ·refine zF h33 rfl <| zF h33 rfl <| zF h33 rfl <| gU rfl rfl rfl rfl rfl <| gU rfl rfl rfl rfl rfl <| zF h33 rfl <| zS rfl (aE (av := .v _) rfl h33 rfl) ?_;exact K _ 6 _ (aA (cA h33)) rfl rfl
  refine ag <| az rfl (fun c35 => ?_) (fun c35 => ?_)
  ·replace H := aZ c35 H;refine af ?_;obtain ⟨x36, e37, H⟩ := bK H;obtain ⟨g38, H⟩ := ay H;obtain ⟨x39, e40, H⟩ := bg H;obtain ⟨g41, H⟩ := ay H;obtain ⟨x42, e43, H⟩ := bg H;refine aa ?_;show AR _ _ _ _ _ [0, 1, 2, 3, 4, 5, 6, 7, 8] _;refine zS rfl (aj (av := .pt _ _) rfl) <| zS rfl (ar rfl) <| zS rfl (al (n := 0) (by kernel_rfl) rfl) <| zR rfl (am (i := 0) ab rfl rfl rfl rfl) <| aq rfl rfl (aD rfl oq rfl (mX F x31.2.1 x36 e37) ?_);refine zm rfl <| zS rfl (cg rfl rfl g38 e40) <| aq rfl rfl (aD rfl sW rfl (show ACalls _ _ _ [] (Ret (i64 x42) []) from by subst e43; exact xm x36 x39 (gW g41)) ?_);refine za rfl <| ag <| bk (X := Int) (fun y45 => ⟨[(0, .pt o1 0), (6, S x28), (7, i64 y45)], [], [.obj o1 [S x31.2.1, slE Enc.str a3 (some t4), a5, slE Enc.byte a6 (some t7)], .ty o1 123, .tok t4 9, .tok t7 5]⟩) (fun y45 => gu x28 x31 y45 = some (r8, r9)) ?_ ?_
   ·refine af <| aa ?_;show AR _ _ _ _ _ [0, 1] _;refine zm rfl <| zS rfl (bC rfl rfl) <| ag <| az rfl (fun c44 => ?_) (fun c44 => ?_)
    ·replace H := aZ c44 H;refine aa ?_;show AR _ _ _ _ _ [0, 1, 2, 3, 4, 5] _;refine zS rfl (aj (av := .pt _ _) rfl) <| zS rfl (ar rfl) <| zS rfl (al (n := 0) (by kernel_rfl) rfl) <| zR rfl (am (i := 0) ab rfl rfl rfl rfl) <| zS rfl (aU ab rfl) <| za rfl <| ag ?_;exact Exists.intro (x31.2.1.length : Int) ⟨H, aP [0, 0, 0, 0] (.cons (.refl _) (.cons (.refl _) (.cons (.refl _) (.nil _)))) rfl⟩
    ·replace H := ba c44 H;refine aC ?_;exact Exists.intro x42 ⟨H, aP [0, 0, 0, 0] (.cons (.refl _) (.cons (.refl _) (.cons (.refl _) (.nil _)))) rfl⟩
   rintro y45 H;replace H : gu x28 x31 y45 = some (r8, r9) := H
   unfold gu at H
   obtain ⟨g47, H⟩ := ay H;obtain ⟨x48, e49, H⟩ := bg H;refine aa ?_;show AR _ _ _ _ _ [0, 1, 2, 3, 4, 5, 6, 7, 8, 9] _;refine zS rfl (aj (av := .pt _ _) rfl) <| zS rfl (aj (av := .pt _ _) rfl) <| zS rfl (ar rfl) <| zS rfl (al (n := 0) (by kernel_rfl) rfl) <| zR rfl (am (i := 0) ab rfl rfl rfl rfl) <| zm rfl <| zS rfl (cI ab rfl rfl g47 e49) <| zS rfl (ar rfl) <| zS rfl (al (n := 0) (by kernel_rfl) rfl) <| s0 rfl rfl (aw (i := 0) (c := .v _) (by kernel_rfl) rfl rfl rfl rfl (ai rfl)) <| ag ?_;exact Exists.intro x48 ⟨H, aP [0, 0, 0, 0] (.cons (.refl _) (.nil _)) rfl⟩
  ·replace H := ba c35 H;refine aC ?_;exact Exists.intro x31.2.1 ⟨H, aP [0, 0, 0, 0] (.cons (.refl _) (.nil _)) rfl⟩
 rintro y50 H;replace H : fJ x28 y50 = some (r8, r9) := H
 unfold fJ at H
 refine af <| aa ?_;show AR _ _ _ _ _ [0, 1] _;refine zm rfl <| za rfl <| ag <| aL ?_;obtain ⟨rfl, rfl⟩ := dh H;exact And.intro rfl (Exists.intro _ (Exists.intro _ ⟨aH rfl (.refl _), aI [0, 0, 0, 0] rfl, rfl, rfl⟩))
set_option maxRecDepth 100000 in
set_option maxHeartbeats 1000000 in
theorem xa (F : Nat) (o1 : Nat) (a2 : List UInt8) (a3 : List (List UInt8)) (t4 : Nat) (a5 : AV) (ha5 : a5 = .v (.pointer none) ∨ a5 = .pt o1 2) (a6 : List UInt8) (t7 : Nat) (r8 : List (List UInt8)) (H : oI F a2 a3 a6 = some r8) : ACalls Tryz.prog 98 [.pt o1 0] [.obj o1 [S a2, slE Enc.str a3 (some t4), a5, slE Enc.byte a6 (some t7)], .ty o1 123, .tok t4 9, .tok t7 5] (fun e A' => e = .ret (slE Enc.str r8 none) ∧ A' = []) := by
 unfold oI at H
 refine ax Tryz.func98 rfl rfl ?_;show AW _ _ 71 _ _ _;refine af <| aa ?_;show AR _ _ _ _ _ [0] _;refine za rfl <| ag <| AW.jumps (X := Nat × (List (List UInt8 × Int)) × (List UInt8) × (List (List UInt8)) × Nat × AV × (List UInt8) × Nat) 0 (fun (n20, y12, y13, y14, t15, t16, y17, t18) => ⟨[(0, .pt o1 0), (3, mpI .i64 y12)], [], [.obj o1 [S y13, slE Enc.str y14 (some t15), t16, slE Enc.byte y17 (some t18)], .ty o1 123, .tok t15 9, .tok t18 5]⟩) (fun (n20, y12, y13, y14, t15, t16, y17, t18) => ig F n20 (y12, y13, y14, y17) = some r8 ∧ (t16 = .v (.pointer none) ∨ t16 = .pt o1 2)) (fun (n20, y12, y13, y14, t15, t16, y17, t18) => n20) rfl ?_ ?_
 ·refine af ?_;obtain ⟨x60, e61, H⟩ := bK H;refine aa ?_;show AR _ _ _ _ _ [0, 1] _;refine aq rfl rfl (aD rfl sV rfl (oK F x60 e61) ?_);refine zS rfl (aB (av := mpI _ _) rfl) <| ag <| AW.gen (X := (List (List UInt8 × Int)) × (List UInt8) × (List (List UInt8)) × Nat × AV × (List UInt8) × Nat) (fun (y12, y13, y14, t15, t16, y17, t18) => ⟨[(0, .pt o1 0), (3, mpI .i64 y12)], [], [.obj o1 [S y13, slE Enc.str y14 (some t15), t16, slE Enc.byte y17 (some t18)], .ty o1 123, .tok t15 9, .tok t18 5]⟩) (fun (y12, y13, y14, t15, t16, y17, t18) => fM F (ig F F) y12 y13 y14 y17 = some r8 ∧ (t16 = .v (.pointer none) ∨ t16 = .pt o1 2)) (x60, a2, a3, t4, a5, a6, t7) ⟨H, ha5⟩ (aP [0, 0, 0, 0] (.cons (.refl _) (.cons (.refl _) (.nil _))) rfl) ?_;rintro ⟨y12, y13, y14, t15, t16, y17, t18⟩ ⟨H, ht16⟩
  unfold fM at H
  refine af <| AW.label <| af ?_;obtain ⟨x62, e63, H⟩ := bg H;refine aa ?_;show AR _ _ _ _ _ [0, 1, 2, 3, 4, 5] _;refine zS rfl (aj (av := .pt _ _) rfl) <| zS rfl (ar rfl) <| zS rfl (al (n := 0) (by kernel_rfl) rfl) <| zR rfl (am (i := 0) ab rfl rfl rfl rfl) <| aq rfl rfl (aD rfl pH rfl (show ACalls _ _ _ [] (Ret (i64 x62) []) from by subst e63; exact dx y13 60) ?_);refine za rfl <| ag <| af <| af <| aa ?_;show AR _ _ _ _ _ [0, 1] _;refine zm rfl <| zS rfl (bC rfl rfl) <| ag <| az rfl (fun c64 => ?_) (fun c64 => ?_)
  ·replace H := aZ c64 H;refine af ?_;obtain ⟨g65, H⟩ := ay H;obtain ⟨x66, e67, H⟩ := bg H;refine bz (by kernel_rfl) ?_;show AI _ _ _ _ _ 8 (Array.replicate 8 false) _;refine zk 0 rfl (aj (av := .pt _ _) rfl) ?_;show AI _ _ _ _ _ _ #[true, false, false, false, false, false, false, false] _;refine zk 1 rfl (ar rfl) ?_;show AI _ _ _ _ _ _ #[true, true, false, false, false, false, false, false] _;refine zk 2 rfl (al (n := 2) (by kernel_rfl) rfl) ?_;show AI _ _ _ _ _ _ #[true, true, true, false, false, false, false, false] _;refine zk 3 rfl (aj (av := .pt _ _) rfl) ?_;show AI _ _ _ _ _ _ #[true, true, true, true, false, false, false, false] _;refine zk 4 rfl (ar rfl) ?_;show AI _ _ _ _ _ _ #[true, true, true, true, true, false, false, false] _;refine zk 5 rfl (al (n := 0) (by kernel_rfl) rfl) ?_;show AI _ _ _ _ _ _ #[true, true, true, true, true, true, false, false] _;refine aX (i := 6) (by kernel_rfl) rfl rfl <| aW rfl (am (i := 0) ab rfl rfl rfl rfl) ?_;show AI _ _ _ _ _ _ #[true, true, true, true, true, true, true, false] _;refine aX (i := 7) (by kernel_rfl) rfl rfl <| AIO.callAt [0, 0, 1] rfl gr rfl (cY (S y13) (slE Enc.str y14 (some t15)) o1 (t16) ht16 y17 y13 t18 (jc g65)) rfl (fun c A' h => by cases h.1) ?_
   rintro av A' ⟨h, t68, rfl⟩; cases h
   rw [e67]
   show AI _ _ _ _ _ _ #[true, true, true, true, true, true, true, true] _;refine bE rfl <| af ?_;obtain ⟨x69, e70, H⟩ := bK H;refine aa ?_;show AR _ _ _ _ _ [0, 1] _;refine zS rfl (aj (av := .pt _ _) rfl) <| aq rfl rfl (bI [0, 0, 1, 0] rfl jt rfl (mB F o1 y13 y14 t15 (.pt o1 2) (.inr rfl) x66 t68 x69 e70) rfl (fun c A' h => by cases h.1) ?_)
   rintro av A' ⟨h, t71, rfl⟩; cases h
   refine ag ?_
   refine eB 0 3 1 5 rfl rfl fun t72 => ?_
   show AW _ _ _ _ _ ⟨_, _, [.tok t72 5, .obj o1 [S y13, slE Enc.str x69 (some t71), .v (.pointer none), slE Enc.byte [] (some t72)], .ty o1 123, .tok t71 9]⟩;refine af <| aa ?_;show AR _ _ _ _ _ [0, 1, 2, 3, 4] _;refine zS rfl (aj (av := .pt _ _) rfl) <| zS rfl (ar rfl) <| zS rfl (al (n := 1) (by kernel_rfl) rfl) <| zR rfl (am (i := 1) ao rfl rfl rfl rfl) <| zS rfl (aB (av := slE _ _ _) rfl) <| ag <| aL ?_;obtain rfl := ap H;exact And.intro rfl (Exists.intro _ (Exists.intro _ ⟨aH rfl (.tok _ _ _), aI [] rfl, rfl, rfl⟩))
  ·replace H := ba c64 H;refine aC <| af ?_;obtain ⟨g73, H⟩ := ay H;obtain ⟨x74, e75, H⟩ := bg H;obtain ⟨g76, H⟩ := ay H;obtain ⟨x77, e78, H⟩ := bg H;refine bz (by kernel_rfl) ?_;show AI _ _ _ _ _ 10 (Array.replicate 10 false) _;refine zk 0 rfl (aj (av := .pt _ _) rfl) ?_;show AI _ _ _ _ _ _ #[true, false, false, false, false, false, false, false, false, false] _;refine zk 1 rfl (ar rfl) ?_;show AI _ _ _ _ _ _ #[true, true, false, false, false, false, false, false, false, false] _;refine zk 2 rfl (al (n := 2) (by kernel_rfl) rfl) ?_;show AI _ _ _ _ _ _ #[true, true, true, false, false, false, false, false, false, false] _;refine zk 3 rfl (aj (av := .pt _ _) rfl) ?_;show AI _ _ _ _ _ _ #[true, true, true, true, false, false, false, false, false, false] _;refine zk 4 rfl (ar rfl) ?_;show AI _ _ _ _ _ _ #[true, true, true, true, true, false, false, false, false, false] _;refine zk 5 rfl (al (n := 0) (by kernel_rfl) rfl) ?_;show AI _ _ _ _ _ _ #[true, true, true, true, true, true, false, false, false, false] _;refine zk 7 rfl (mv rfl) ?_;show AI _ _ _ _ _ _ #[true, true, true, true, true, true, false, true, false, false] _;refine aX (i := 6) (by kernel_rfl) rfl rfl <| aW rfl (am (i := 0) ab rfl rfl rfl rfl) ?_;show AI _ _ _ _ _ _ #[true, true, true, true, true, true, true, true, false, false] _;refine zk 8 rfl (ld ab rfl rfl g73 e75) ?_;show AI _ _ _ _ _ _ #[true, true, true, true, true, true, true, true, true, false] _
   refine aX (i := 9) (by kernel_rfl) rfl rfl <| AIO.callAt [0, 0, 1] rfl gr rfl (cY (S y13) (slE Enc.str y14 (some t15)) o1 (t16) ht16 y17 x74 t18 (jc g76)) rfl (fun c A' h => by cases h.1) ?_
   rintro av A' ⟨h, t79, rfl⟩; cases h
   rw [e78]
   show AI _ _ _ _ _ _ #[true, true, true, true, true, true, true, true, true, true] _;refine bE rfl <| af ?_;obtain ⟨g80, H⟩ := ay H;obtain ⟨x81, e82, H⟩ := bg H;refine aa ?_;show AR _ _ _ _ _ [0, 1, 2, 3, 4, 5, 6, 7, 8, 9] _;refine zS rfl (aj (av := .pt _ _) rfl) <| zS rfl (aj (av := .pt _ _) rfl) <| zS rfl (ar rfl) <| zS rfl (al (n := 0) (by kernel_rfl) rfl) <| zR rfl (am (i := 0) ab rfl rfl rfl rfl) <| zm rfl <| zS rfl (cI ab rfl rfl g80 e82) <| zS rfl (ar rfl) <| zS rfl (al (n := 0) (by kernel_rfl) rfl) <| s0 rfl rfl (aw (i := 0) (c := .v _) (by kernel_rfl) rfl rfl rfl rfl (ai rfl)) <| ag <| af <| af ?_;obtain ⟨x83, e84, H⟩ := bK H;refine aa ?_;show AR _ _ _ _ _ [0, 1, 2, 3, 4, 5] _;refine zS rfl (aj (av := .pt _ _) rfl) <| zS rfl (ar rfl) <| zS rfl (al (n := 0) (by kernel_rfl) rfl) <| zR rfl (am (i := 0) ab rfl rfl rfl rfl) <| aq rfl rfl (aD rfl lz rfl (mb F x81 1 mF x83 e84) ?_);refine zS rfl (cx rfl) <| ag <| az rfl (fun c85 => ?_) (fun c85 => ?_)
   ·replace H := aZ c85 H;refine af ?_;obtain ⟨g86, H⟩ := ay H;obtain ⟨x87, e88, H⟩ := bg H;refine aa ?_;show AR _ _ _ _ _ [0, 1, 2, 3] _;refine zS rfl (aj (av := .pt _ _) rfl) <| zS rfl (ar rfl) <| zS rfl (al (n := 2) (by kernel_rfl) rfl) <| aq rfl rfl (bI [0, 0, 0] rfl gr rfl (cY (S x81) (slE Enc.str y14 (some t15)) o1 (.pt o1 2) (.inr rfl) x77 ([60] : List UInt8) t79 (jc g86)) rfl (fun c A' h => by cases h.1) ?_)
    rintro av A' ⟨h, t89, rfl⟩; cases h
    rw [e88]
    refine ag <| af ?_;obtain ⟨g90, H⟩ := ay H;obtain ⟨x91, e92, H⟩ := bg H;refine aa ?_;show AR _ _ _ _ _ [0, 1, 2, 3, 4, 5, 6, 7, 8] _;refine zS rfl (aj (av := .pt _ _) rfl) <| zS rfl (aj (av := .pt _ _) rfl) <| zS rfl (ar rfl) <| zS rfl (al (n := 0) (by kernel_rfl) rfl) <| zR rfl (am (i := 0) ab rfl rfl rfl rfl) <| zS rfl (cI ab rfl rfl g90 e92) <| zS rfl (ar rfl) <| zS rfl (al (n := 0) (by kernel_rfl) rfl) <| s0 rfl rfl (aw (i := 0) (c := .v _) (by kernel_rfl) rfl rfl rfl rfl (ai rfl)) <| ag <| AW.goto ?_;exact And.intro rfl (Exists.intro (F, y12, x91, y14, t15, (.pt o1 2), x87, t89) ⟨⟨H, .inr rfl⟩, aP [0, 0, 1, 0] (.cons (.refl _) (.cons (.refl _) (.nil _))) rfl⟩)
   ·replace H := ba c85 H;refine aC <| af <| af ?_;obtain ⟨x93, x94, e95, H⟩ := cZ H;refine aa ?_;show AR _ _ _ _ _ [0, 1, 2, 3, 4] _;refine zS rfl (aj (av := mpI _ _) rfl) <| zS rfl (aj (av := .pt _ _) rfl) <| aq rfl rfl (bI [0, 0, 1, 0] rfl ot rfl (qw F o1 x81 y14 t15 (.pt o1 2) (.inr rfl) x77 t79 x93 x94 e95) rfl (fun c A' h => by cases h.1) ?_)
    rintro av A' ⟨h, rfl⟩; cases h
    refine zS rfl (ve bG ab (fun _ => by kernel_rfl) rfl rfl) <| zS rfl (cS rfl rfl) <| ag <| az rfl (fun c96 => ?_) (fun c96 => ?_)
    ·replace H := aZ c96 H;obtain ⟨x97, e98, H⟩ := bK H;refine aa ?_;show AR _ _ _ _ _ [0, 1] _;refine zS rfl (aj (av := .pt _ _) rfl) <| aq rfl rfl (bI [0, 0, 0, 0] rfl jt rfl (mB F o1 x94 y14 t15 (.pt o1 2) (.inr rfl) x77 t79 x97 e98) rfl (fun c A' h => by cases h.1) ?_)
     rintro av A' ⟨h, t99, rfl⟩; cases h
     refine ag ?_
     refine eB 0 3 1 5 rfl rfl fun t100 => ?_
     show AW _ _ _ _ _ ⟨_, _, [.tok t100 5, .obj o1 [S x94, slE Enc.str x97 (some t99), .v (.pointer none), slE Enc.byte [] (some t100)], .ty o1 123, .tok t99 9]⟩;refine AW.goto ?_;exact And.intro rfl (Exists.intro (F, y12, x94, x97, t99, (.v (.pointer none)), [], t100) ⟨⟨H, .inl rfl⟩, aP [1, 1, 1, 0] (.cons (.refl _) (.cons (.refl _) (.nil _))) rfl⟩)
    ·replace H := ba c96 H;refine aC <| AW.goto ?_;exact And.intro rfl (Exists.intro (F, y12, x94, y14, t15, (.pt o1 2), x77, t79) ⟨⟨H, .inr rfl⟩, aP [0, 0, 0, 0] (.cons (.refl _) (.cons (.refl _) (.nil _))) rfl⟩)
 rintro ⟨n20, y12, y13, y14, t15, t16, y17, t18⟩ ⟨H, ht16⟩;obtain ⟨n20, rfl, H⟩ := cO H;replace H : fM F (ig F n20) y12 y13 y14 y17 = some r8 := H
 unfold fM at H
 refine af <| aC <| af ?_;obtain ⟨x21, e22, H⟩ := bg H;refine aa ?_;show AR _ _ _ _ _ [0, 1, 2, 3, 4, 5] _;refine zS rfl (aj (av := .pt _ _) rfl) <| zS rfl (ar rfl) <| zS rfl (al (n := 0) (by kernel_rfl) rfl) <| zR rfl (am (i := 0) ab rfl rfl rfl rfl) <| aq rfl rfl (aD rfl pH rfl (show ACalls _ _ _ [] (Ret (i64 x21) []) from by subst e22; exact dx y13 60) ?_);refine za rfl <| ag <| af <| af <| aa ?_;show AR _ _ _ _ _ [0, 1] _;refine zm rfl <| zS rfl (bC rfl rfl) <| ag <| az rfl (fun c23 => ?_) (fun c23 => ?_)
 ·replace H := aZ c23 H;refine af ?_;obtain ⟨g24, H⟩ := ay H;obtain ⟨x25, e26, H⟩ := bg H;refine bz (by kernel_rfl) ?_;show AI _ _ _ _ _ 8 (Array.replicate 8 false) _;refine zk 0 rfl (aj (av := .pt _ _) rfl) ?_;show AI _ _ _ _ _ _ #[true, false, false, false, false, false, false, false] _;refine zk 1 rfl (ar rfl) ?_;show AI _ _ _ _ _ _ #[true, true, false, false, false, false, false, false] _;refine zk 2 rfl (al (n := 2) (by kernel_rfl) rfl) ?_;show AI _ _ _ _ _ _ #[true, true, true, false, false, false, false, false] _;refine zk 3 rfl (aj (av := .pt _ _) rfl) ?_;show AI _ _ _ _ _ _ #[true, true, true, true, false, false, false, false] _;refine zk 4 rfl (ar rfl) ?_;show AI _ _ _ _ _ _ #[true, true, true, true, true, false, false, false] _;refine zk 5 rfl (al (n := 0) (by kernel_rfl) rfl) ?_;show AI _ _ _ _ _ _ #[true, true, true, true, true, true, false, false] _;refine aX (i := 6) (by kernel_rfl) rfl rfl <| aW rfl (am (i := 0) ab rfl rfl rfl rfl) ?_;show AI _ _ _ _ _ _ #[true, true, true, true, true, true, true, false] _;refine aX (i := 7) (by kernel_rfl) rfl rfl <| AIO.callAt [0, 0, 1] rfl gr rfl (cY (S y13) (slE Enc.str y14 (some t15)) o1 (t16) ht16 y17 y13 t18 (jc g24)) rfl (fun c A' h => by cases h.1) ?_
  rintro av A' ⟨h, t27, rfl⟩; cases h
  rw [e26]
  show AI _ _ _ _ _ _ #[true, true, true, true, true, true, true, true] _;refine bE rfl <| af ?_;obtain ⟨x28, e29, H⟩ := bK H;refine aa ?_;show AR _ _ _ _ _ [0, 1] _;refine zS rfl (aj (av := .pt _ _) rfl) <| aq rfl rfl (bI [0, 0, 1, 0] rfl jt rfl (mB F o1 y13 y14 t15 (.pt o1 2) (.inr rfl) x25 t27 x28 e29) rfl (fun c A' h => by cases h.1) ?_)
  rintro av A' ⟨h, t30, rfl⟩; cases h
  refine ag ?_
  refine eB 0 3 1 5 rfl rfl fun t31 => ?_
  show AW _ _ _ _ _ ⟨_, _, [.tok t31 5, .obj o1 [S y13, slE Enc.str x28 (some t30), .v (.pointer none), slE Enc.byte [] (some t31)], .ty o1 123, .tok t30 9]⟩;refine af <| aa ?_;show AR _ _ _ _ _ [0, 1, 2, 3, 4] _;refine zS rfl (aj (av := .pt _ _) rfl) <| zS rfl (ar rfl) <| zS rfl (al (n := 1) (by kernel_rfl) rfl) <| zR rfl (am (i := 1) ao rfl rfl rfl rfl) <| zS rfl (aB (av := slE _ _ _) rfl) <| ag <| aL ?_;obtain rfl := ap H;exact And.intro rfl (Exists.intro _ (Exists.intro _ ⟨aH rfl (.tok _ _ _), aI [] rfl, rfl, rfl⟩))
 ·replace H := ba c23 H;refine aC <| af ?_;obtain ⟨g32, H⟩ := ay H;obtain ⟨x33, e34, H⟩ := bg H;obtain ⟨g35, H⟩ := ay H;obtain ⟨x36, e37, H⟩ := bg H;refine bz (by kernel_rfl) ?_;show AI _ _ _ _ _ 10 (Array.replicate 10 false) _;refine zk 0 rfl (aj (av := .pt _ _) rfl) ?_;show AI _ _ _ _ _ _ #[true, false, false, false, false, false, false, false, false, false] _;refine zk 1 rfl (ar rfl) ?_;show AI _ _ _ _ _ _ #[true, true, false, false, false, false, false, false, false, false] _;refine zk 2 rfl (al (n := 2) (by kernel_rfl) rfl) ?_;show AI _ _ _ _ _ _ #[true, true, true, false, false, false, false, false, false, false] _;refine zk 3 rfl (aj (av := .pt _ _) rfl) ?_;show AI _ _ _ _ _ _ #[true, true, true, true, false, false, false, false, false, false] _;refine zk 4 rfl (ar rfl) ?_;show AI _ _ _ _ _ _ #[true, true, true, true, true, false, false, false, false, false] _;refine zk 5 rfl (al (n := 0) (by kernel_rfl) rfl) ?_;show AI _ _ _ _ _ _ #[true, true, true, true, true, true, false, false, false, false] _;refine zk 7 rfl (mv rfl) ?_;show AI _ _ _ _ _ _ #[true, true, true, true, true, true, false, true, false, false] _;refine aX (i := 6) (by kernel_rfl) rfl rfl <| aW rfl (am (i := 0) ab rfl rfl rfl rfl) ?_;show AI _ _ _ _ _ _ #[true, true, true, true, true, true, true, true, false, false] _;refine zk 8 rfl (ld ab rfl rfl g32 e34) ?_;show AI _ _ _ _ _ _ #[true, true, true, true, true, true, true, true, true, false] _
  refine aX (i := 9) (by kernel_rfl) rfl rfl <| AIO.callAt [0, 0, 1] rfl gr rfl (cY (S y13) (slE Enc.str y14 (some t15)) o1 (t16) ht16 y17 x33 t18 (jc g35)) rfl (fun c A' h => by cases h.1) ?_
  rintro av A' ⟨h, t38, rfl⟩; cases h
  rw [e37]
  show AI _ _ _ _ _ _ #[true, true, true, true, true, true, true, true, true, true] _;refine bE rfl <| af ?_;obtain ⟨g39, H⟩ := ay H;obtain ⟨x40, e41, H⟩ := bg H;refine aa ?_;show AR _ _ _ _ _ [0, 1, 2, 3, 4, 5, 6, 7, 8, 9] _;refine zS rfl (aj (av := .pt _ _) rfl) <| zS rfl (aj (av := .pt _ _) rfl) <| zS rfl (ar rfl) <| zS rfl (al (n := 0) (by kernel_rfl) rfl) <| zR rfl (am (i := 0) ab rfl rfl rfl rfl) <| zm rfl <| zS rfl (cI ab rfl rfl g39 e41) <| zS rfl (ar rfl) <| zS rfl (al (n := 0) (by kernel_rfl) rfl) <| s0 rfl rfl (aw (i := 0) (c := .v _) (by kernel_rfl) rfl rfl rfl rfl (ai rfl)) <| ag <| af <| af ?_;obtain ⟨x42, e43, H⟩ := bK H;refine aa ?_;show AR _ _ _ _ _ [0, 1, 2, 3, 4, 5] _;refine zS rfl (aj (av := .pt _ _) rfl) <| zS rfl (ar rfl) <| zS rfl (al (n := 0) (by kernel_rfl) rfl) <| zR rfl (am (i := 0) ab rfl rfl rfl rfl) <| aq rfl rfl (aD rfl lz rfl (mb F x40 1 mF x42 e43) ?_);refine zS rfl (cx rfl) <| ag <| az rfl (fun c44 => ?_) (fun c44 => ?_)
  ·replace H := aZ c44 H;refine af ?_;obtain ⟨g45, H⟩ := ay H;obtain ⟨x46, e47, H⟩ := bg H;refine aa ?_;show AR _ _ _ _ _ [0, 1, 2, 3] _;refine zS rfl (aj (av := .pt _ _) rfl) <| zS rfl (ar rfl) <| zS rfl (al (n := 2) (by kernel_rfl) rfl) <| aq rfl rfl (bI [0, 0, 0] rfl gr rfl (cY (S x40) (slE Enc.str y14 (some t15)) o1 (.pt o1 2) (.inr rfl) x36 ([60] : List UInt8) t38 (jc g45)) rfl (fun c A' h => by cases h.1) ?_)
   rintro av A' ⟨h, t48, rfl⟩; cases h
   rw [e47]
   refine ag <| af ?_;obtain ⟨g49, H⟩ := ay H;obtain ⟨x50, e51, H⟩ := bg H;refine aa ?_;show AR _ _ _ _ _ [0, 1, 2, 3, 4, 5, 6, 7, 8] _;refine zS rfl (aj (av := .pt _ _) rfl) <| zS rfl (aj (av := .pt _ _) rfl) <| zS rfl (ar rfl) <| zS rfl (al (n := 0) (by kernel_rfl) rfl) <| zR rfl (am (i := 0) ab rfl rfl rfl rfl) <| zS rfl (cI ab rfl rfl g49 e51) <| zS rfl (ar rfl) <| zS rfl (al (n := 0) (by kernel_rfl) rfl) <| s0 rfl rfl (aw (i := 0) (c := .v _) (by kernel_rfl) rfl rfl rfl rfl (ai rfl)) <| ag <| AW.goto ?_;exact And.intro rfl (Exists.intro (n20, y12, x50, y14, t15, (.pt o1 2), x46, t48) ⟨⟨H, .inr rfl⟩, Nat.lt_succ_self _, aP [0, 0, 1, 0] (.cons (.refl _) (.cons (.refl _) (.nil _))) rfl⟩)
  ·replace H := ba c44 H;refine aC <| af <| af ?_;obtain ⟨x52, x53, e54, H⟩ := cZ H;refine aa ?_;show AR _ _ _ _ _ [0, 1, 2, 3, 4] _;refine zS rfl (aj (av := mpI _ _) rfl) <| zS rfl (aj (av := .pt _ _) rfl) <| aq rfl rfl (bI [0, 0, 1, 0] rfl ot rfl (qw F o1 x40 y14 t15 (.pt o1 2) (.inr rfl) x36 t38 x52 x53 e54) rfl (fun c A' h => by cases h.1) ?_)
   rintro av A' ⟨h, rfl⟩; cases h
   refine zS rfl (ve bG ab (fun _ => by kernel_rfl) rfl rfl) <| zS rfl (cS rfl rfl) <| ag <| az rfl (fun c55 => ?_) (fun c55 => ?_)
   ·replace H := aZ c55 H;obtain ⟨x56, e57, H⟩ := bK H;refine aa ?_;show AR _ _ _ _ _ [0, 1] _;refine zS rfl (aj (av := .pt _ _) rfl) <| aq rfl rfl (bI [0, 0, 0, 0] rfl jt rfl (mB F o1 x53 y14 t15 (.pt o1 2) (.inr rfl) x36 t38 x56 e57) rfl (fun c A' h => by cases h.1) ?_)
    rintro av A' ⟨h, t58, rfl⟩; cases h
    refine ag ?_
    refine eB 0 3 1 5 rfl rfl fun t59 => ?_
    show AW _ _ _ _ _ ⟨_, _, [.tok t59 5, .obj o1 [S x53, slE Enc.str x56 (some t58), .v (.pointer none), slE Enc.byte [] (some t59)], .ty o1 123, .tok t58 9]⟩;refine AW.goto ?_;exact And.intro rfl (Exists.intro (n20, y12, x53, x56, t58, (.v (.pointer none)), [], t59) ⟨⟨H, .inl rfl⟩, Nat.lt_succ_self _, aP [1, 1, 1, 0] (.cons (.refl _) (.cons (.refl _) (.nil _))) rfl⟩)
   ·replace H := ba c55 H;refine aC <| AW.goto ?_;exact And.intro rfl (Exists.intro (n20, y12, x53, y14, t15, (.pt o1 2), x36, t38) ⟨⟨H, .inr rfl⟩, Nat.lt_succ_self _, aP [0, 0, 0, 0] (.cons (.refl _) (.cons (.refl _) (.nil _))) rfl⟩)
set_option maxRecDepth 100000 in
set_option maxHeartbeats 1000000 in
theorem vo (F : Nat) (a1 : List UInt8) (r2 : List UInt8) (H : mw F a1 = some r2) : ACalls Tryz.prog 47 [S a1] [] (Ret (S r2) []) := by
 unfold mw at H
 refine ax Tryz.func47 rfl rfl ?_;show AW _ _ 28 _ _ _;refine af <| aa ?_;show AR _ _ _ _ _ [0] _;refine za rfl <| ag <| af <| aa ?_;show AR _ _ _ _ _ [0] _;refine za rfl <| ag ?_
 refine ez 3 1 9 rfl fun t3 => ?_
 show AW _ _ _ _ _ ⟨(3, slE Enc.str [] (some t3)) :: _, _, _⟩;refine bk (X := (List (List UInt8)) × Nat) (fun (y31, t32) => ⟨[(3, slE Enc.str y31 (some t32))], [], [.tok t32 9]⟩) (fun (y31, t32) => iA y31 = some r2) ?_ ?_
 ·refine af ?_;obtain ⟨x7, e8, H⟩ := bK H;refine aa ?_;show AR _ _ _ _ _ [0, 1, 2, 3, 4, 5] _;refine zm rfl <| zS rfl (du (zs := [.string ⟨#[]⟩, .slice none 0 0, (.pointer none), .slice none 0 0]) (ps := [(0, 1), (1, 1), (2, 2)]) (cs := [S a1, ah, .v (.pointer none), ah]) (by kernel_rfl) rfl rfl) <| zX rfl (opX_boxT rfl (.inr ⟨_, rfl⟩)) ?_;rintro _ _ ⟨o4, rfl, rfl⟩
  refine AR.nil_objAt 0 1 1 9 rfl rfl fun t5 => ?_
  show AR _ _ _ _ _ _ ⟨_, _, [.tok t5 9, .obj o4 [S a1, slE Enc.str [] (some t5), .v (.pointer none), ah], .ty o4 123, .tok t3 9]⟩
  refine AR.nil_objAt 1 3 1 5 rfl rfl fun t6 => ?_
  show AR _ _ _ _ _ _ ⟨_, _, [.tok t6 5, .tok t5 9, .obj o4 [S a1, slE Enc.str [] (some t5), .v (.pointer none), slE Enc.byte [] (some t6)], .ty o4 123, .tok t3 9]⟩;refine aq rfl rfl (bI [2, 2, 1, 0] rfl ur rfl (xa F o4 a1 [] t5 (.v (.pointer none)) (.inl rfl) [] t6 x7 e8) rfl (fun c A' h => by cases h.1) ?_)
  rintro av A' ⟨h, rfl⟩; cases h
  refine zS rfl (aQ ao rfl) <| zm rfl <| ag <| aO <| cl (X := Nat × (List (List UInt8)) × Nat × Int) (fun (n13, y9, t10, y11) => ⟨[(3, slE Enc.str y9 (some t10)), (10, slE Enc.str x7 none), (11, i64 (x7.length : Int)), (12, i64 y11)], [], [.tok t10 9]⟩) (fun (n13, y9, t10, y11) => fD F x7 n13 (y9, y11) = some r2) (fun (n13, y9, t10, y11) => n13) (F, [], t3, 0) H (aP [0] (.cons (.refl _) (.cons (.refl _) (.cons (.refl _) (.cons (.refl _) (.nil _))))) rfl) ?_;rintro ⟨n13, y9, t10, y11⟩ H;obtain ⟨n13, rfl, H⟩ := cO H;replace H : iB F x7 (fD F x7 n13) y9 y11 = some r2 := H
  unfold iB at H
  refine af <| aa ?_;show AR _ _ _ _ _ [0] _;refine zS rfl (bC rfl rfl) <| ag <| af <| az rfl (fun c14 => ?_) (fun c14 => ?_)
  ·replace H := aZ c14 H;refine aC <| bk (X := (List (List UInt8)) × Nat) (fun (y27, t28) => ⟨[(3, slE Enc.str y27 (some t28)), (10, slE Enc.str x7 none), (11, i64 (x7.length : Int)), (12, i64 y11)], [], [.tok t28 9]⟩) (fun (y27, t28) => gn y11 (fD F x7 n13) y27 = some r2) ?_ ?_
   ·refine aO <| af ?_;obtain ⟨g15, H⟩ := ay H;obtain ⟨x16, e17, H⟩ := bg H;refine aa ?_;show AR _ _ _ _ _ [0, 1, 2] _;refine zS rfl (cn (E := Enc.str) ao (by kernel_rfl) rfl rfl g15 e17) <| zS rfl (aJ ab rfl rfl) <| za rfl <| ag <| af ?_;obtain ⟨x18, e19, H⟩ := bK H;obtain ⟨x20, e21, H⟩ := bK H;refine aa ?_;show AR _ _ _ _ _ [0, 1, 2, 3] _;refine zm rfl <| aq rfl rfl (aD rfl uq rfl (tQ F x16 x18 e19) ?_);refine aq rfl rfl (aD rfl ut rfl (qv F x18 x20 e21) ?_);refine za rfl <| ag <| af <| aa ?_;show AR _ _ _ _ _ [0, 1] _;refine zm rfl <| zS rfl (iV rfl rfl) <| ag <| az rfl (fun c22 => ?_) (fun c22 => ?_)
    ·replace H := aZ c22 H;obtain ⟨g24, H⟩ := ay H;obtain ⟨x25, e26, H⟩ := bg H;refine aa ?_;show AR _ _ _ _ _ [0, 1, 2, 3, 4] _;refine zS rfl (aj (av := slE _ _ _) rfl) <| zm rfl <| zR rfl (bQ (E := Enc.str) (bytes := 16) (xs := [.tmp 22]) (l := ([x20] : List (List UInt8))) ao (by kernel_rfl) rfl rfl (by decide) rfl rfl) <| zX rfl (cE (E := Enc.str) (bytes := 16) 0 ao ao rfl (by kernel_rfl) rfl rfl rfl rfl g24 e26) ?_;rintro _ _ ⟨t23, rfl, rfl⟩;refine zS rfl (aB (av := slE _ _ _) rfl) <| ag ?_;exact Exists.intro (x25, t23) ⟨H, aP [0] (.cons (.refl _) (.cons (.refl _) (.cons (.refl _) (.cons (.refl _) (.nil _))))) rfl⟩
    ·replace H := ba c22 H;refine aC ?_;exact Exists.intro (y9, t10) ⟨H, aP [0] (.cons (.refl _) (.cons (.refl _) (.cons (.refl _) (.cons (.refl _) (.nil _))))) rfl⟩
   rintro ⟨y27, t28⟩ H;replace H : gn y11 (fD F x7 n13) y27 = some r2 := H
   unfold gn at H
   obtain ⟨g30, H⟩ := ay H;refine aa ?_;show AR _ _ _ _ _ [0, 1] _;refine zS rfl (bu rfl rfl g30) <| zm rfl <| ag ?_;exact Exists.intro (n13, y27, t28, y11 + 1) ⟨H, Nat.lt_succ_self _, aP [0] (.cons (.refl _) (.cons (.refl _) (.cons (.refl _) (.cons (.refl _) (.nil _))))) rfl⟩
  ·replace H := ba c14 H;refine bZ ?_;exact Exists.intro (y9, t10) ⟨H, aP [0] (.cons (.refl _) (.nil _)) rfl⟩
 rintro ⟨y31, t32⟩ H;replace H : iA y31 = some r2 := H
 unfold iA at H
 refine af ?_;obtain ⟨g34, H⟩ := ay H;obtain ⟨x35, e36, H⟩ := bg H;refine aa ?_;show AR _ _ _ _ _ [0, 1, 2] _;refine zS rfl (aj (av := slE _ _ _) rfl) <| aq rfl rfl (aD rfl uu rfl (show ACalls _ _ _ [] (Ret (S x35) []) from by subst e36; exact li y31 ([10] : List UInt8) (some t32) (lb g34).1 (lb g34).2) ?_);refine za rfl <| ag <| aL ?_;obtain rfl := ap H;exact And.intro rfl (Exists.intro _ (Exists.intro _ ⟨aH rfl (.refl _), aI [] rfl, rfl, rfl⟩))
end Go.Proofs.YtjegcifofddgbaaGreatDoor
namespace Go.Pv
def wR : List UInt8 := [97, 98, 99, 100, 101, 102, 103, 104, 105, 106, 107, 108, 109, 110, 111, 112, 113, 114, 115, 116, 117, 118, 119, 120, 121, 122, 65, 66, 67, 68, 69, 70, 71, 72, 73, 74, 75, 76, 77, 78, 79, 80, 81, 82, 83, 84, 85, 86, 87, 88, 89, 90, 48, 49, 50, 51, 52, 53, 54, 55, 56, 57, 46, 45, 95, 43, 64]
def re (F : Nat) (a1 : Int) (a2 : Int) (a3 : Int) : Option Bool :=
some ((decide (a2 ≤ a1)) && (decide (a1 ≤ a3)))
def rf (F : Nat) (a1 : Int) (a2 : Int) : Option ((List UInt8) × Int) :=
bnd (re F a1 0 7) fun x5 =>
kN (!(!x5)) (re F a2 1 1073741824) fun x8 =>
bif (!x5) || (!x8) then
  some (([] : List UInt8), 1)
else
  grd (okI a2) <|
  lt (Go.Lib.itoa a2) fun x12 =>
  grd (bt (([60] : List UInt8).length + x12.length)) <|
  lt (([60] : List UInt8) ++ x12) fun x15 =>
  grd (bt (x15.length + ([46] : List UInt8).length)) <|
  lt (x15 ++ ([46] : List UInt8)) fun x18 =>
  grd (okI a1) <|
  lt (Go.Lib.itoa a1) fun x21 =>
  grd (bt (x18.length + x21.length)) <|
  lt (x18 ++ x21) fun x24 =>
  grd (bt (x24.length + ([64, 109, 97, 105, 108, 99, 111, 97, 99, 104, 62] : List UInt8).length)) <|
  lt (x24 ++ ([64, 109, 97, 105, 108, 99, 111, 97, 99, 104, 62] : List UInt8)) fun x27 =>
  some (x27, 0)
def pj (F : Nat) (a1 : List UInt8) : Option (Int × Int × Int) :=
lt (Go.Lib.trimPrefix a1 ([60] : List UInt8)) fun x5 =>
grd (okS x5.length) <|
lt (Go.Lib.cut x5 ([46] : List UInt8)) fun x8 =>
hC (je F x8.1) fun x10 x11 =>
grd (okS x8.2.1.length) <|
lt (Go.Lib.trimSuffix x8.2.1 ([64, 109, 97, 105, 108, 99, 111, 97, 99, 104, 62] : List UInt8)) fun x14 =>
hC (je F x14) fun x16 x17 =>
hC (rf F x16 x10) fun x19 x20 =>
bif (!decide (x20 = 0)) || (!decide (x19 = a1)) then
  some (0, 0, 2)
else
  some (x16, x10, 0)
def gG (F : Nat) (a1 : List UInt8) : Option Bool :=
grd (okS a1.length) <|
lt (Go.Lib.cut a1 ([64] : List UInt8)) fun x16 =>
bnd (re F (a1.length : Int) 3 60) fun x18 =>
fV ((x18 && (!decide (x16.1 = ([] : List UInt8)))) && (!decide (x16.2.1 = ([] : List UInt8)))) (okS x16.2.1.length) <|
lt (Go.Lib.contains x16.2.1 ([64] : List UInt8)) fun x24 =>
some (((x18 && (!decide (x16.1 = ([] : List UInt8)))) && (!decide (x16.2.1 = ([] : List UInt8)))) && (!x24))
def jP (F : Nat) (a1 : List UInt8) (rec4 : Int → Option Bool) (y3 : Int) : Option Bool :=
bif decide (y3 < (a1.length : Int)) then
  grd (cD y3 a1.length) <|
  lt (at_ a1 y3) fun x8 =>
  lt (Go.Lib.indexByte wR x8) fun x10 =>
  bif decide (x10 < 0) then
    some false
  else
    grd (okI (y3 + 1)) <|
    rec4 (y3 + 1)
else
  gG F a1
def jO (F : Nat) (a1 : List UInt8) (n : Nat) : Int → Option Bool :=
  loop (fun rec x => jP F a1 rec x) n
def mo (F : Nat) (a1 : List UInt8) : Option Bool :=
jO F a1 F 0
def jC (F : Nat) (a1 : List (List UInt8)) : Option ((List UInt8)) :=
bif decide ((a1.length : Int) = 0) then
  some ([] : List UInt8)
else
  grd (pP a1 ([10] : List UInt8)) <|
  lt (Go.Av.Str.join ([10] : List UInt8) a1) fun x6 =>
  grd (bt (x6.length + ([10] : List UInt8).length)) <|
  lt (x6 ++ ([10] : List UInt8)) fun x9 =>
  some x9
def fP (y30 : List UInt8) : Option ((List UInt8)) :=
grd (bt (y30.length + ([10] : List UInt8).length)) <|
lt (y30 ++ ([10] : List UInt8)) fun x33 =>
some x33
def fe (F : Nat) (a4 : List UInt8) (y18 : List UInt8) : Option ((List UInt8)) :=
bnd (mw F a4) fun x20 =>
bif !decide (x20 = ([] : List UInt8)) then
  bnd (ib F x20 72) fun x23 =>
  bnd (jC F x23) fun x25 =>
  grd (bt (y18.length + x25.length)) <|
  lt (y18 ++ x25) fun x28 =>
  fP x28
else
  fP y18
def ij (F : Nat) (a1 : List UInt8) (a2 : List UInt8) (a3 : List UInt8) (a4 : List UInt8) (a5 : Int) : Option ((List UInt8)) :=
bnd (ib F a2 72) fun x7 =>
bnd (jC F x7) fun x9 =>
bif !decide (a3 = ([] : List UInt8)) then
  grd (bt (a3.length + ([10] : List UInt8).length)) <|
  lt (a3 ++ ([10] : List UInt8)) fun x13 =>
  grd (bt (x9.length + x13.length)) <|
  lt (x9 ++ x13) fun x16 =>
  fe F a4 x16
else
  fe F a4 x9
def kZ (F : Nat) (a1 : List UInt8) (a2 : List UInt8) (a3 : List UInt8) (a4 : List UInt8) (a5 : Int) : Option ((List UInt8)) :=
bnd (fK F a3) fun x7 =>
grd (bt (([60, 108, 105, 62, 60, 97, 32, 104, 114, 101, 102, 61, 34] : List UInt8).length + x7.length)) <|
lt (([60, 108, 105, 62, 60, 97, 32, 104, 114, 101, 102, 61, 34] : List UInt8) ++ x7) fun x10 =>
grd (bt (x10.length + ([34, 62] : List UInt8).length)) <|
lt (x10 ++ ([34, 62] : List UInt8)) fun x13 =>
bnd (fK F a2) fun x15 =>
grd (bt (x13.length + x15.length)) <|
lt (x13 ++ x15) fun x18 =>
grd (bt (x18.length + ([60, 47, 97, 62, 60, 47, 108, 105, 62, 10] : List UInt8).length)) <|
lt (x18 ++ ([60, 47, 97, 62, 60, 47, 108, 105, 62, 10] : List UInt8)) fun x21 =>
some x21
def iJ (a2 : List UInt8) (y32 : List UInt8) : Option ((List UInt8)) :=
grd (okW y32 a2) <|
lt (y32 ++ a2) fun x36 =>
grd (okW x36 []) <|
some x36
def fH (F : Nat) (y12 : Int) (y13 : List UInt8) (x19 : Int × Int × (List UInt8) × (List UInt8) × (List UInt8) × (List UInt8) × Int) (rec15 : (Int × (List UInt8)) → Option ((List UInt8))) (y23 : List UInt8) : Option ((List UInt8)) :=
bnd (ij F x19.2.2.1 y23 x19.2.2.2.2.1 x19.2.2.2.2.2.1 x19.2.2.2.2.2.2) fun x25 =>
grd (okW y13 x25) <|
lt (y13 ++ x25) fun x28 =>
grd (okI (y12 + 1)) <|
rec15 (y12 + 1, x28)
def iK (F : Nat) (a2 : List UInt8) (a3 : List (Int × Int × (List UInt8) × (List UInt8) × (List UInt8) × (List UInt8) × Int)) (rec15 : (Int × (List UInt8)) → Option ((List UInt8))) (y12 : Int) (y13 : List UInt8) : Option ((List UInt8)) :=
bif decide (y12 < (a3.length : Int)) then
  grd (cD y12 a3.length) <|
  lt (at_ a3 y12) fun x19 =>
  bif decide (x19.2.2.2.1 = ([] : List UInt8)) then
    fH F y12 y13 x19 rec15 ([40, 117, 110, 116, 105, 116, 108, 101, 100, 41] : List UInt8)
  else
    fH F y12 y13 x19 rec15 x19.2.2.2.1
else
  iJ a2 y13
def eA (F : Nat) (a2 : List UInt8) (a3 : List (Int × Int × (List UInt8) × (List UInt8) × (List UInt8) × (List UInt8) × Int)) (n : Nat) : (Int × (List UInt8)) → Option ((List UInt8)) :=
  loop (fun rec x => iK F a2 a3 rec x.1 x.2) n
def oB (F : Nat) (a1 : List UInt8) (a2 : List UInt8) (a3 : List (Int × Int × (List UInt8) × (List UInt8) × (List UInt8) × (List UInt8) × Int)) : Option ((List UInt8)) :=
grd (okW [] a1) <|
lt ([] ++ a1) fun x9 =>
eA F a2 a3 F (0, x9)
def iL (a2 : List UInt8) (y32 : List UInt8) : Option ((List UInt8)) :=
grd (okW y32 a2) <|
lt (y32 ++ a2) fun x36 =>
grd (okW x36 []) <|
some x36
def fI (F : Nat) (y12 : Int) (y13 : List UInt8) (x19 : Int × Int × (List UInt8) × (List UInt8) × (List UInt8) × (List UInt8) × Int) (rec15 : (Int × (List UInt8)) → Option ((List UInt8))) (y23 : List UInt8) : Option ((List UInt8)) :=
bnd (kZ F x19.2.2.1 y23 x19.2.2.2.2.1 x19.2.2.2.2.2.1 x19.2.2.2.2.2.2) fun x25 =>
grd (okW y13 x25) <|
lt (y13 ++ x25) fun x28 =>
grd (okI (y12 + 1)) <|
rec15 (y12 + 1, x28)
def iM (F : Nat) (a2 : List UInt8) (a3 : List (Int × Int × (List UInt8) × (List UInt8) × (List UInt8) × (List UInt8) × Int)) (rec15 : (Int × (List UInt8)) → Option ((List UInt8))) (y12 : Int) (y13 : List UInt8) : Option ((List UInt8)) :=
bif decide (y12 < (a3.length : Int)) then
  grd (cD y12 a3.length) <|
  lt (at_ a3 y12) fun x19 =>
  bif decide (x19.2.2.2.1 = ([] : List UInt8)) then
    fI F y12 y13 x19 rec15 ([40, 117, 110, 116, 105, 116, 108, 101, 100, 41] : List UInt8)
  else
    fI F y12 y13 x19 rec15 x19.2.2.2.1
else
  iL a2 y13
def dP (F : Nat) (a2 : List UInt8) (a3 : List (Int × Int × (List UInt8) × (List UInt8) × (List UInt8) × (List UInt8) × Int)) (n : Nat) : (Int × (List UInt8)) → Option ((List UInt8)) :=
  loop (fun rec x => iM F a2 a3 rec x.1 x.2) n
def oC (F : Nat) (a1 : List UInt8) (a2 : List UInt8) (a3 : List (Int × Int × (List UInt8) × (List UInt8) × (List UInt8) × (List UInt8) × Int)) : Option ((List UInt8)) :=
grd (okW [] a1) <|
lt ([] ++ a1) fun x9 =>
dP F a2 a3 F (0, x9)
def gS (F : Nat) (a1 : List (Int × Int × (List UInt8) × (List UInt8) × (List UInt8) × (List UInt8) × Int)) : Option ((List UInt8)) :=
bnd (oB F ([] : List UInt8) ([] : List UInt8) a1) fun x4 =>
some x4
def gV (F : Nat) (a1 : List (Int × Int × (List UInt8) × (List UInt8) × (List UInt8) × (List UInt8) × Int)) : Option ((List UInt8)) :=
bnd (oC F ([60, 117, 108, 62, 10] : List UInt8) ([60, 47, 117, 108, 62, 10] : List UInt8) a1) fun x4 =>
some x4
end Go.Pv
namespace Go.Proofs.YtjegcifofddgbaaGreatDoor
open Go.RowKit Go.Av Go.Pv
theorem xY : ∀ (args : Array Value) (w : World), (callFunc 21 args).run Tryz.prog w = .ok (.enter 21 args) w := fun _ _ => by kernel_rfl
theorem xO : ∀ (args : Array Value) (w : World), (callFunc 24 args).run Tryz.prog w = .ok (.enter 24 args) w := fun _ _ => by kernel_rfl
theorem sw : ∀ (args : Array Value) (w : World), (callFunc 25 args).run Tryz.prog w = .ok (.enter 25 args) w := fun _ _ => by kernel_rfl
theorem sv : ∀ (args : Array Value) (w : World), (callFunc 26 args).run Tryz.prog w = .ok (.enter 26 args) w := fun _ _ => by kernel_rfl
theorem su : ∀ (args : Array Value) (w : World), (callFunc 36 args).run Tryz.prog w = .ok (.enter 36 args) w := fun _ _ => by kernel_rfl
theorem xG : ∀ (args : Array Value) (w : World), (callFunc 37 args).run Tryz.prog w = .ok (.enter 37 args) w := fun _ _ => by kernel_rfl
theorem ss : ∀ (args : Array Value) (w : World), (callFunc 38 args).run Tryz.prog w = .ok (.enter 38 args) w := fun _ _ => by kernel_rfl
theorem xF : ∀ (args : Array Value) (w : World), (callFunc 39 args).run Tryz.prog w = .ok (.enter 39 args) w := fun _ _ => by kernel_rfl
theorem xE : ∀ (args : Array Value) (w : World), (callFunc 44 args).run Tryz.prog w = .ok (.enter 44 args) w := fun _ _ => by kernel_rfl
theorem sr : ∀ (args : Array Value) (w : World), (callFunc 45 args).run Tryz.prog w = .ok (.enter 45 args) w := fun _ _ => by kernel_rfl
theorem sq : ∀ (args : Array Value) (w : World), (callFunc 46 args).run Tryz.prog w = .ok (.enter 46 args) w := fun _ _ => by kernel_rfl
theorem xD : ∀ (args : Array Value) (w : World), (callFunc 47 args).run Tryz.prog w = .ok (.enter 47 args) w := fun _ _ => by kernel_rfl
theorem pi : ∀ (args : Array Value) (w : World), (callFunc 57 args).run Tryz.prog w = .ok (.enter 57 args) w := fun _ _ => by kernel_rfl
theorem so : ∀ (args : Array Value) (w : World), (callFunc 58 args).run Tryz.prog w = .ok (.enter 58 args) w := fun _ _ => by kernel_rfl
theorem jB : ∀ (args : Array Value) (w : World), (callFunc 62 args).run Tryz.prog w = .ok (.enter 62 args) w := fun _ _ => by kernel_rfl
theorem sm : ∀ (args : Array Value) (w : World), (callFunc 63 args).run Tryz.prog w = .ok (.enter 63 args) w := fun _ _ => by kernel_rfl
theorem xB : ∀ (args : Array Value) (w : World), (callFunc 64 args).run Tryz.prog w = .ok (.enter 64 args) w := fun _ _ => by kernel_rfl
theorem xz : ∀ (args : Array Value) (w : World), (callFunc 65 args).run Tryz.prog w = .ok (.enter 65 args) w := fun _ _ => by kernel_rfl
theorem xy : ∀ (args : Array Value) (w : World), (callFunc 95 args).run Tryz.prog w = .ok (.enter 95 args) w := fun _ _ => by kernel_rfl
set_option maxRecDepth 100000 in
set_option maxHeartbeats 1000000 in
theorem qN (F : Nat) (a1 : Int) (a2 : Int) (a3 : Int) (r4 : Bool) (H : re F a1 a2 a3 = some r4) : ACalls Tryz.prog 57 [i64 a1, i64 a2, i64 a3] [] (Ret (B r4) []) := by
 unfold re at H
 refine ax Tryz.func57 rfl rfl ?_;show AW _ _ 15 _ _ _;refine af <| aa ?_;show AR _ _ _ _ _ [0] _;refine za rfl <| ag <| af <| aa ?_;show AR _ _ _ _ _ [0, 1, 2, 3, 4, 5, 6, 7, 8] _;refine zm rfl <| zm rfl <| zS rfl (dz rfl rfl) <| zm rfl <| bb (l := [8]) 14 (B ((decide (a2 ≤ a1)) && (decide (a1 ≤ a3)))) (fun K => ?_) ?_
 ·rcases ak (decide (a2 ≤ a1)) with h5 | h5
  ·refine zM h5 rfl <| zM h5 rfl <| zU h5 rfl (dI rfl rfl) <| zS rfl (aG (av := .v _) rfl h5 rfl) ?_;exact K _ 3 _ (aA (cz h5)) rfl rfl
  ·refine zF h5 rfl <| zF h5 rfl <| zF h5 rfl <| zS rfl (aE (av := .v _) rfl h5 rfl) ?_;exact K _ 3 _ (aA (cA h5)) rfl rfl
 refine za rfl <| ag <| aL ?_;obtain rfl := ap H;exact And.intro rfl (Exists.intro _ (Exists.intro _ ⟨aH rfl (.refl _), aI [] rfl, rfl, rfl⟩))
set_option maxRecDepth 100000 in
set_option maxHeartbeats 1000000 in
theorem qO (F : Nat) (a1 : Int) (a2 : Int) (r3 : List UInt8) (r4 : Int) (H : rf F a1 a2 = some (r3, r4)) : ACalls Tryz.prog 21 [i64 a1, i64 a2] [] (Ret (.tup [S r3, i64 r4]) []) := by
 unfold rf at H
 refine ax Tryz.func21 rfl rfl ?_;show AW _ _ 22 _ _ _;refine af <| aa ?_;show AR _ _ _ _ _ [0, 1] _;refine za rfl <| za rfl <| ag <| af <| af ?_;obtain ⟨x5, e6, H⟩ := bK H;obtain ⟨x8, e9, H⟩ := ft H;refine aa ?_;show AR _ _ _ _ _ [0, 1, 2, 3, 4, 5, 6, 7] _;refine zm rfl <| aq rfl rfl (aD rfl pi rfl (qN F a1 0 7 x5 e6) ?_);refine zS rfl (cx rfl) <| zm rfl <| bb (l := []) 13 (B ((!x5) || (!x8))) (fun K => ?_) ?_
 ·rcases ak (!x5) with h7 | h7
  ·refine zF h7 rfl <| zF h7 rfl <| zF h7 rfl <| zS rfl (aG (av := .v _) rfl h7 rfl) ?_;exact K _ 3 _ (aA (fT h7)) rfl rfl
  ·refine zM h7 rfl <| zT h7 rfl (aD rfl pi rfl (qN F a2 1 1073741824 x8 (e9 (nf h7))) ?_);refine zU h7 rfl (cx rfl) <| zS rfl (aE (av := .v _) rfl h7 rfl) ?_;exact K _ 3 _ (aA (fU h7)) rfl rfl
 refine ag <| az rfl (fun c10 => ?_) (fun c10 => ?_)
 ·replace H := aZ c10 H;refine af <| aa ?_;show AR _ _ _ _ _ [0, 1] _;refine za rfl <| za rfl <| ag <| aL ?_;obtain ⟨rfl, rfl⟩ := dh H;exact And.intro rfl (Exists.intro _ (Exists.intro _ ⟨be rfl (.refl _) (.refl _), aI [] rfl, rfl, rfl⟩))
 ·replace H := ba c10 H;refine aC <| af ?_;obtain ⟨g11, H⟩ := ay H;obtain ⟨x12, e13, H⟩ := bg H;obtain ⟨g14, H⟩ := ay H;obtain ⟨x15, e16, H⟩ := bg H;obtain ⟨g17, H⟩ := ay H;obtain ⟨x18, e19, H⟩ := bg H;obtain ⟨g20, H⟩ := ay H;obtain ⟨x21, e22, H⟩ := bg H;obtain ⟨g23, H⟩ := ay H;obtain ⟨x24, e25, H⟩ := bg H;obtain ⟨g26, H⟩ := ay H;obtain ⟨x27, e28, H⟩ := bg H;refine aa ?_;show AR _ _ _ _ _ [0, 1, 2, 3, 4, 5, 6, 7, 8, 9] _;refine zm rfl <| aq rfl rfl (aD rfl so rfl (show ACalls _ _ _ [] (Ret (S x12) []) from by subst e13; exact iC a2 (nP g11)) ?_);refine zS rfl (cg rfl rfl g14 e16) <| zS rfl (cg rfl rfl g17 e19) <| zm rfl <| aq rfl rfl (aD rfl so rfl (show ACalls _ _ _ [] (Ret (S x21) []) from by subst e22; exact iC a1 (nP g20)) ?_);refine zS rfl (cg rfl rfl g23 e25) <| zS rfl (cg rfl rfl g26 e28) <| za rfl <| za rfl <| ag <| aL ?_;obtain ⟨rfl, rfl⟩ := dh H;exact And.intro rfl (Exists.intro _ (Exists.intro _ ⟨be rfl (.refl _) (.refl _), aI [] rfl, rfl, rfl⟩))
set_option maxRecDepth 100000 in
set_option maxHeartbeats 1000000 in
theorem tS (F : Nat) (a1 : List UInt8) (r2 : Int) (r3 : Int) (r4 : Int) (H : pj F a1 = some (r2, r3, r4)) : ACalls Tryz.prog 15 [S a1] [] (Ret (.tup [i64 r2, i64 r3, i64 r4]) []) := by
 unfold pj at H
 refine ax Tryz.func15 rfl rfl ?_;show AW _ _ 43 _ _ _;refine af <| aa ?_;show AR _ _ _ _ _ [0, 1, 2] _;refine za rfl <| za rfl <| za rfl <| ag <| af ?_;obtain ⟨x5, e6, H⟩ := bg H;obtain ⟨g7, H⟩ := ay H;obtain ⟨x8, e9, H⟩ := bg H;refine aa ?_;show AR _ _ _ _ _ [0, 1, 2, 3, 4, 5, 6, 7, 8, 9] _;refine zm rfl <| aq rfl rfl (aD rfl xG rfl (show ACalls _ _ _ [] (Ret (S x5) []) from by subst e6; exact lZ a1 ([60] : List UInt8)) ?_);refine aq rfl rfl (aD rfl su rfl (show ACalls _ _ _ [] (Ret (.tup [S x8.1, S x8.2.1, B x8.2.2]) []) from by subst e9; exact tk x5 ([46] : List UInt8) (gW g7)) ?_);refine zS rfl (aj (av := .tup _) rfl) <| zS rfl (aF (av := .v _) rfl rfl) <| zS rfl (aF (av := .v _) rfl rfl) <| zS rfl (aF (av := .v _) rfl rfl) <| za rfl <| za rfl <| za rfl <| ag <| af ?_;obtain ⟨x10, x11, e12, H⟩ := cZ H;refine aa ?_;show AR _ _ _ _ _ [0, 1, 2, 3, 4, 5] _;refine zm rfl <| aq rfl rfl (aD rfl ss rfl (lT F x8.1 x10 x11 e12) ?_);refine zS rfl (aj (av := .tup _) rfl) <| zS rfl (aF (av := .v _) rfl rfl) <| zS rfl (aF (av := eAny _ _) rfl rfl) <| za rfl <| ag <| af ?_;obtain ⟨g13, H⟩ := ay H;obtain ⟨x14, e15, H⟩ := bg H;obtain ⟨x16, x17, e18, H⟩ := cZ H;refine aa ?_;show AR _ _ _ _ _ [0, 1, 2, 3, 4, 5, 6] _
 refine zm rfl <| aq rfl rfl (aD rfl xF rfl (show ACalls _ _ _ [] (Ret (S x14) []) from by subst e15; exact qk x8.2.1 ([64, 109, 97, 105, 108, 99, 111, 97, 99, 104, 62] : List UInt8) (gW g13)) ?_);refine aq rfl rfl (aD rfl ss rfl (lT F x14 x16 x17 e18) ?_);refine zS rfl (aj (av := .tup _) rfl) <| zS rfl (aF (av := .v _) rfl rfl) <| zS rfl (aF (av := eAny _ _) rfl rfl) <| za rfl <| ag <| af <| af ?_;obtain ⟨x19, x20, e21, H⟩ := cZ H;refine aa ?_;show AR _ _ _ _ _ [0, 1, 2, 3, 4, 5, 6, 7] _;refine zm rfl <| zm rfl <| aq rfl rfl (aD rfl xY rfl (qO F x16 x10 x19 x20 e21) ?_);refine zS rfl (aj (av := .tup _) rfl) <| zS rfl (aF (av := .v _) rfl rfl) <| zS rfl (aF (av := .v _) rfl rfl) <| za rfl <| za rfl <| ag <| af <| aa ?_;show AR _ _ _ _ _ [0, 1, 2, 3, 4, 5, 6] _;refine zm rfl <| zS rfl (dg rfl rfl) <| zm rfl <| bb (l := []) 40 (B ((!decide (x20 = 0)) || (!decide (x19 = a1)))) (fun K => ?_) ?_
 ·rcases ak (!decide (x20 = 0)) with h22 | h22
  ·refine zF h22 rfl <| zF h22 rfl <| zF h22 rfl <| zS rfl (aG (av := .v _) rfl h22 rfl) ?_;exact K _ 3 _ (aA (fT h22)) rfl rfl
  ·refine zM h22 rfl <| zM h22 rfl <| zU h22 rfl (iV rfl rfl) <| zS rfl (aE (av := .v _) rfl h22 rfl) ?_;exact K _ 3 _ (aA (fU h22)) rfl rfl
 refine ag <| az rfl (fun c23 => ?_) (fun c23 => ?_)
 ·replace H := aZ c23 H;refine af <| aa ?_;show AR _ _ _ _ _ [0, 1, 2] _;refine za rfl <| za rfl <| za rfl <| ag <| aL ?_;obtain ⟨rfl, rfl, rfl⟩ := rN H;exact And.intro rfl (Exists.intro _ (Exists.intro _ ⟨dy rfl (.refl _) (.refl _) (.refl _), aI [] rfl, rfl, rfl⟩))
 ·replace H := ba c23 H;refine aC <| af <| aa ?_;show AR _ _ _ _ _ [0, 1, 2, 3, 4] _;refine zm rfl <| zm rfl <| za rfl <| za rfl <| za rfl <| ag <| aL ?_;obtain ⟨rfl, rfl, rfl⟩ := rN H;exact And.intro rfl (Exists.intro _ (Exists.intro _ ⟨dy rfl (.refl _) (.refl _) (.refl _), aI [] rfl, rfl, rfl⟩))
set_option maxRecDepth 100000 in
set_option maxHeartbeats 1000000 in
theorem rA (F : Nat) (a1 : List UInt8) (r2 : Bool) (H : mo F a1 = some r2) : ACalls Tryz.prog 27 [S a1] [] (Ret (B r2) []) := by
 unfold mo at H
 refine ax Tryz.func27 rfl rfl ?_;show AW _ _ 40 _ _ _;refine af <| aa ?_;show AR _ _ _ _ _ [0] _;refine za rfl <| ag <| bk (X := Unit) (fun _ => ⟨[(0, S a1)], [], []⟩) (fun _ => gG F a1 = some r2) ?_ ?_
 ·refine af <| aa ?_;show AR _ _ _ _ _ [0, 1, 2] _;refine zm rfl <| zS rfl (aU ab rfl) <| zm rfl <| ag <| aO <| cl (X := Nat × Int) (fun (n5, y3) => ⟨[(0, S a1), (8, i64 (a1.length : Int)), (9, i64 y3)], [], []⟩) (fun (n5, y3) => jO F a1 n5 y3 = some r2) (fun (n5, y3) => n5) (F, 0) H (aP [] (.cons (.refl _) (.cons (.refl _) (.cons (.refl _) (.nil _)))) rfl) ?_;rintro ⟨n5, y3⟩ H;obtain ⟨n5, rfl, H⟩ := cO H;replace H : jP F a1 (jO F a1 n5) y3 = some r2 := H
  unfold jP at H
  refine af <| aa ?_;show AR _ _ _ _ _ [0] _;refine zS rfl (bC rfl rfl) <| ag <| af <| az rfl (fun c6 => ?_) (fun c6 => ?_)
  ·replace H := aZ c6 H;refine aC <| af <| aO <| af <| aa ?_;show AR _ _ _ _ _ [0, 1] _;refine zm rfl <| za rfl <| ag <| af ?_;obtain ⟨g7, H⟩ := ay H;obtain ⟨x8, e9, H⟩ := bg H;obtain ⟨x10, e11, H⟩ := bg H;refine aa ?_;show AR _ _ _ _ _ [0, 1, 2, 3, 4] _;refine zm rfl <| zm rfl <| zS rfl (bj ab rfl rfl g7 e9) <| aq rfl rfl (aD rfl xB rfl (show ACalls _ _ _ [] (Ret (i64 x10) []) from by subst e11; exact dx wR x8) ?_);refine zS rfl (bC rfl rfl) <| ag <| az rfl (fun c12 => ?_) (fun c12 => ?_)
   ·replace H := aZ c12 H;refine af <| aa ?_;show AR _ _ _ _ _ [0] _;refine za rfl <| ag <| aL ?_;obtain rfl := ap H;exact And.intro rfl (Exists.intro _ (Exists.intro _ ⟨aH rfl (.refl _), aI [] rfl, rfl, rfl⟩))
   ·replace H := ba c12 H;refine aC ?_;obtain ⟨g13, H⟩ := ay H;refine aa ?_;show AR _ _ _ _ _ [0, 1] _;refine zS rfl (bu rfl rfl g13) <| zm rfl <| ag ?_;exact Exists.intro (n5, y3 + 1) ⟨H, Nat.lt_succ_self _, aP [] (.cons (.refl _) (.cons (.refl _) (.cons (.refl _) (.nil _)))) rfl⟩
  ·replace H := ba c6 H;refine bZ ?_;exact Exists.intro () ⟨H, aP [] (.cons (.refl _) (.nil _)) rfl⟩
 rintro _ H;replace H : gG F a1 = some r2 := H
 unfold gG at H
 refine af ?_;obtain ⟨g15, H⟩ := ay H;obtain ⟨x16, e17, H⟩ := bg H;refine aa ?_;show AR _ _ _ _ _ [0, 1, 2, 3, 4, 5, 6, 7, 8] _;refine zm rfl <| aq rfl rfl (aD rfl su rfl (show ACalls _ _ _ [] (Ret (.tup [S x16.1, S x16.2.1, B x16.2.2]) []) from by subst e17; exact tk a1 ([64] : List UInt8) (gW g15)) ?_);refine zS rfl (aj (av := .tup _) rfl) <| zS rfl (aF (av := .v _) rfl rfl) <| zS rfl (aF (av := .v _) rfl rfl) <| zS rfl (aF (av := .v _) rfl rfl) <| za rfl <| za rfl <| za rfl <| ag <| af ?_;obtain ⟨x18, e19, H⟩ := bK H;obtain ⟨g23, H⟩ := dq H;obtain ⟨x24, e25, H⟩ := bg H;refine aa ?_;show AR _ _ _ _ _ [0, 1, 2, 3, 4, 5, 6, 7, 8, 9, 10, 11, 12, 13, 14, 15, 16] _;refine zm rfl <| zS rfl (aU ab rfl) <| aq rfl rfl (aD rfl pi rfl (qN F (a1.length : Int) 3 60 x18 e19) ?_);refine zm rfl <| bb (l := [7, 8, 9, 10, 11, 12, 13, 14, 15, 16]) 30 (B (x18 && (!decide (x16.1 = ([] : List UInt8))))) (fun K => ?_) ?_
 ·rcases ak x18 with h20 | h20
  ·refine zM h20 rfl <| zU h20 rfl (iV rfl rfl) <| zS rfl (aG (av := .v _) rfl h20 rfl) ?_;exact K _ 2 _ (aA (cz h20)) rfl rfl
  ·refine zF h20 rfl <| zF h20 rfl <| zS rfl (aE (av := .v _) rfl h20 rfl) ?_;exact K _ 2 _ (aA (cA h20)) rfl rfl
 refine zm rfl <| bb (l := [11, 12, 13, 14, 15, 16]) 34 (B ((x18 && (!decide (x16.1 = ([] : List UInt8)))) && (!decide (x16.2.1 = ([] : List UInt8))))) (fun K => ?_) ?_
 ·rcases ak (x18 && (!decide (x16.1 = ([] : List UInt8)))) with h21 | h21
  ·refine zM h21 rfl <| zU h21 rfl (iV rfl rfl) <| zS rfl (aG (av := .v _) rfl h21 rfl) ?_;exact K _ 2 _ (aA (cz h21)) rfl rfl
  ·refine zF h21 rfl <| zF h21 rfl <| zS rfl (aE (av := .v _) rfl h21 rfl) ?_;exact K _ 2 _ (aA (cA h21)) rfl rfl
 refine zm rfl <| bb (l := [16]) 39 (B (((x18 && (!decide (x16.1 = ([] : List UInt8)))) && (!decide (x16.2.1 = ([] : List UInt8)))) && (!x24))) (fun K => ?_) ?_
 ·rcases ak ((x18 && (!decide (x16.1 = ([] : List UInt8)))) && (!decide (x16.2.1 = ([] : List UInt8)))) with h22 | h22
  ·refine zM h22 rfl <| zT h22 rfl (aD rfl xz rfl (show ACalls _ _ _ [] (Ret (B x24) []) from by subst e25; exact jp x16.2.1 ([64] : List UInt8) (gW (g23 h22))) ?_);refine zU h22 rfl (cx rfl) <| zS rfl (aG (av := .v _) rfl h22 rfl) ?_;exact K _ 3 _ (aA (cz h22)) rfl rfl
  ·refine zF h22 rfl <| zF h22 rfl <| zF h22 rfl <| zS rfl (aE (av := .v _) rfl h22 rfl) ?_;exact K _ 3 _ (aA (cA h22)) rfl rfl
 refine za rfl <| ag <| aL ?_;obtain rfl := ap H;exact And.intro rfl (Exists.intro _ (Exists.intro _ ⟨aH rfl (.refl _), aI [] rfl, rfl, rfl⟩))
set_option maxRecDepth 100000 in
set_option maxHeartbeats 1000000 in
theorem pp (F : Nat) (a1 : List (List UInt8)) (q2 : Option Nat) (r3 : List UInt8) (H : jC F a1 = some r3) : ACalls Tryz.prog 45 [slE Enc.str a1 q2] [] (Ret (S r3) []) := by
 unfold jC at H
 refine ax Tryz.func45 rfl rfl ?_;show AW _ _ 9 _ _ _;refine af <| aa ?_;show AR _ _ _ _ _ [0] _;refine za rfl <| ag <| af <| af <| aa ?_;show AR _ _ _ _ _ [0, 1, 2] _;refine zS rfl (aj (av := slE _ _ _) rfl) <| zS rfl (aQ ao rfl) <| zS rfl (cJ rfl rfl) <| ag <| az rfl (fun c4 => ?_) (fun c4 => ?_)
 ·replace H := aZ c4 H;refine af <| aa ?_;show AR _ _ _ _ _ [0] _;refine za rfl <| ag <| aL ?_;obtain rfl := ap H;exact And.intro rfl (Exists.intro _ (Exists.intro _ ⟨aH rfl (.refl _), aI [] rfl, rfl, rfl⟩))
 ·replace H := ba c4 H;refine aC <| af ?_;obtain ⟨g5, H⟩ := ay H;obtain ⟨x6, e7, H⟩ := bg H;obtain ⟨g8, H⟩ := ay H;obtain ⟨x9, e10, H⟩ := bg H;refine aa ?_;show AR _ _ _ _ _ [0, 1, 2, 3] _;refine zS rfl (aj (av := slE _ _ _) rfl) <| aq rfl rfl (aD rfl xy rfl (show ACalls _ _ _ [] (Ret (S x6) []) from by subst e7; exact li a1 ([10] : List UInt8) q2 (lb g5).1 (lb g5).2) ?_);refine zS rfl (cg rfl rfl g8 e10) <| za rfl <| ag <| aL ?_;obtain rfl := ap H;exact And.intro rfl (Exists.intro _ (Exists.intro _ ⟨aH rfl (.refl _), aI [] rfl, rfl, rfl⟩))
set_option maxRecDepth 100000 in
set_option maxHeartbeats 1000000 in
theorem tR (F : Nat) (a1 : List UInt8) (a2 : List UInt8) (a3 : List UInt8) (a4 : List UInt8) (a5 : Int) (r6 : List UInt8) (H : ij F a1 a2 a3 a4 a5 = some r6) : ACalls Tryz.prog 44 [.agg [S a1, S a2, S a3, S a4, i64 a5]] [] (Ret (S r6) []) := by
 unfold ij at H
 refine ax Tryz.func44 rfl rfl ?_;show AW _ _ 29 _ _ _;refine af <| aa ?_;show AR _ _ _ _ _ [0, 1] _;refine zR rfl (jz rfl (.inr ⟨_, rfl⟩)) <| za rfl <| ag <| af ?_;obtain ⟨x7, e8, H⟩ := bK H;obtain ⟨x9, e10, H⟩ := bK H;refine aa ?_;show AR _ _ _ _ _ [0, 1, 2, 3, 4] _;refine zS rfl (aV (n := 1) (by kernel_rfl) rfl (ai rfl)) <| zS rfl (aJ ab rfl rfl) <| aq rfl rfl (aD rfl sq rfl (nX F a2 72 x7 e8) ?_);refine aq rfl rfl (aD rfl sr rfl (pp F x7 none x9 e10) ?_);refine za rfl <| ag <| bk (X := (List UInt8)) (fun y18 => ⟨[(1, .cp [S a1, S a2, S a3, S a4, i64 a5]), (3, S y18)], [], []⟩) (fun y18 => fe F a4 y18 = some r6) ?_ ?_
 ·refine af <| aa ?_;show AR _ _ _ _ _ [0, 1, 2] _;refine zS rfl (aV (n := 2) (by kernel_rfl) rfl (ai rfl)) <| zS rfl (aJ ab rfl rfl) <| zS rfl (iV rfl rfl) <| ag <| az rfl (fun c11 => ?_) (fun c11 => ?_)
  ·replace H := aZ c11 H;obtain ⟨g12, H⟩ := ay H;obtain ⟨x13, e14, H⟩ := bg H;obtain ⟨g15, H⟩ := ay H;obtain ⟨x16, e17, H⟩ := bg H;refine aa ?_;show AR _ _ _ _ _ [0, 1, 2, 3, 4, 5] _;refine zm rfl <| zS rfl (aV (n := 2) (by kernel_rfl) rfl (ai rfl)) <| zS rfl (aJ ab rfl rfl) <| zS rfl (cg rfl rfl g12 e14) <| zS rfl (cg rfl rfl g15 e17) <| za rfl <| ag ?_;exact Exists.intro x16 ⟨H, aP [] (.cons (.refl _) (.cons (.refl _) (.nil _))) rfl⟩
  ·replace H := ba c11 H;refine aC ?_;exact Exists.intro x9 ⟨H, aP [] (.cons (.refl _) (.cons (.refl _) (.nil _))) rfl⟩
 rintro y18 H;replace H : fe F a4 y18 = some r6 := H
 unfold fe at H
 refine bk (X := (List UInt8)) (fun y30 => ⟨[(3, S y30)], [], []⟩) (fun y30 => fP y30 = some r6) ?_ ?_
 ·refine af ?_;obtain ⟨x20, e21, H⟩ := bK H;refine aa ?_;show AR _ _ _ _ _ [0, 1, 2, 3] _;refine zS rfl (aV (n := 3) (by kernel_rfl) rfl (ai rfl)) <| zS rfl (aJ ab rfl rfl) <| aq rfl rfl (aD rfl xD rfl (vo F a4 x20 e21) ?_);refine za rfl <| ag <| af <| aa ?_;show AR _ _ _ _ _ [0, 1] _;refine zm rfl <| zS rfl (iV rfl rfl) <| ag <| az rfl (fun c22 => ?_) (fun c22 => ?_)
  ·replace H := aZ c22 H;obtain ⟨x23, e24, H⟩ := bK H;obtain ⟨x25, e26, H⟩ := bK H;obtain ⟨g27, H⟩ := ay H;obtain ⟨x28, e29, H⟩ := bg H;refine aa ?_;show AR _ _ _ _ _ [0, 1, 2, 3, 4, 5] _;refine zm rfl <| zm rfl <| aq rfl rfl (aD rfl sq rfl (nX F x20 72 x23 e24) ?_);refine aq rfl rfl (aD rfl sr rfl (pp F x23 none x25 e26) ?_);refine zS rfl (cg rfl rfl g27 e29) <| za rfl <| ag ?_;exact Exists.intro x28 ⟨H, aP [] (.cons (.refl _) (.nil _)) rfl⟩
  ·replace H := ba c22 H;refine aC ?_;exact Exists.intro y18 ⟨H, aP [] (.cons (.refl _) (.nil _)) rfl⟩
 rintro y30 H;replace H : fP y30 = some r6 := H
 unfold fP at H
 refine af ?_;obtain ⟨g32, H⟩ := ay H;obtain ⟨x33, e34, H⟩ := bg H;refine aa ?_;show AR _ _ _ _ _ [0, 1, 2] _;refine zm rfl <| zS rfl (cg rfl rfl g32 e34) <| za rfl <| ag <| aL ?_;obtain rfl := ap H;exact And.intro rfl (Exists.intro _ (Exists.intro _ ⟨aH rfl (.refl _), aI [] rfl, rfl, rfl⟩))
set_option maxRecDepth 100000 in
set_option maxHeartbeats 1000000 in
theorem tT (F : Nat) (a1 : List UInt8) (a2 : List UInt8) (a3 : List UInt8) (a4 : List UInt8) (a5 : Int) (r6 : List UInt8) (H : kZ F a1 a2 a3 a4 a5 = some r6) : ACalls Tryz.prog 24 [.agg [S a1, S a2, S a3, S a4, i64 a5]] [] (Ret (S r6) []) := by
 unfold kZ at H
 refine ax Tryz.func24 rfl rfl ?_;show AW _ _ 13 _ _ _;refine af <| aa ?_;show AR _ _ _ _ _ [0, 1] _;refine zR rfl (jz rfl (.inr ⟨_, rfl⟩)) <| za rfl <| ag <| af ?_;obtain ⟨x7, e8, H⟩ := bK H;obtain ⟨g9, H⟩ := ay H;obtain ⟨x10, e11, H⟩ := bg H;obtain ⟨g12, H⟩ := ay H;obtain ⟨x13, e14, H⟩ := bg H;obtain ⟨x15, e16, H⟩ := bK H;obtain ⟨g17, H⟩ := ay H;obtain ⟨x18, e19, H⟩ := bg H;obtain ⟨g20, H⟩ := ay H;obtain ⟨x21, e22, H⟩ := bg H;refine bz (by kernel_rfl) ?_;show AI _ _ _ _ _ 11 (Array.replicate 11 false) _;refine zk 0 rfl (aV (n := 2) (by kernel_rfl) rfl (ai rfl)) ?_;show AI _ _ _ _ _ _ #[true, false, false, false, false, false, false, false, false, false, false] _;refine zk 1 rfl (aJ ab rfl rfl) ?_;show AI _ _ _ _ _ _ #[true, true, false, false, false, false, false, false, false, false, false] _;refine zk 5 rfl (aV (n := 1) (by kernel_rfl) rfl (ai rfl)) ?_;show AI _ _ _ _ _ _ #[true, true, false, false, false, true, false, false, false, false, false] _;refine zk 6 rfl (aJ ab rfl rfl) ?_;show AI _ _ _ _ _ _ #[true, true, false, false, false, true, true, false, false, false, false] _;refine aX (i := 2) (by kernel_rfl) rfl rfl <| dp rfl sw rfl (uR F _ _ e8) ?_;show AI _ _ _ _ _ _ #[true, true, true, false, false, true, true, false, false, false, false] _;refine zk 3 rfl (cg rfl rfl g9 e11) ?_
 show AI _ _ _ _ _ _ #[true, true, true, true, false, true, true, false, false, false, false] _;refine zk 4 rfl (cg rfl rfl g12 e14) ?_;show AI _ _ _ _ _ _ #[true, true, true, true, true, true, true, false, false, false, false] _;refine aX (i := 7) (by kernel_rfl) rfl rfl <| dp rfl sw rfl (uR F _ _ e16) ?_;show AI _ _ _ _ _ _ #[true, true, true, true, true, true, true, true, false, false, false] _;refine zk 8 rfl (cg rfl rfl g17 e19) ?_;show AI _ _ _ _ _ _ #[true, true, true, true, true, true, true, true, true, false, false] _;refine zk 9 rfl (cg rfl rfl g20 e22) ?_;show AI _ _ _ _ _ _ #[true, true, true, true, true, true, true, true, true, true, false] _;refine zk 10 rfl (asg rfl) ?_;show AI _ _ _ _ _ _ #[true, true, true, true, true, true, true, true, true, true, true] _;refine bE rfl <| aL ?_;obtain rfl := ap H;exact And.intro rfl (Exists.intro _ (Exists.intro _ ⟨aH rfl (.refl _), aI [] rfl, rfl, rfl⟩))
abbrev _root_.Go.Av.bm := @Tryz.underlying22
abbrev _root_.Go.Av.er := @Tryz.underlying27
set_option maxRecDepth 100000 in
set_option maxHeartbeats 1000000 in
theorem vv (F : Nat) (a1 : List UInt8) (a2 : List UInt8) (a3 : List (Int × Int × (List UInt8) × (List UInt8) × (List UInt8) × (List UInt8) × Int)) (q4 : Option Nat) (r5 : List UInt8) (H : oB F a1 a2 a3 = some r5) : ACalls Tryz.prog 26 [.agg [S a1, S a2, .v (.func (.func 44) #[] #[])], slE (Enc.prod Enc.int (Enc.prod Enc.int (Enc.prod Enc.str (Enc.prod Enc.str (Enc.prod Enc.str (Enc.prod Enc.str Enc.int)))))) a3 q4] [] (Ret (S r5) []) := by
 unfold oB at H
 refine ax Tryz.func26 rfl rfl ?_;show AW _ _ 34 _ _ _;refine af <| aa ?_;show AR _ _ _ _ _ [0, 1] _;refine zR rfl (jz rfl (.inr ⟨_, rfl⟩)) <| za rfl <| ag <| af <| aa ?_;show AR _ _ _ _ _ [0] _;refine zX rfl (jV (zs := [(.pointer none), .slice none 0 0]) (by kernel_rfl)) ?_;rintro _ _ ⟨o6, rfl, rfl⟩;refine ag <| af ?_;obtain ⟨g8, H⟩ := ay H;obtain ⟨x9, e10, H⟩ := bg H;refine aa ?_;show AR _ _ _ _ _ [0, 1, 2] _;refine zS rfl (aV (n := 0) (by kernel_rfl) rfl (ai rfl)) <| zS rfl (aJ ab rfl rfl) ?_
 refine AR.nil_objAt 0 1 1 5 rfl rfl fun t7 => ?_
 show AR _ _ _ _ _ _ ⟨_, _, [.tok t7 5, .obj o6 [.v (.pointer none), slE Enc.byte [] (some t7)], .ty o6 91]⟩;refine aq rfl rfl (bI [1, 1, 0] rfl jB rfl (bN  o6 (.v (.pointer none)) (.inl rfl) [] a1 t7 (jc g8)) rfl (fun c A' h => by cases h.1) ?_)
 rintro av A' ⟨h, t11, rfl⟩; cases h
 rw [e10]
 refine ag <| bk (X := (List UInt8) × Nat) (fun (y32, t33) => ⟨[(2, .cp [S a1, S a2, .v (.func (.func 44) #[] #[])]), (5, .pt o6 0)], [], [.obj o6 [.pt o6 0, slE Enc.byte y32 (some t33)], .ty o6 91, .tok t33 5]⟩) (fun (y32, t33) => iJ a2 y32 = some r5) ?_ ?_
 ·refine af <| aa ?_;show AR _ _ _ _ _ [0, 1, 2] _;refine zS rfl (aj (av := slE _ _ _) rfl) <| zS rfl (aQ bm rfl) <| zm rfl <| ag <| aO <| cl (X := Nat × Int × (List UInt8) × Nat) (fun (n16, y12, y13, t14) => ⟨[(2, .cp [S a1, S a2, .v (.func (.func 44) #[] #[])]), (5, .pt o6 0), (11, slE (Enc.prod Enc.int (Enc.prod Enc.int (Enc.prod Enc.str (Enc.prod Enc.str (Enc.prod Enc.str (Enc.prod Enc.str Enc.int)))))) a3 q4), (12, i64 (a3.length : Int)), (13, i64 y12)], [], [.obj o6 [.pt o6 0, slE Enc.byte y13 (some t14)], .ty o6 91, .tok t14 5]⟩) (fun (n16, y12, y13, t14) => eA F a2 a3 n16 (y12, y13) = some r5) (fun (n16, y12, y13, t14) => n16) (F, 0, x9, t11) H (aP [0, 0, 0] (.cons (.refl _) (.cons (.refl _) (.cons (.refl _) (.cons (.refl _) (.cons (.refl _) (.nil _)))))) rfl) ?_;rintro ⟨n16, y12, y13, t14⟩ H;obtain ⟨n16, rfl, H⟩ := cO H;replace H : iK F a2 a3 (eA F a2 a3 n16) y12 y13 = some r5 := H
  unfold iK at H
  refine af <| aa ?_;show AR _ _ _ _ _ [0] _;refine zS rfl (bC rfl rfl) <| ag <| af <| az rfl (fun c17 => ?_) (fun c17 => ?_)
  ·replace H := aZ c17 H;refine aC <| af <| aO <| af ?_;obtain ⟨g18, H⟩ := ay H;obtain ⟨x19, e20, H⟩ := bg H;refine aa ?_;show AR _ _ _ _ _ [0, 1, 2, 3] _;refine zS rfl (cn (E := (Enc.prod Enc.int (Enc.prod Enc.int (Enc.prod Enc.str (Enc.prod Enc.str (Enc.prod Enc.str (Enc.prod Enc.str Enc.int))))))) bm (by kernel_rfl) rfl rfl g18 e20) <| zS rfl (dC Tryz.underlying29 rfl (n := 7) (by kernel_rfl) rfl (ai rfl)) <| zX rfl (dF (zs := [.int .i64 0, .int .i64 0, .string ⟨#[]⟩, .string ⟨#[]⟩, .string ⟨#[]⟩, .string ⟨#[]⟩, .int .i64 0]) (by kernel_rfl)) ?_;rintro _ _ ⟨o21, rfl, rfl⟩;refine s0 rfl rfl (cT (i := 0) (vs := [i64 x19.1, i64 x19.2.1, S x19.2.2.1, S x19.2.2.2.1, S x19.2.2.2.2.1, S x19.2.2.2.2.2.1, i64 x19.2.2.2.2.2.2]) (by kernel_rfl) rfl rfl (by simp [cP, slE]) rfl (ai rfl)) <| ag <| bk (X := (List UInt8)) (fun y23 => ⟨[(2, .cp [S a1, S a2, .v (.func (.func 44) #[] #[])]), (5, .pt o6 0), (7, .pt o21 0), (11, slE (Enc.prod Enc.int (Enc.prod Enc.int (Enc.prod Enc.str (Enc.prod Enc.str (Enc.prod Enc.str (Enc.prod Enc.str Enc.int)))))) a3 q4), (12, i64 (a3.length : Int)), (13, i64 y12)], [], [.obj o21 [i64 x19.1, i64 x19.2.1, S x19.2.2.1, S y23, S x19.2.2.2.2.1, S x19.2.2.2.2.2.1, i64 x19.2.2.2.2.2.2], .obj o6 [.pt o6 0, slE Enc.byte y13 (some t14)], .ty o6 91, .tok t14 5]⟩) (fun y23 => fH F y12 y13 x19 (eA F a2 a3 n16) y23 = some r5) ?_ ?_
   ·refine af <| aa ?_;show AR _ _ _ _ _ [0, 1, 2, 3] _;refine zS rfl (al (n := 2) (by kernel_rfl) rfl) <| zS rfl (al (n := 1) (by kernel_rfl) rfl) <| zR rfl (am (i := 0) ab rfl rfl rfl rfl) <| zS rfl (eU rfl rfl) <| ag <| az rfl (fun c22 => ?_) (fun c22 => ?_)
    ·replace H := aZ c22 H;refine aa ?_;show AR _ _ _ _ _ [0, 1, 2] _;refine zS rfl (al (n := 2) (by kernel_rfl) rfl) <| zS rfl (al (n := 1) (by kernel_rfl) rfl) <| s0 rfl rfl (aw (i := 0) (c := .v _) (by kernel_rfl) rfl rfl rfl rfl (ai rfl)) <| ag ?_;exact Exists.intro ([40, 117, 110, 116, 105, 116, 108, 101, 100, 41] : List UInt8) ⟨H, aP [0, 0, 0, 0] (.cons (.refl _) (.cons (.refl _) (.cons (.refl _) (.cons (.refl _) (.cons (.refl _) (.cons (.refl _) (.nil _))))))) rfl⟩
    ·replace H := ba c22 H;refine aC ?_;exact Exists.intro x19.2.2.2.1 ⟨H, aP [0, 0, 0, 0] (.cons (.refl _) (.cons (.refl _) (.cons (.refl _) (.cons (.refl _) (.cons (.refl _) (.cons (.refl _) (.nil _))))))) rfl⟩
   rintro y23 H;replace H : fH F y12 y13 x19 (eA F a2 a3 n16) y23 = some r5 := H
   unfold fH at H
   obtain ⟨x25, e26, H⟩ := bK H;obtain ⟨g27, H⟩ := ay H;obtain ⟨x28, e29, H⟩ := bg H;refine aa ?_;show AR _ _ _ _ _ [0, 1, 2, 3, 4, 5] _;refine zS rfl (aV (n := 2) (by kernel_rfl) rfl (ai rfl)) <| zS rfl (aJ Tryz.underlying54 rfl rfl) <| zS rfl (al (n := 2) (by kernel_rfl) rfl) <| zR rfl (lv (i := 0) (n := 5) er rfl (by kernel_rfl) rfl rfl (ai rfl)) <| aq rfl rfl (AO.callFp rfl (.inr ⟨rfl, rfl, rfl⟩) xE rfl (tR F x19.2.2.1 y23 x19.2.2.2.2.1 x19.2.2.2.2.2.1 x19.2.2.2.2.2.2 x25 e26) ?_);refine aq rfl rfl (bI [1, 1, 1] rfl jB rfl (bN  o6 (.pt o6 0) (.inr rfl) y13 x25 t14 (jc g27)) rfl (fun c A' h => by cases h.1) ?_)
   rintro av A' ⟨h, t30, rfl⟩; cases h
   rw [e29]
   refine ag ?_;obtain ⟨g31, H⟩ := ay H;refine aa ?_;show AR _ _ _ _ _ [0, 1] _;refine zS rfl (bu rfl rfl g31) <| zm rfl <| ag ?_;exact Exists.intro (n16, y12 + 1, x28, t30) ⟨H, Nat.lt_succ_self _, aP [0, 0, 0] (.cons (.refl _) (.cons (.refl _) (.cons (.refl _) (.cons (.refl _) (.cons (.refl _) (.nil _)))))) rfl⟩
  ·replace H := ba c17 H;refine bZ ?_;exact Exists.intro (y13, t14) ⟨H, aP [0, 0, 0] (.cons (.refl _) (.cons (.refl _) (.nil _))) rfl⟩
 rintro ⟨y32, t33⟩ H;replace H : iJ a2 y32 = some r5 := H
 unfold iJ at H
 refine af ?_;obtain ⟨g35, H⟩ := ay H;obtain ⟨x36, e37, H⟩ := bg H;refine aa ?_;show AR _ _ _ _ _ [0, 1, 2] _;refine zS rfl (aV (n := 1) (by kernel_rfl) rfl (ai rfl)) <| zS rfl (aJ ab rfl rfl) <| aq rfl rfl (bI [0, 0, 0] rfl jB rfl (bN  o6 (.pt o6 0) (.inr rfl) y32 a2 t33 (jc g35)) rfl (fun c A' h => by cases h.1) ?_)
 rintro av A' ⟨h, t38, rfl⟩; cases h
 rw [e37]
 refine ag <| af ?_;obtain ⟨g39, H⟩ := ay H;refine aa ?_;show AR _ _ _ _ _ [0, 1] _;refine aq rfl rfl (bI [0, 1] rfl sm rfl (fh  o6 (.pt o6 0) x36 t38 (pO g39)) rfl (fun c A' h => by cases h.1) ?_)
 rintro av A' ⟨h, rfl⟩; cases h
 refine za rfl <| ag <| aL ?_;obtain rfl := ap H;exact And.intro rfl (Exists.intro _ (Exists.intro _ ⟨aH rfl (.refl _), aI [] rfl, rfl, rfl⟩))
set_option maxRecDepth 100000 in
set_option maxHeartbeats 1000000 in
theorem vx (F : Nat) (a1 : List UInt8) (a2 : List UInt8) (a3 : List (Int × Int × (List UInt8) × (List UInt8) × (List UInt8) × (List UInt8) × Int)) (q4 : Option Nat) (r5 : List UInt8) (H : oC F a1 a2 a3 = some r5) : ACalls Tryz.prog 26 [.agg [S a1, S a2, .v (.func (.func 24) #[] #[])], slE (Enc.prod Enc.int (Enc.prod Enc.int (Enc.prod Enc.str (Enc.prod Enc.str (Enc.prod Enc.str (Enc.prod Enc.str Enc.int)))))) a3 q4] [] (Ret (S r5) []) := by
 unfold oC at H
 refine ax Tryz.func26 rfl rfl ?_;show AW _ _ 34 _ _ _;refine af <| aa ?_;show AR _ _ _ _ _ [0, 1] _;refine zR rfl (jz rfl (.inr ⟨_, rfl⟩)) <| za rfl <| ag <| af <| aa ?_;show AR _ _ _ _ _ [0] _;refine zX rfl (jV (zs := [(.pointer none), .slice none 0 0]) (by kernel_rfl)) ?_;rintro _ _ ⟨o6, rfl, rfl⟩;refine ag <| af ?_;obtain ⟨g8, H⟩ := ay H;obtain ⟨x9, e10, H⟩ := bg H;refine aa ?_;show AR _ _ _ _ _ [0, 1, 2] _;refine zS rfl (aV (n := 0) (by kernel_rfl) rfl (ai rfl)) <| zS rfl (aJ ab rfl rfl) ?_
 refine AR.nil_objAt 0 1 1 5 rfl rfl fun t7 => ?_
 show AR _ _ _ _ _ _ ⟨_, _, [.tok t7 5, .obj o6 [.v (.pointer none), slE Enc.byte [] (some t7)], .ty o6 91]⟩;refine aq rfl rfl (bI [1, 1, 0] rfl jB rfl (bN  o6 (.v (.pointer none)) (.inl rfl) [] a1 t7 (jc g8)) rfl (fun c A' h => by cases h.1) ?_)
 rintro av A' ⟨h, t11, rfl⟩; cases h
 rw [e10]
 refine ag <| bk (X := (List UInt8) × Nat) (fun (y32, t33) => ⟨[(2, .cp [S a1, S a2, .v (.func (.func 24) #[] #[])]), (5, .pt o6 0)], [], [.obj o6 [.pt o6 0, slE Enc.byte y32 (some t33)], .ty o6 91, .tok t33 5]⟩) (fun (y32, t33) => iL a2 y32 = some r5) ?_ ?_
 ·refine af <| aa ?_;show AR _ _ _ _ _ [0, 1, 2] _;refine zS rfl (aj (av := slE _ _ _) rfl) <| zS rfl (aQ bm rfl) <| zm rfl <| ag <| aO <| cl (X := Nat × Int × (List UInt8) × Nat) (fun (n16, y12, y13, t14) => ⟨[(2, .cp [S a1, S a2, .v (.func (.func 24) #[] #[])]), (5, .pt o6 0), (11, slE (Enc.prod Enc.int (Enc.prod Enc.int (Enc.prod Enc.str (Enc.prod Enc.str (Enc.prod Enc.str (Enc.prod Enc.str Enc.int)))))) a3 q4), (12, i64 (a3.length : Int)), (13, i64 y12)], [], [.obj o6 [.pt o6 0, slE Enc.byte y13 (some t14)], .ty o6 91, .tok t14 5]⟩) (fun (n16, y12, y13, t14) => dP F a2 a3 n16 (y12, y13) = some r5) (fun (n16, y12, y13, t14) => n16) (F, 0, x9, t11) H (aP [0, 0, 0] (.cons (.refl _) (.cons (.refl _) (.cons (.refl _) (.cons (.refl _) (.cons (.refl _) (.nil _)))))) rfl) ?_;rintro ⟨n16, y12, y13, t14⟩ H;obtain ⟨n16, rfl, H⟩ := cO H;replace H : iM F a2 a3 (dP F a2 a3 n16) y12 y13 = some r5 := H
  unfold iM at H
  refine af <| aa ?_;show AR _ _ _ _ _ [0] _;refine zS rfl (bC rfl rfl) <| ag <| af <| az rfl (fun c17 => ?_) (fun c17 => ?_)
  ·replace H := aZ c17 H;refine aC <| af <| aO <| af ?_;obtain ⟨g18, H⟩ := ay H;obtain ⟨x19, e20, H⟩ := bg H;refine aa ?_;show AR _ _ _ _ _ [0, 1, 2, 3] _;refine zS rfl (cn (E := (Enc.prod Enc.int (Enc.prod Enc.int (Enc.prod Enc.str (Enc.prod Enc.str (Enc.prod Enc.str (Enc.prod Enc.str Enc.int))))))) bm (by kernel_rfl) rfl rfl g18 e20) <| zS rfl (dC Tryz.underlying29 rfl (n := 7) (by kernel_rfl) rfl (ai rfl)) <| zX rfl (dF (zs := [.int .i64 0, .int .i64 0, .string ⟨#[]⟩, .string ⟨#[]⟩, .string ⟨#[]⟩, .string ⟨#[]⟩, .int .i64 0]) (by kernel_rfl)) ?_;rintro _ _ ⟨o21, rfl, rfl⟩;refine s0 rfl rfl (cT (i := 0) (vs := [i64 x19.1, i64 x19.2.1, S x19.2.2.1, S x19.2.2.2.1, S x19.2.2.2.2.1, S x19.2.2.2.2.2.1, i64 x19.2.2.2.2.2.2]) (by kernel_rfl) rfl rfl (by simp [cP, slE]) rfl (ai rfl)) <| ag <| bk (X := (List UInt8)) (fun y23 => ⟨[(2, .cp [S a1, S a2, .v (.func (.func 24) #[] #[])]), (5, .pt o6 0), (7, .pt o21 0), (11, slE (Enc.prod Enc.int (Enc.prod Enc.int (Enc.prod Enc.str (Enc.prod Enc.str (Enc.prod Enc.str (Enc.prod Enc.str Enc.int)))))) a3 q4), (12, i64 (a3.length : Int)), (13, i64 y12)], [], [.obj o21 [i64 x19.1, i64 x19.2.1, S x19.2.2.1, S y23, S x19.2.2.2.2.1, S x19.2.2.2.2.2.1, i64 x19.2.2.2.2.2.2], .obj o6 [.pt o6 0, slE Enc.byte y13 (some t14)], .ty o6 91, .tok t14 5]⟩) (fun y23 => fI F y12 y13 x19 (dP F a2 a3 n16) y23 = some r5) ?_ ?_
   ·refine af <| aa ?_;show AR _ _ _ _ _ [0, 1, 2, 3] _;refine zS rfl (al (n := 2) (by kernel_rfl) rfl) <| zS rfl (al (n := 1) (by kernel_rfl) rfl) <| zR rfl (am (i := 0) ab rfl rfl rfl rfl) <| zS rfl (eU rfl rfl) <| ag <| az rfl (fun c22 => ?_) (fun c22 => ?_)
    ·replace H := aZ c22 H;refine aa ?_;show AR _ _ _ _ _ [0, 1, 2] _;refine zS rfl (al (n := 2) (by kernel_rfl) rfl) <| zS rfl (al (n := 1) (by kernel_rfl) rfl) <| s0 rfl rfl (aw (i := 0) (c := .v _) (by kernel_rfl) rfl rfl rfl rfl (ai rfl)) <| ag ?_;exact Exists.intro ([40, 117, 110, 116, 105, 116, 108, 101, 100, 41] : List UInt8) ⟨H, aP [0, 0, 0, 0] (.cons (.refl _) (.cons (.refl _) (.cons (.refl _) (.cons (.refl _) (.cons (.refl _) (.cons (.refl _) (.nil _))))))) rfl⟩
    ·replace H := ba c22 H;refine aC ?_;exact Exists.intro x19.2.2.2.1 ⟨H, aP [0, 0, 0, 0] (.cons (.refl _) (.cons (.refl _) (.cons (.refl _) (.cons (.refl _) (.cons (.refl _) (.cons (.refl _) (.nil _))))))) rfl⟩
   rintro y23 H;replace H : fI F y12 y13 x19 (dP F a2 a3 n16) y23 = some r5 := H
   unfold fI at H
   obtain ⟨x25, e26, H⟩ := bK H;obtain ⟨g27, H⟩ := ay H;obtain ⟨x28, e29, H⟩ := bg H;refine aa ?_;show AR _ _ _ _ _ [0, 1, 2, 3, 4, 5] _;refine zS rfl (aV (n := 2) (by kernel_rfl) rfl (ai rfl)) <| zS rfl (aJ Tryz.underlying54 rfl rfl) <| zS rfl (al (n := 2) (by kernel_rfl) rfl) <| zR rfl (lv (i := 0) (n := 5) er rfl (by kernel_rfl) rfl rfl (ai rfl)) <| aq rfl rfl (AO.callFp rfl (.inr ⟨rfl, rfl, rfl⟩) xO rfl (tT F x19.2.2.1 y23 x19.2.2.2.2.1 x19.2.2.2.2.2.1 x19.2.2.2.2.2.2 x25 e26) ?_);refine aq rfl rfl (bI [1, 1, 1] rfl jB rfl (bN  o6 (.pt o6 0) (.inr rfl) y13 x25 t14 (jc g27)) rfl (fun c A' h => by cases h.1) ?_)
   rintro av A' ⟨h, t30, rfl⟩; cases h
   rw [e29]
   refine ag ?_;obtain ⟨g31, H⟩ := ay H;refine aa ?_;show AR _ _ _ _ _ [0, 1] _;refine zS rfl (bu rfl rfl g31) <| zm rfl <| ag ?_;exact Exists.intro (n16, y12 + 1, x28, t30) ⟨H, Nat.lt_succ_self _, aP [0, 0, 0] (.cons (.refl _) (.cons (.refl _) (.cons (.refl _) (.cons (.refl _) (.cons (.refl _) (.nil _)))))) rfl⟩
  ·replace H := ba c17 H;refine bZ ?_;exact Exists.intro (y13, t14) ⟨H, aP [0, 0, 0] (.cons (.refl _) (.cons (.refl _) (.nil _))) rfl⟩
 rintro ⟨y32, t33⟩ H;replace H : iL a2 y32 = some r5 := H
 unfold iL at H
 refine af ?_;obtain ⟨g35, H⟩ := ay H;obtain ⟨x36, e37, H⟩ := bg H;refine aa ?_;show AR _ _ _ _ _ [0, 1, 2] _;refine zS rfl (aV (n := 1) (by kernel_rfl) rfl (ai rfl)) <| zS rfl (aJ ab rfl rfl) <| aq rfl rfl (bI [0, 0, 0] rfl jB rfl (bN  o6 (.pt o6 0) (.inr rfl) y32 a2 t33 (jc g35)) rfl (fun c A' h => by cases h.1) ?_)
 rintro av A' ⟨h, t38, rfl⟩; cases h
 rw [e37]
 refine ag <| af ?_;obtain ⟨g39, H⟩ := ay H;refine aa ?_;show AR _ _ _ _ _ [0, 1] _;refine aq rfl rfl (bI [0, 1] rfl sm rfl (fh  o6 (.pt o6 0) x36 t38 (pO g39)) rfl (fun c A' h => by cases h.1) ?_)
 rintro av A' ⟨h, rfl⟩; cases h
 refine za rfl <| ag <| aL ?_;obtain rfl := ap H;exact And.intro rfl (Exists.intro _ (Exists.intro _ ⟨aH rfl (.refl _), aI [] rfl, rfl, rfl⟩))
set_option maxRecDepth 100000 in
set_option maxHeartbeats 1000000 in
theorem jQ (F : Nat) (a1 : List (Int × Int × (List UInt8) × (List UInt8) × (List UInt8) × (List UInt8) × Int)) (q2 : Option Nat) (r3 : List UInt8) (H : gS F a1 = some r3) : ACalls Tryz.prog 17 [slE (Enc.prod Enc.int (Enc.prod Enc.int (Enc.prod Enc.str (Enc.prod Enc.str (Enc.prod Enc.str (Enc.prod Enc.str Enc.int)))))) a1 q2] [] (Ret (S r3) []) := by
 unfold gS at H
 refine ax Tryz.func17 rfl rfl ?_;show AW _ _ 6 _ _ _;refine af <| aa ?_;show AR _ _ _ _ _ [0] _;refine za rfl <| ag <| af ?_;obtain ⟨x4, e5, H⟩ := bK H;refine aa ?_;show AR _ _ _ _ _ [0, 1, 2, 3] _;refine zS rfl (du (zs := [.string ⟨#[]⟩, .string ⟨#[]⟩, .nilFunc]) (ps := [(0, 1), (1, 1), (2, 1)]) (cs := [S ([] : List UInt8), S ([] : List UInt8), .v (.func (.func 44) #[] #[])]) (by kernel_rfl) rfl rfl) <| zS rfl (aj (av := slE _ _ _) rfl) <| aq rfl rfl (aD rfl sv rfl (vv F ([] : List UInt8) ([] : List UInt8) a1 q2 x4 e5) ?_);refine za rfl <| ag <| aL ?_;obtain rfl := ap H;exact And.intro rfl (Exists.intro _ (Exists.intro _ ⟨aH rfl (.refl _), aI [] rfl, rfl, rfl⟩))
set_option maxRecDepth 100000 in
set_option maxHeartbeats 1000000 in
theorem jR (F : Nat) (a1 : List (Int × Int × (List UInt8) × (List UInt8) × (List UInt8) × (List UInt8) × Int)) (q2 : Option Nat) (r3 : List UInt8) (H : gV F a1 = some r3) : ACalls Tryz.prog 11 [slE (Enc.prod Enc.int (Enc.prod Enc.int (Enc.prod Enc.str (Enc.prod Enc.str (Enc.prod Enc.str (Enc.prod Enc.str Enc.int)))))) a1 q2] [] (Ret (S r3) []) := by
 unfold gV at H
 refine ax Tryz.func11 rfl rfl ?_;show AW _ _ 6 _ _ _;refine af <| aa ?_;show AR _ _ _ _ _ [0] _;refine za rfl <| ag <| af ?_;obtain ⟨x4, e5, H⟩ := bK H;refine aa ?_;show AR _ _ _ _ _ [0, 1, 2, 3] _;refine zS rfl (du (zs := [.string ⟨#[]⟩, .string ⟨#[]⟩, .nilFunc]) (ps := [(0, 1), (1, 1), (2, 1)]) (cs := [S ([60, 117, 108, 62, 10] : List UInt8), S ([60, 47, 117, 108, 62, 10] : List UInt8), .v (.func (.func 24) #[] #[])]) (by kernel_rfl) rfl rfl) <| zS rfl (aj (av := slE _ _ _) rfl) <| aq rfl rfl (aD rfl sv rfl (vx F ([60, 117, 108, 62, 10] : List UInt8) ([60, 47, 117, 108, 62, 10] : List UInt8) a1 q2 x4 e5) ?_);refine za rfl <| ag <| aL ?_;obtain rfl := ap H;exact And.intro rfl (Exists.intro _ (Exists.intro _ ⟨aH rfl (.refl _), aI [] rfl, rfl, rfl⟩))
end Go.Proofs.YtjegcifofddgbaaGreatDoor
namespace Go.Pv
def stamp_k1 : List UInt8 := [83, 117, 110, 77, 111, 110, 84, 117, 101, 87, 101, 100, 84, 104, 117, 70, 114, 105, 83, 97, 116]
def stamp_k2 : List UInt8 := [74, 97, 110, 70, 101, 98, 77, 97, 114, 65, 112, 114, 77, 97, 121, 74, 117, 110, 74, 117, 108, 65, 117, 103, 83, 101, 112, 79, 99, 116, 78, 111, 118, 68, 101, 99]
def fg (a3 : Int) (y8 : Int) (y9 : Int) : Option Int :=
grd (dJ y8 400) <|
grd (okI (146097 * (y8 / 400))) <|
grd (dJ y8 400) <|
grd (okI (365 * (y8 % 400))) <|
grd (okI ((146097 * (y8 / 400)) + (365 * (y8 % 400)))) <|
grd (dJ y8 400) <|
grd (dJ (y8 % 400) 4) <|
grd (okI (((146097 * (y8 / 400)) + (365 * (y8 % 400))) + ((y8 % 400) / 4))) <|
grd (dJ y8 400) <|
grd (dJ (y8 % 400) 100) <|
grd (okI ((((146097 * (y8 / 400)) + (365 * (y8 % 400))) + ((y8 % 400) / 4)) - ((y8 % 400) / 100))) <|
grd (okI (y9 - 3)) <|
grd (okI (153 * (y9 - 3))) <|
grd (okI ((153 * (y9 - 3)) + 2)) <|
grd (dJ ((153 * (y9 - 3)) + 2) 5) <|
grd (okI (((((146097 * (y8 / 400)) + (365 * (y8 % 400))) + ((y8 % 400) / 4)) - ((y8 % 400) / 100)) + (((153 * (y9 - 3)) + 2) / 5))) <|
grd (okI ((((((146097 * (y8 / 400)) + (365 * (y8 % 400))) + ((y8 % 400) / 4)) - ((y8 % 400) / 100)) + (((153 * (y9 - 3)) + 2) / 5)) + a3)) <|
grd (okI (((((((146097 * (y8 / 400)) + (365 * (y8 % 400))) + ((y8 % 400) / 4)) - ((y8 % 400) / 100)) + (((153 * (y9 - 3)) + 2) / 5)) + a3) - 1)) <|
grd (okI ((((((((146097 * (y8 / 400)) + (365 * (y8 % 400))) + ((y8 % 400) / 4)) - ((y8 % 400) / 100)) + (((153 * (y9 - 3)) + 2) / 5)) + a3) - 1) - 719468)) <|
some ((((((((146097 * (y8 / 400)) + (365 * (y8 % 400))) + ((y8 % 400) / 4)) - ((y8 % 400) / 100)) + (((153 * (y9 - 3)) + 2) / 5)) + a3) - 1) - 719468)
def ju (F : Nat) (a1 : Int) (a2 : Int) (a3 : Int) : Option Int :=
bif decide (a2 ≤ 2) then
  grd (okI (a1 - 1)) <|
  grd (okI (a2 + 12)) <|
  fg a3 (a1 - 1) (a2 + 12)
else
  fg a3 a1 a2
def ge (a1 : Int) (y42 : Int) (y43 : Int) : Option (Int × Int × Int × Int) :=
some (y42, y43, ((((a1 + 719468) % 146097) - (((365 * ((((((a1 + 719468) % 146097) - (((a1 + 719468) % 146097) / 1460)) + (((a1 + 719468) % 146097) / 36524)) - (((a1 + 719468) % 146097) / 146096)) / 365)) + (((((((a1 + 719468) % 146097) - (((a1 + 719468) % 146097) / 1460)) + (((a1 + 719468) % 146097) / 36524)) - (((a1 + 719468) % 146097) / 146096)) / 365) / 4)) - (((((((a1 + 719468) % 146097) - (((a1 + 719468) % 146097) / 1460)) + (((a1 + 719468) % 146097) / 36524)) - (((a1 + 719468) % 146097) / 146096)) / 365) / 100))) - (((153 * (((5 * (((a1 + 719468) % 146097) - (((365 * ((((((a1 + 719468) % 146097) - (((a1 + 719468) % 146097) / 1460)) + (((a1 + 719468) % 146097) / 36524)) - (((a1 + 719468) % 146097) / 146096)) / 365)) + (((((((a1 + 719468) % 146097) - (((a1 + 719468) % 146097) / 1460)) + (((a1 + 719468) % 146097) / 36524)) - (((a1 + 719468) % 146097) / 146096)) / 365) / 4)) - (((((((a1 + 719468) % 146097) - (((a1 + 719468) % 146097) / 1460)) + (((a1 + 719468) % 146097) / 36524)) - (((a1 + 719468) % 146097) / 146096)) / 365) / 100)))) + 2) / 153)) + 2) / 5)) + 1, 0)
def nL (F : Nat) (a1 : Int) : Option (Int × Int × Int × Int) :=
bnd (ju F 1 1 1) fun x6 =>
kN (!(decide (a1 < x6))) (ju F 9999 12 31) fun x9 =>
bif (decide (a1 < x6)) || (decide (x9 < a1)) then
  some (0, 0, 0, 1)
else
  grd (okI (a1 + 719468)) <|
  grd (dJ (a1 + 719468) 146097) <|
  grd (dJ ((a1 + 719468) % 146097) 1460) <|
  grd (okI (((a1 + 719468) % 146097) - (((a1 + 719468) % 146097) / 1460))) <|
  grd (dJ ((a1 + 719468) % 146097) 36524) <|
  grd (okI ((((a1 + 719468) % 146097) - (((a1 + 719468) % 146097) / 1460)) + (((a1 + 719468) % 146097) / 36524))) <|
  grd (dJ ((a1 + 719468) % 146097) 146096) <|
  grd (okI (((((a1 + 719468) % 146097) - (((a1 + 719468) % 146097) / 1460)) + (((a1 + 719468) % 146097) / 36524)) - (((a1 + 719468) % 146097) / 146096))) <|
  grd (dJ (((((a1 + 719468) % 146097) - (((a1 + 719468) % 146097) / 1460)) + (((a1 + 719468) % 146097) / 36524)) - (((a1 + 719468) % 146097) / 146096)) 365) <|
  grd (okI (365 * ((((((a1 + 719468) % 146097) - (((a1 + 719468) % 146097) / 1460)) + (((a1 + 719468) % 146097) / 36524)) - (((a1 + 719468) % 146097) / 146096)) / 365))) <|
  grd (dJ ((((((a1 + 719468) % 146097) - (((a1 + 719468) % 146097) / 1460)) + (((a1 + 719468) % 146097) / 36524)) - (((a1 + 719468) % 146097) / 146096)) / 365) 4) <|
  grd (okI ((365 * ((((((a1 + 719468) % 146097) - (((a1 + 719468) % 146097) / 1460)) + (((a1 + 719468) % 146097) / 36524)) - (((a1 + 719468) % 146097) / 146096)) / 365)) + (((((((a1 + 719468) % 146097) - (((a1 + 719468) % 146097) / 1460)) + (((a1 + 719468) % 146097) / 36524)) - (((a1 + 719468) % 146097) / 146096)) / 365) / 4))) <|
  grd (dJ ((((((a1 + 719468) % 146097) - (((a1 + 719468) % 146097) / 1460)) + (((a1 + 719468) % 146097) / 36524)) - (((a1 + 719468) % 146097) / 146096)) / 365) 100) <|
  grd (okI (((365 * ((((((a1 + 719468) % 146097) - (((a1 + 719468) % 146097) / 1460)) + (((a1 + 719468) % 146097) / 36524)) - (((a1 + 719468) % 146097) / 146096)) / 365)) + (((((((a1 + 719468) % 146097) - (((a1 + 719468) % 146097) / 1460)) + (((a1 + 719468) % 146097) / 36524)) - (((a1 + 719468) % 146097) / 146096)) / 365) / 4)) - (((((((a1 + 719468) % 146097) - (((a1 + 719468) % 146097) / 1460)) + (((a1 + 719468) % 146097) / 36524)) - (((a1 + 719468) % 146097) / 146096)) / 365) / 100))) <|
  grd (okI (((a1 + 719468) % 146097) - (((365 * ((((((a1 + 719468) % 146097) - (((a1 + 719468) % 146097) / 1460)) + (((a1 + 719468) % 146097) / 36524)) - (((a1 + 719468) % 146097) / 146096)) / 365)) + (((((((a1 + 719468) % 146097) - (((a1 + 719468) % 146097) / 1460)) + (((a1 + 719468) % 146097) / 36524)) - (((a1 + 719468) % 146097) / 146096)) / 365) / 4)) - (((((((a1 + 719468) % 146097) - (((a1 + 719468) % 146097) / 1460)) + (((a1 + 719468) % 146097) / 36524)) - (((a1 + 719468) % 146097) / 146096)) / 365) / 100)))) <|
  grd (okI (5 * (((a1 + 719468) % 146097) - (((365 * ((((((a1 + 719468) % 146097) - (((a1 + 719468) % 146097) / 1460)) + (((a1 + 719468) % 146097) / 36524)) - (((a1 + 719468) % 146097) / 146096)) / 365)) + (((((((a1 + 719468) % 146097) - (((a1 + 719468) % 146097) / 1460)) + (((a1 + 719468) % 146097) / 36524)) - (((a1 + 719468) % 146097) / 146096)) / 365) / 4)) - (((((((a1 + 719468) % 146097) - (((a1 + 719468) % 146097) / 1460)) + (((a1 + 719468) % 146097) / 36524)) - (((a1 + 719468) % 146097) / 146096)) / 365) / 100))))) <|
  grd (okI ((5 * (((a1 + 719468) % 146097) - (((365 * ((((((a1 + 719468) % 146097) - (((a1 + 719468) % 146097) / 1460)) + (((a1 + 719468) % 146097) / 36524)) - (((a1 + 719468) % 146097) / 146096)) / 365)) + (((((((a1 + 719468) % 146097) - (((a1 + 719468) % 146097) / 1460)) + (((a1 + 719468) % 146097) / 36524)) - (((a1 + 719468) % 146097) / 146096)) / 365) / 4)) - (((((((a1 + 719468) % 146097) - (((a1 + 719468) % 146097) / 1460)) + (((a1 + 719468) % 146097) / 36524)) - (((a1 + 719468) % 146097) / 146096)) / 365) / 100)))) + 2)) <|
  grd (dJ ((5 * (((a1 + 719468) % 146097) - (((365 * ((((((a1 + 719468) % 146097) - (((a1 + 719468) % 146097) / 1460)) + (((a1 + 719468) % 146097) / 36524)) - (((a1 + 719468) % 146097) / 146096)) / 365)) + (((((((a1 + 719468) % 146097) - (((a1 + 719468) % 146097) / 1460)) + (((a1 + 719468) % 146097) / 36524)) - (((a1 + 719468) % 146097) / 146096)) / 365) / 4)) - (((((((a1 + 719468) % 146097) - (((a1 + 719468) % 146097) / 1460)) + (((a1 + 719468) % 146097) / 36524)) - (((a1 + 719468) % 146097) / 146096)) / 365) / 100)))) + 2) 153) <|
  grd (okI (153 * (((5 * (((a1 + 719468) % 146097) - (((365 * ((((((a1 + 719468) % 146097) - (((a1 + 719468) % 146097) / 1460)) + (((a1 + 719468) % 146097) / 36524)) - (((a1 + 719468) % 146097) / 146096)) / 365)) + (((((((a1 + 719468) % 146097) - (((a1 + 719468) % 146097) / 1460)) + (((a1 + 719468) % 146097) / 36524)) - (((a1 + 719468) % 146097) / 146096)) / 365) / 4)) - (((((((a1 + 719468) % 146097) - (((a1 + 719468) % 146097) / 1460)) + (((a1 + 719468) % 146097) / 36524)) - (((a1 + 719468) % 146097) / 146096)) / 365) / 100)))) + 2) / 153))) <|
  grd (okI ((153 * (((5 * (((a1 + 719468) % 146097) - (((365 * ((((((a1 + 719468) % 146097) - (((a1 + 719468) % 146097) / 1460)) + (((a1 + 719468) % 146097) / 36524)) - (((a1 + 719468) % 146097) / 146096)) / 365)) + (((((((a1 + 719468) % 146097) - (((a1 + 719468) % 146097) / 1460)) + (((a1 + 719468) % 146097) / 36524)) - (((a1 + 719468) % 146097) / 146096)) / 365) / 4)) - (((((((a1 + 719468) % 146097) - (((a1 + 719468) % 146097) / 1460)) + (((a1 + 719468) % 146097) / 36524)) - (((a1 + 719468) % 146097) / 146096)) / 365) / 100)))) + 2) / 153)) + 2)) <|
  grd (dJ ((153 * (((5 * (((a1 + 719468) % 146097) - (((365 * ((((((a1 + 719468) % 146097) - (((a1 + 719468) % 146097) / 1460)) + (((a1 + 719468) % 146097) / 36524)) - (((a1 + 719468) % 146097) / 146096)) / 365)) + (((((((a1 + 719468) % 146097) - (((a1 + 719468) % 146097) / 1460)) + (((a1 + 719468) % 146097) / 36524)) - (((a1 + 719468) % 146097) / 146096)) / 365) / 4)) - (((((((a1 + 719468) % 146097) - (((a1 + 719468) % 146097) / 1460)) + (((a1 + 719468) % 146097) / 36524)) - (((a1 + 719468) % 146097) / 146096)) / 365) / 100)))) + 2) / 153)) + 2) 5) <|
  grd (okI ((((a1 + 719468) % 146097) - (((365 * ((((((a1 + 719468) % 146097) - (((a1 + 719468) % 146097) / 1460)) + (((a1 + 719468) % 146097) / 36524)) - (((a1 + 719468) % 146097) / 146096)) / 365)) + (((((((a1 + 719468) % 146097) - (((a1 + 719468) % 146097) / 1460)) + (((a1 + 719468) % 146097) / 36524)) - (((a1 + 719468) % 146097) / 146096)) / 365) / 4)) - (((((((a1 + 719468) % 146097) - (((a1 + 719468) % 146097) / 1460)) + (((a1 + 719468) % 146097) / 36524)) - (((a1 + 719468) % 146097) / 146096)) / 365) / 100))) - (((153 * (((5 * (((a1 + 719468) % 146097) - (((365 * ((((((a1 + 719468) % 146097) - (((a1 + 719468) % 146097) / 1460)) + (((a1 + 719468) % 146097) / 36524)) - (((a1 + 719468) % 146097) / 146096)) / 365)) + (((((((a1 + 719468) % 146097) - (((a1 + 719468) % 146097) / 1460)) + (((a1 + 719468) % 146097) / 36524)) - (((a1 + 719468) % 146097) / 146096)) / 365) / 4)) - (((((((a1 + 719468) % 146097) - (((a1 + 719468) % 146097) / 1460)) + (((a1 + 719468) % 146097) / 36524)) - (((a1 + 719468) % 146097) / 146096)) / 365) / 100)))) + 2) / 153)) + 2) / 5))) <|
  grd (okI (((((a1 + 719468) % 146097) - (((365 * ((((((a1 + 719468) % 146097) - (((a1 + 719468) % 146097) / 1460)) + (((a1 + 719468) % 146097) / 36524)) - (((a1 + 719468) % 146097) / 146096)) / 365)) + (((((((a1 + 719468) % 146097) - (((a1 + 719468) % 146097) / 1460)) + (((a1 + 719468) % 146097) / 36524)) - (((a1 + 719468) % 146097) / 146096)) / 365) / 4)) - (((((((a1 + 719468) % 146097) - (((a1 + 719468) % 146097) / 1460)) + (((a1 + 719468) % 146097) / 36524)) - (((a1 + 719468) % 146097) / 146096)) / 365) / 100))) - (((153 * (((5 * (((a1 + 719468) % 146097) - (((365 * ((((((a1 + 719468) % 146097) - (((a1 + 719468) % 146097) / 1460)) + (((a1 + 719468) % 146097) / 36524)) - (((a1 + 719468) % 146097) / 146096)) / 365)) + (((((((a1 + 719468) % 146097) - (((a1 + 719468) % 146097) / 1460)) + (((a1 + 719468) % 146097) / 36524)) - (((a1 + 719468) % 146097) / 146096)) / 365) / 4)) - (((((((a1 + 719468) % 146097) - (((a1 + 719468) % 146097) / 1460)) + (((a1 + 719468) % 146097) / 36524)) - (((a1 + 719468) % 146097) / 146096)) / 365) / 100)))) + 2) / 153)) + 2) / 5)) + 1)) <|
  grd (dJ (a1 + 719468) 146097) <|
  grd (okI (((a1 + 719468) / 146097) * 400)) <|
  grd (okI ((((a1 + 719468) / 146097) * 400) + ((((((a1 + 719468) % 146097) - (((a1 + 719468) % 146097) / 1460)) + (((a1 + 719468) % 146097) / 36524)) - (((a1 + 719468) % 146097) / 146096)) / 365))) <|
  grd (okI ((((5 * (((a1 + 719468) % 146097) - (((365 * ((((((a1 + 719468) % 146097) - (((a1 + 719468) % 146097) / 1460)) + (((a1 + 719468) % 146097) / 36524)) - (((a1 + 719468) % 146097) / 146096)) / 365)) + (((((((a1 + 719468) % 146097) - (((a1 + 719468) % 146097) / 1460)) + (((a1 + 719468) % 146097) / 36524)) - (((a1 + 719468) % 146097) / 146096)) / 365) / 4)) - (((((((a1 + 719468) % 146097) - (((a1 + 719468) % 146097) / 1460)) + (((a1 + 719468) % 146097) / 36524)) - (((a1 + 719468) % 146097) / 146096)) / 365) / 100)))) + 2) / 153) + 3)) <|
  bif decide (12 < (((5 * (((a1 + 719468) % 146097) - (((365 * ((((((a1 + 719468) % 146097) - (((a1 + 719468) % 146097) / 1460)) + (((a1 + 719468) % 146097) / 36524)) - (((a1 + 719468) % 146097) / 146096)) / 365)) + (((((((a1 + 719468) % 146097) - (((a1 + 719468) % 146097) / 1460)) + (((a1 + 719468) % 146097) / 36524)) - (((a1 + 719468) % 146097) / 146096)) / 365) / 4)) - (((((((a1 + 719468) % 146097) - (((a1 + 719468) % 146097) / 1460)) + (((a1 + 719468) % 146097) / 36524)) - (((a1 + 719468) % 146097) / 146096)) / 365) / 100)))) + 2) / 153) + 3) then
    grd (okI (((((5 * (((a1 + 719468) % 146097) - (((365 * ((((((a1 + 719468) % 146097) - (((a1 + 719468) % 146097) / 1460)) + (((a1 + 719468) % 146097) / 36524)) - (((a1 + 719468) % 146097) / 146096)) / 365)) + (((((((a1 + 719468) % 146097) - (((a1 + 719468) % 146097) / 1460)) + (((a1 + 719468) % 146097) / 36524)) - (((a1 + 719468) % 146097) / 146096)) / 365) / 4)) - (((((((a1 + 719468) % 146097) - (((a1 + 719468) % 146097) / 1460)) + (((a1 + 719468) % 146097) / 36524)) - (((a1 + 719468) % 146097) / 146096)) / 365) / 100)))) + 2) / 153) + 3) - 12)) <|
    grd (okI (((((a1 + 719468) / 146097) * 400) + ((((((a1 + 719468) % 146097) - (((a1 + 719468) % 146097) / 1460)) + (((a1 + 719468) % 146097) / 36524)) - (((a1 + 719468) % 146097) / 146096)) / 365)) + 1)) <|
    ge a1 (((((a1 + 719468) / 146097) * 400) + ((((((a1 + 719468) % 146097) - (((a1 + 719468) % 146097) / 1460)) + (((a1 + 719468) % 146097) / 36524)) - (((a1 + 719468) % 146097) / 146096)) / 365)) + 1) (((((5 * (((a1 + 719468) % 146097) - (((365 * ((((((a1 + 719468) % 146097) - (((a1 + 719468) % 146097) / 1460)) + (((a1 + 719468) % 146097) / 36524)) - (((a1 + 719468) % 146097) / 146096)) / 365)) + (((((((a1 + 719468) % 146097) - (((a1 + 719468) % 146097) / 1460)) + (((a1 + 719468) % 146097) / 36524)) - (((a1 + 719468) % 146097) / 146096)) / 365) / 4)) - (((((((a1 + 719468) % 146097) - (((a1 + 719468) % 146097) / 1460)) + (((a1 + 719468) % 146097) / 36524)) - (((a1 + 719468) % 146097) / 146096)) / 365) / 100)))) + 2) / 153) + 3) - 12)
  else
    ge a1 ((((a1 + 719468) / 146097) * 400) + ((((((a1 + 719468) % 146097) - (((a1 + 719468) % 146097) / 1460)) + (((a1 + 719468) % 146097) / 36524)) - (((a1 + 719468) % 146097) / 146096)) / 365)) ((((5 * (((a1 + 719468) % 146097) - (((365 * ((((((a1 + 719468) % 146097) - (((a1 + 719468) % 146097) / 1460)) + (((a1 + 719468) % 146097) / 36524)) - (((a1 + 719468) % 146097) / 146096)) / 365)) + (((((((a1 + 719468) % 146097) - (((a1 + 719468) % 146097) / 1460)) + (((a1 + 719468) % 146097) / 36524)) - (((a1 + 719468) % 146097) / 146096)) / 365) / 4)) - (((((((a1 + 719468) % 146097) - (((a1 + 719468) % 146097) / 1460)) + (((a1 + 719468) % 146097) / 36524)) - (((a1 + 719468) % 146097) / 146096)) / 365) / 100)))) + 2) / 153) + 3)
def nK (F : Nat) (a1 : Int) : Option Int :=
bif (decide (a1 < (-1099511627776))) || (decide (1099511627776 < a1)) then
  some 0
else
  grd (okI (a1 + 4)) <|
  grd (okI ((Int.tmod (a1 + 4) 7) + 7)) <|
  some (Int.tmod ((Int.tmod (a1 + 4) 7) + 7) 7)
def ki (F : Nat) (a1 : Int) (a2 : Int) : Option (Int × Int) :=
grd (dJ a1 a2) <|
grd (okI ((a1 % a2) + a2)) <|
grd (dJ ((a1 % a2) + a2) a2) <|
grd (okI (a1 - (((a1 % a2) + a2) % a2))) <|
grd (dJ (a1 - (((a1 % a2) + a2) % a2)) a2) <|
some ((a1 - (((a1 % a2) + a2) % a2)) / a2, ((a1 % a2) + a2) % a2)
def qR (F : Nat) (a1 : Int) : Option (Int × Int × Int × Int × Int × Int × Int) :=
bif (decide (a1 < (-1099511627776))) || (decide (1099511627776 < a1)) then
  some (0, 0, 0, 0, 0, 0, 1)
else
  hC (ki F a1 86400) fun x12 x13 =>
  bnd4 (nL F x12) fun x15 x16 x17 x18 =>
  bif !decide (x18 = 0) then
    some (0, 0, 0, 0, 0, 0, x18)
  else
    grd (dJ x13 3600) <|
    grd (dJ x13 60) <|
    grd (dJ (x13 / 60) 60) <|
    grd (dJ x13 60) <|
    some (x15, x16, x17, x13 / 3600, (x13 / 60) % 60, x13 % 60, 0)
def fu (F : Nat) (a1 : Int) : Option ((List UInt8)) :=
grd (dJ a1 10) <|
grd (dJ (a1 / 10) 10) <|
grd (okI (48 + ((a1 / 10) % 10))) <|
grd (dJ a1 10) <|
grd (okI (48 + (a1 % 10))) <|
some ([Go.Av.toB (48 + ((a1 / 10) % 10)), Go.Av.toB (48 + (a1 % 10))] : List UInt8)
def nt (F : Nat) (a1 : Int) : Option ((List UInt8)) :=
grd (dJ a1 100) <|
bnd (fu F (a1 / 100)) fun x4 =>
bnd (fu F a1) fun x6 =>
grd (bt (x4.length + x6.length)) <|
lt (x4 ++ x6) fun x9 =>
some x9
def mc (F : Nat) (a1 : Int) (a2 : Int) (a3 : Int) (a4 : Int) (a5 : Int) (a6 : Int) : Option ((List UInt8)) :=
bnd (fu F a4) fun x8 =>
grd (bt (x8.length + ([58] : List UInt8).length)) <|
lt (x8 ++ ([58] : List UInt8)) fun x11 =>
bnd (fu F a5) fun x13 =>
grd (bt (x11.length + x13.length)) <|
lt (x11 ++ x13) fun x16 =>
grd (bt (x16.length + ([58] : List UInt8).length)) <|
lt (x16 ++ ([58] : List UInt8)) fun x19 =>
bnd (fu F a6) fun x21 =>
grd (bt (x19.length + x21.length)) <|
lt (x19 ++ x21) fun x24 =>
some x24
def fW (F : Nat) (x10 : Int × Int × Int × Int × Int × Int × Int) (x20 : Int) (y25 : Int) (y26 : List UInt8) : Option ((List UInt8) × Int) :=
grd (okI ((x20 * 3) + 3)) <|
grd (qa (x20 * 3) ((x20 * 3) + 3) stamp_k1.length) <|
lt (sub stamp_k1 (x20 * 3) ((x20 * 3) + 3)) fun x30 =>
grd (bt (x30.length + ([44, 32] : List UInt8).length)) <|
lt (x30 ++ ([44, 32] : List UInt8)) fun x33 =>
grd (okI (((x10.2.1 - 1) * 3) + 3)) <|
grd (qa ((x10.2.1 - 1) * 3) (((x10.2.1 - 1) * 3) + 3) stamp_k2.length) <|
lt (sub stamp_k2 ((x10.2.1 - 1) * 3) (((x10.2.1 - 1) * 3) + 3)) fun x37 =>
grd (dJ y25 3600) <|
grd (dJ y25 60) <|
grd (dJ (y25 / 60) 60) <|
bnd (fu F x10.2.2.1) fun x42 =>
grd (bt (x33.length + x42.length)) <|
lt (x33 ++ x42) fun x45 =>
grd (bt (x45.length + ([32] : List UInt8).length)) <|
lt (x45 ++ ([32] : List UInt8)) fun x48 =>
grd (bt (x48.length + x37.length)) <|
lt (x48 ++ x37) fun x51 =>
grd (bt (x51.length + ([32] : List UInt8).length)) <|
lt (x51 ++ ([32] : List UInt8)) fun x54 =>
bnd (nt F x10.1) fun x56 =>
grd (bt (x54.length + x56.length)) <|
lt (x54 ++ x56) fun x59 =>
grd (bt (x59.length + ([32] : List UInt8).length)) <|
lt (x59 ++ ([32] : List UInt8)) fun x62 =>
bnd (mc F x10.1 x10.2.1 x10.2.2.1 x10.2.2.2.1 x10.2.2.2.2.1 x10.2.2.2.2.2.1) fun x64 =>
grd (bt (x62.length + x64.length)) <|
lt (x62 ++ x64) fun x67 =>
grd (bt (x67.length + ([32] : List UInt8).length)) <|
lt (x67 ++ ([32] : List UInt8)) fun x70 =>
grd (bt (x70.length + y26.length)) <|
lt (x70 ++ y26) fun x73 =>
bnd (fu F (y25 / 3600)) fun x75 =>
grd (bt (x73.length + x75.length)) <|
lt (x73 ++ x75) fun x78 =>
bnd (fu F ((y25 / 60) % 60)) fun x80 =>
grd (bt (x78.length + x80.length)) <|
lt (x78 ++ x80) fun x83 =>
some (x83, 0)
def nu (F : Nat) (a1 : Int) (a2 : Int) : Option ((List UInt8) × Int) :=
bif (((decide (a2 < (-93599))) || (decide (93599 < a2))) || (decide (a1 < (-1099511627776)))) || (decide (1099511627776 < a1)) then
  some (([] : List UInt8), 1)
else
  grd (okI (a1 + a2)) <|
  bnd (qR F (a1 + a2)) fun x10 =>
  bif !decide (x10.2.2.2.2.2.2 = 0) then
    some (([] : List UInt8), x10.2.2.2.2.2.2)
  else
    grd (okI (a1 + a2)) <|
    hC (ki F (a1 + a2) 86400) fun x15 x16 =>
    grd (okI (x10.2.1 - 1)) <|
    grd (okI ((x10.2.1 - 1) * 3)) <|
    bnd (nK F x15) fun x20 =>
    grd (okI (x20 * 3)) <|
    bif decide (a2 < 0) then
      grd (okI (0 - a2)) <|
      fW F x10 x20 (0 - a2) ([45] : List UInt8)
    else
      fW F x10 x20 a2 ([43] : List UInt8)
end Go.Pv
namespace Go.Proofs.YtjegcifofddgbaaGreatDoor
open Go.RowKit Go.Av Go.Pv
theorem wd : ∀ (args : Array Value) (w : World), (callFunc 66 args).run Tryz.prog w = .ok (.enter 66 args) w := fun _ _ => by kernel_rfl
theorem qF : ∀ (args : Array Value) (w : World), (callFunc 67 args).run Tryz.prog w = .ok (.enter 67 args) w := fun _ _ => by kernel_rfl
theorem wc : ∀ (args : Array Value) (w : World), (callFunc 68 args).run Tryz.prog w = .ok (.enter 68 args) w := fun _ _ => by kernel_rfl
theorem fL : ∀ (args : Array Value) (w : World), (callFunc 69 args).run Tryz.prog w = .ok (.enter 69 args) w := fun _ _ => by kernel_rfl
theorem wb : ∀ (args : Array Value) (w : World), (callFunc 70 args).run Tryz.prog w = .ok (.enter 70 args) w := fun _ _ => by kernel_rfl
theorem wa : ∀ (args : Array Value) (w : World), (callFunc 71 args).run Tryz.prog w = .ok (.enter 71 args) w := fun _ _ => by kernel_rfl
theorem uN : ∀ (args : Array Value) (w : World), (callFunc 121 args).run Tryz.prog w = .ok (.enter 121 args) w := fun _ _ => by kernel_rfl
theorem pK : ∀ (args : Array Value) (w : World), (callFunc 170 args).run Tryz.prog w = .ok (.enter 170 args) w := fun _ _ => by kernel_rfl
set_option maxRecDepth 100000 in
set_option maxHeartbeats 1000000 in
theorem lV (F : Nat) (a1 : Int) (a2 : Int) (a3 : Int) (r4 : Int) (H : ju F a1 a2 a3 = some r4) : ACalls Tryz.prog 170 [i64 a1, i64 a2, i64 a3] [] (Ret (i64 r4) []) := by
 unfold ju at H
 refine ax Tryz.func170 rfl rfl ?_;show AW _ _ 38 _ _ _;refine af <| aa ?_;show AR _ _ _ _ _ [0] _;refine za rfl <| ag <| bk (X := Int × Int) (fun (y8, y9) => ⟨[(0, i64 y8), (1, i64 y9), (2, i64 a3)], [], []⟩) (fun (y8, y9) => fg a3 y8 y9 = some r4) ?_ ?_
 ·refine af <| aa ?_;show AR _ _ _ _ _ [0, 1] _;refine zm rfl <| zS rfl (dI rfl rfl) <| ag <| az rfl (fun c5 => ?_) (fun c5 => ?_)
  ·replace H := aZ c5 H;refine af ?_;obtain ⟨g6, H⟩ := ay H;refine aa ?_;show AR _ _ _ _ _ [0, 1, 2] _;refine zm rfl <| zS rfl (eL rfl rfl g6) <| za rfl <| ag ?_;obtain ⟨g7, H⟩ := ay H;refine aa ?_;show AR _ _ _ _ _ [0, 1, 2] _;refine zm rfl <| zS rfl (bu rfl rfl g7) <| za rfl <| ag ?_;exact Exists.intro (a1 - 1, a2 + 12) ⟨H, aP [] (.cons (.refl _) (.cons (.refl _) (.cons (.refl _) (.nil _)))) rfl⟩
  ·replace H := ba c5 H;refine aC ?_;exact Exists.intro (a1, a2) ⟨H, aP [] (.cons (.refl _) (.cons (.refl _) (.cons (.refl _) (.nil _)))) rfl⟩
 rintro ⟨y8, y9⟩ H;replace H : fg a3 y8 y9 = some r4 := H
 unfold fg at H
 refine af ?_;obtain ⟨g11, H⟩ := ay H;obtain ⟨g12, H⟩ := ay H;obtain ⟨g13, H⟩ := ay H;obtain ⟨g14, H⟩ := ay H;obtain ⟨g15, H⟩ := ay H;obtain ⟨g16, H⟩ := ay H;obtain ⟨g17, H⟩ := ay H;obtain ⟨g18, H⟩ := ay H;obtain ⟨g19, H⟩ := ay H;obtain ⟨g20, H⟩ := ay H;obtain ⟨g21, H⟩ := ay H;obtain ⟨g22, H⟩ := ay H;obtain ⟨g23, H⟩ := ay H;obtain ⟨g24, H⟩ := ay H;obtain ⟨g25, H⟩ := ay H;obtain ⟨g26, H⟩ := ay H;obtain ⟨g27, H⟩ := ay H;obtain ⟨g28, H⟩ := ay H;obtain ⟨g29, H⟩ := ay H;refine aa ?_;show AR _ _ _ _ _ [0, 1, 2, 3, 4, 5, 6, 7, 8, 9, 10, 11, 12, 13, 14, 15, 16, 17, 18, 19, 20, 21, 22, 23, 24, 25] _;refine zm rfl <| zS rfl (gy rfl rfl g11) <| zS rfl (kf rfl rfl g12) <| zm rfl <| zS rfl (lS rfl rfl g13) <| zS rfl (kf rfl rfl g14) <| zS rfl (bu rfl rfl g15) <| zm rfl <| zS rfl (lS rfl rfl g16) <| zS rfl (gy rfl rfl g17) <| zS rfl (bu rfl rfl g18) <| zm rfl <| zS rfl (lS rfl rfl g19) <| zS rfl (gy rfl rfl g20) <| zS rfl (eL rfl rfl g21) <| zm rfl <| zS rfl (eL rfl rfl g22) <| zS rfl (kf rfl rfl g23) <| zS rfl (bu rfl rfl g24) <| zS rfl (gy rfl rfl g25) <| zS rfl (bu rfl rfl g26) <| zm rfl <| zS rfl (bu rfl rfl g27) <| zS rfl (eL rfl rfl g28) <| zS rfl (eL rfl rfl g29) <| za rfl <| ag <| aL ?_;obtain rfl := ap H;exact And.intro rfl (Exists.intro _ (Exists.intro _ ⟨aH rfl (.refl _), aI [] rfl, rfl, rfl⟩))
set_option maxRecDepth 100000 in
set_option maxHeartbeats 1000000 in
theorem sN (F : Nat) (a1 : Int) (r2 : Int) (r3 : Int) (r4 : Int) (r5 : Int) (H : nL F a1 = some (r2, r3, r4, r5)) : ACalls Tryz.prog 121 [i64 a1] [] (Ret (.tup [i64 r2, i64 r3, i64 r4, i64 r5]) []) := by
 unfold nL at H
 refine ax Tryz.func121 rfl rfl ?_;show AW _ _ 69 _ _ _;refine af <| aa ?_;show AR _ _ _ _ _ [0, 1, 2, 3] _;refine za rfl <| za rfl <| za rfl <| za rfl <| ag <| af <| af ?_;obtain ⟨x6, e7, H⟩ := bK H;obtain ⟨x9, e10, H⟩ := ft H;refine aa ?_;show AR _ _ _ _ _ [0, 1, 2, 3, 4, 5, 6, 7] _;refine zm rfl <| aq rfl rfl (aD rfl pK rfl (lV F 1 1 1 x6 e7) ?_);refine zS rfl (bC rfl rfl) <| zm rfl <| bb (l := []) 16 (B ((decide (a1 < x6)) || (decide (x9 < a1)))) (fun K => ?_) ?_
 ·rcases ak (decide (a1 < x6)) with h8 | h8
  ·refine zF h8 rfl <| zF h8 rfl <| zF h8 rfl <| zS rfl (aG (av := .v _) rfl h8 rfl) ?_;exact K _ 3 _ (aA (fT h8)) rfl rfl
  ·refine zM h8 rfl <| zT h8 rfl (aD rfl pK rfl (lV F 9999 12 31 x9 (e10 (nf h8))) ?_);refine zU h8 rfl (cS rfl rfl) <| zS rfl (aE (av := .v _) rfl h8 rfl) ?_;exact K _ 3 _ (aA (fU h8)) rfl rfl
 refine ag <| az rfl (fun c11 => ?_) (fun c11 => ?_)
 ·replace H := aZ c11 H;refine af <| aa ?_;show AR _ _ _ _ _ [0, 1, 2, 3] _;refine za rfl <| za rfl <| za rfl <| za rfl <| ag <| aL ?_;obtain ⟨rfl, rfl, rfl, rfl⟩ := res4 H;exact And.intro rfl (Exists.intro _ (Exists.intro _ ⟨qL rfl (.refl _) (.refl _) (.refl _) (.refl _), aI [] rfl, rfl, rfl⟩))
 ·replace H := ba c11 H;refine aC <| af ?_;obtain ⟨g12, H⟩ := ay H;refine aa ?_;show AR _ _ _ _ _ [0, 1, 2] _;refine zm rfl <| zS rfl (bu rfl rfl g12) <| za rfl <| ag <| af ?_;obtain ⟨g13, H⟩ := ay H;refine aa ?_;show AR _ _ _ _ _ [0, 1, 2] _;refine zm rfl <| zS rfl (lS rfl rfl g13) <| za rfl <| ag <| af ?_;obtain ⟨g14, H⟩ := ay H;obtain ⟨g15, H⟩ := ay H;obtain ⟨g16, H⟩ := ay H;obtain ⟨g17, H⟩ := ay H;obtain ⟨g18, H⟩ := ay H;obtain ⟨g19, H⟩ := ay H;obtain ⟨g20, H⟩ := ay H;refine aa ?_;show AR _ _ _ _ _ [0, 1, 2, 3, 4, 5, 6, 7, 8, 9, 10, 11] _;refine zm rfl <| zm rfl <| zS rfl (gy rfl rfl g14) <| zS rfl (eL rfl rfl g15) <| zm rfl <| zS rfl (gy rfl rfl g16) <| zS rfl (bu rfl rfl g17) <| zm rfl <| zS rfl (gy rfl rfl g18) <| zS rfl (eL rfl rfl g19) <| zS rfl (gy rfl rfl g20) <| za rfl <| ag <| af ?_;obtain ⟨g21, H⟩ := ay H;obtain ⟨g22, H⟩ := ay H;obtain ⟨g23, H⟩ := ay H;obtain ⟨g24, H⟩ := ay H;obtain ⟨g25, H⟩ := ay H;obtain ⟨g26, H⟩ := ay H;refine aa ?_;show AR _ _ _ _ _ [0, 1, 2, 3, 4, 5, 6, 7, 8, 9, 10] _;refine zm rfl <| zm rfl <| zS rfl (kf rfl rfl g21) <| zm rfl <| zS rfl (gy rfl rfl g22) <| zS rfl (bu rfl rfl g23) <| zm rfl <| zS rfl (gy rfl rfl g24) <| zS rfl (eL rfl rfl g25) <| zS rfl (eL rfl rfl g26) <| za rfl <| ag <| af ?_;obtain ⟨g27, H⟩ := ay H;obtain ⟨g28, H⟩ := ay H;obtain ⟨g29, H⟩ := ay H;refine aa ?_;show AR _ _ _ _ _ [0, 1, 2, 3, 4] _
  refine zm rfl <| zS rfl (kf rfl rfl g27) <| zS rfl (bu rfl rfl g28) <| zS rfl (gy rfl rfl g29) <| za rfl <| ag <| af ?_;obtain ⟨g30, H⟩ := ay H;obtain ⟨g31, H⟩ := ay H;obtain ⟨g32, H⟩ := ay H;obtain ⟨g33, H⟩ := ay H;obtain ⟨g34, H⟩ := ay H;refine aa ?_;show AR _ _ _ _ _ [0, 1, 2, 3, 4, 5, 6, 7] _;refine zm rfl <| zm rfl <| zS rfl (kf rfl rfl g30) <| zS rfl (bu rfl rfl g31) <| zS rfl (gy rfl rfl g32) <| zS rfl (eL rfl rfl g33) <| zS rfl (bu rfl rfl g34) <| za rfl <| ag <| af ?_;obtain ⟨g35, H⟩ := ay H;obtain ⟨g36, H⟩ := ay H;obtain ⟨g37, H⟩ := ay H;refine aa ?_;show AR _ _ _ _ _ [0, 1, 2, 3, 4, 5] _
  refine zm rfl <| zS rfl (gy rfl rfl g35) <| zS rfl (kf rfl rfl g36) <| zm rfl <| zS rfl (bu rfl rfl g37) <| za rfl <| ag <| bk (X := Int × Int) (fun (y42, y43) => ⟨[(2, i64 y42), (3, i64 y43), (4, i64 (((((a1 + 719468) % 146097) - (((365 * ((((((a1 + 719468) % 146097) - (((a1 + 719468) % 146097) / 1460)) + (((a1 + 719468) % 146097) / 36524)) - (((a1 + 719468) % 146097) / 146096)) / 365)) + (((((((a1 + 719468) % 146097) - (((a1 + 719468) % 146097) / 1460)) + (((a1 + 719468) % 146097) / 36524)) - (((a1 + 719468) % 146097) / 146096)) / 365) / 4)) - (((((((a1 + 719468) % 146097) - (((a1 + 719468) % 146097) / 1460)) + (((a1 + 719468) % 146097) / 36524)) - (((a1 + 719468) % 146097) / 146096)) / 365) / 100))) - (((153 * (((5 * (((a1 + 719468) % 146097) - (((365 * ((((((a1 + 719468) % 146097) - (((a1 + 719468) % 146097) / 1460)) + (((a1 + 719468) % 146097) / 36524)) - (((a1 + 719468) % 146097) / 146096)) / 365)) + (((((((a1 + 719468) % 146097) - (((a1 + 719468) % 146097) / 1460)) + (((a1 + 719468) % 146097) / 36524)) - (((a1 + 719468) % 146097) / 146096)) / 365) / 4)) - (((((((a1 + 719468) % 146097) - (((a1 + 719468) % 146097) / 1460)) + (((a1 + 719468) % 146097) / 36524)) - (((a1 + 719468) % 146097) / 146096)) / 365) / 100)))) + 2) / 153)) + 2) / 5)) + 1))], [], []⟩) (fun (y42, y43) => ge a1 y42 y43 = some (r2, r3, r4, r5)) ?_ ?_
  ·refine af ?_;obtain ⟨g38, H⟩ := ay H;refine aa ?_;show AR _ _ _ _ _ [0, 1, 2] _;refine zm rfl <| zS rfl (bu rfl rfl g38) <| za rfl <| ag <| af <| aa ?_;show AR _ _ _ _ _ [0, 1] _;refine zm rfl <| zS rfl (cS rfl rfl) <| ag <| az rfl (fun c39 => ?_) (fun c39 => ?_)
   ·replace H := aZ c39 H;refine af ?_;obtain ⟨g40, H⟩ := ay H;refine aa ?_;show AR _ _ _ _ _ [0, 1, 2] _;refine zm rfl <| zS rfl (eL rfl rfl g40) <| za rfl <| ag ?_;obtain ⟨g41, H⟩ := ay H;refine aa ?_;show AR _ _ _ _ _ [0, 1, 2] _;refine zm rfl <| zS rfl (bu rfl rfl g41) <| za rfl <| ag ?_;exact Exists.intro (((((a1 + 719468) / 146097) * 400) + ((((((a1 + 719468) % 146097) - (((a1 + 719468) % 146097) / 1460)) + (((a1 + 719468) % 146097) / 36524)) - (((a1 + 719468) % 146097) / 146096)) / 365)) + 1, ((((5 * (((a1 + 719468) % 146097) - (((365 * ((((((a1 + 719468) % 146097) - (((a1 + 719468) % 146097) / 1460)) + (((a1 + 719468) % 146097) / 36524)) - (((a1 + 719468) % 146097) / 146096)) / 365)) + (((((((a1 + 719468) % 146097) - (((a1 + 719468) % 146097) / 1460)) + (((a1 + 719468) % 146097) / 36524)) - (((a1 + 719468) % 146097) / 146096)) / 365) / 4)) - (((((((a1 + 719468) % 146097) - (((a1 + 719468) % 146097) / 1460)) + (((a1 + 719468) % 146097) / 36524)) - (((a1 + 719468) % 146097) / 146096)) / 365) / 100)))) + 2) / 153) + 3) - 12) ⟨H, aP [] (.cons (.refl _) (.cons (.refl _) (.cons (.refl _) (.nil _)))) rfl⟩
   ·replace H := ba c39 H;refine aC ?_;exact Exists.intro ((((a1 + 719468) / 146097) * 400) + ((((((a1 + 719468) % 146097) - (((a1 + 719468) % 146097) / 1460)) + (((a1 + 719468) % 146097) / 36524)) - (((a1 + 719468) % 146097) / 146096)) / 365), (((5 * (((a1 + 719468) % 146097) - (((365 * ((((((a1 + 719468) % 146097) - (((a1 + 719468) % 146097) / 1460)) + (((a1 + 719468) % 146097) / 36524)) - (((a1 + 719468) % 146097) / 146096)) / 365)) + (((((((a1 + 719468) % 146097) - (((a1 + 719468) % 146097) / 1460)) + (((a1 + 719468) % 146097) / 36524)) - (((a1 + 719468) % 146097) / 146096)) / 365) / 4)) - (((((((a1 + 719468) % 146097) - (((a1 + 719468) % 146097) / 1460)) + (((a1 + 719468) % 146097) / 36524)) - (((a1 + 719468) % 146097) / 146096)) / 365) / 100)))) + 2) / 153) + 3) ⟨H, aP [] (.cons (.refl _) (.cons (.refl _) (.cons (.refl _) (.nil _)))) rfl⟩
  rintro ⟨y42, y43⟩ H;replace H : ge a1 y42 y43 = some (r2, r3, r4, r5) := H
  unfold ge at H
  refine af <| aa ?_;show AR _ _ _ _ _ [0, 1, 2, 3, 4, 5, 6] _;refine zm rfl <| zm rfl <| zm rfl <| za rfl <| za rfl <| za rfl <| za rfl <| ag <| aL ?_;obtain ⟨rfl, rfl, rfl, rfl⟩ := res4 H;exact And.intro rfl (Exists.intro _ (Exists.intro _ ⟨qL rfl (.refl _) (.refl _) (.refl _) (.refl _), aI [] rfl, rfl, rfl⟩))
set_option maxRecDepth 100000 in
set_option maxHeartbeats 1000000 in
theorem sM (F : Nat) (a1 : Int) (r2 : Int) (H : nK F a1 = some r2) : ACalls Tryz.prog 68 [i64 a1] [] (Ret (i64 r2) []) := by
 unfold nK at H
 refine ax Tryz.func68 rfl rfl ?_;show AW _ _ 14 _ _ _;refine af <| aa ?_;show AR _ _ _ _ _ [0] _;refine za rfl <| ag <| af <| af <| aa ?_;show AR _ _ _ _ _ [0, 1, 2, 3, 4, 5] _;refine zm rfl <| zS rfl (bC rfl rfl) <| zm rfl <| bb (l := []) 8 (B ((decide (a1 < (-1099511627776))) || (decide (1099511627776 < a1)))) (fun K => ?_) ?_
 ·rcases ak (decide (a1 < (-1099511627776))) with h3 | h3
  ·refine zF h3 rfl <| zF h3 rfl <| zS rfl (aG (av := .v _) rfl h3 rfl) ?_;exact K _ 2 _ (aA (fT h3)) rfl rfl
  ·refine zM h3 rfl <| zU h3 rfl (cS rfl rfl) <| zS rfl (aE (av := .v _) rfl h3 rfl) ?_;exact K _ 2 _ (aA (fU h3)) rfl rfl
 refine ag <| az rfl (fun c4 => ?_) (fun c4 => ?_)
 ·replace H := aZ c4 H;refine af <| aa ?_;show AR _ _ _ _ _ [0] _;refine za rfl <| ag <| aL ?_;obtain rfl := ap H;exact And.intro rfl (Exists.intro _ (Exists.intro _ ⟨aH rfl (.refl _), aI [] rfl, rfl, rfl⟩))
 ·replace H := ba c4 H;refine aC <| af ?_;obtain ⟨g5, H⟩ := ay H;obtain ⟨g6, H⟩ := ay H;refine aa ?_;show AR _ _ _ _ _ [0, 1, 2, 3, 4, 5] _;refine zm rfl <| zS rfl (bu rfl rfl g5) <| zS rfl (qV rfl rfl (by decide)) <| zS rfl (bu rfl rfl g6) <| zS rfl (qV rfl rfl (by decide)) <| za rfl <| ag <| aL ?_;obtain rfl := ap H;exact And.intro rfl (Exists.intro _ (Exists.intro _ ⟨aH rfl (.refl _), aI [] rfl, rfl, rfl⟩))
set_option maxRecDepth 100000 in
set_option maxHeartbeats 1000000 in
theorem mW (F : Nat) (a1 : Int) (a2 : Int) (r3 : Int) (r4 : Int) (H : ki F a1 a2 = some (r3, r4)) : ACalls Tryz.prog 67 [i64 a1, i64 a2] [] (Ret (.tup [i64 r3, i64 r4]) []) := by
 unfold ki at H
 refine ax Tryz.func67 rfl rfl ?_;show AW _ _ 20 _ _ _;refine af <| aa ?_;show AR _ _ _ _ _ [0, 1] _;refine za rfl <| za rfl <| ag <| af ?_;obtain ⟨g5, H⟩ := ay H;obtain ⟨g6, H⟩ := ay H;obtain ⟨g7, H⟩ := ay H;refine aa ?_;show AR _ _ _ _ _ [0, 1, 2, 3, 4, 5, 6, 7] _;refine zm rfl <| zm rfl <| zS rfl (lS rfl rfl g5) <| zm rfl <| zS rfl (bu rfl rfl g6) <| zm rfl <| zS rfl (lS rfl rfl g7) <| za rfl <| ag <| af ?_;obtain ⟨g8, H⟩ := ay H;obtain ⟨g9, H⟩ := ay H;refine aa ?_;show AR _ _ _ _ _ [0, 1, 2, 3, 4, 5, 6, 7] _;refine zm rfl <| zm rfl <| zS rfl (eL rfl rfl g8) <| zm rfl <| zS rfl (gy rfl rfl g9) <| zm rfl <| za rfl <| za rfl <| ag <| aL ?_;obtain ⟨rfl, rfl⟩ := dh H;exact And.intro rfl (Exists.intro _ (Exists.intro _ ⟨be rfl (.refl _) (.refl _), aI [] rfl, rfl, rfl⟩))
set_option maxRecDepth 100000 in
set_option maxHeartbeats 1000000 in
theorem vm (F : Nat) (a1 : Int) (r2 : Int) (r3 : Int) (r4 : Int) (r5 : Int) (r6 : Int) (r7 : Int) (r8 : Int) (H : qR F a1 = some (r2, r3, r4, r5, r6, r7, r8)) : ACalls Tryz.prog 66 [i64 a1] [] (Ret (.tup [.agg [i64 r2, i64 r3, i64 r4, i64 r5, i64 r6, i64 r7], i64 r8]) []) := by
 unfold qR at H
 refine ax Tryz.func66 rfl rfl ?_;show AW _ _ 44 _ _ _;refine af <| aa ?_;show AR _ _ _ _ _ [0, 1] _;refine zX rfl (dF (zs := [.int .i64 0, .int .i64 0, .int .i64 0, .int .i64 0, .int .i64 0, .int .i64 0]) (by kernel_rfl)) ?_;rintro _ _ ⟨o9, rfl, rfl⟩;refine za rfl <| ag <| af <| af <| aa ?_;show AR _ _ _ _ _ [0, 1, 2, 3, 4, 5] _;refine zm rfl <| zS rfl (bC rfl rfl) <| zm rfl <| bb (l := []) 15 (B ((decide (a1 < (-1099511627776))) || (decide (1099511627776 < a1)))) (fun K => ?_) ?_
 ·rcases ak (decide (a1 < (-1099511627776))) with h10 | h10
  ·refine zF h10 rfl <| zF h10 rfl <| zS rfl (aG (av := .v _) rfl h10 rfl) ?_;exact K _ 2 _ (aA (fT h10)) rfl rfl
  ·refine zM h10 rfl <| zU h10 rfl (cS rfl rfl) <| zS rfl (aE (av := .v _) rfl h10 rfl) ?_;exact K _ 2 _ (aA (fU h10)) rfl rfl
 refine ag <| az rfl (fun c11 => ?_) (fun c11 => ?_)
 ·replace H := aZ c11 H;refine af <| aa ?_;show AR _ _ _ _ _ [0, 1, 2] _;refine zS rfl (du (zs := [.int .i64 0, .int .i64 0, .int .i64 0, .int .i64 0, .int .i64 0, .int .i64 0]) (ps := [(0, 1), (1, 1), (2, 1), (3, 1), (4, 1), (5, 1)]) (cs := [i64 0, i64 0, i64 0, i64 0, i64 0, i64 0]) (by kernel_rfl) rfl rfl) <| s0 rfl rfl (cT (i := 0) (vs := [i64 0, i64 0, i64 0, i64 0, i64 0, i64 0]) (by kernel_rfl) rfl rfl (by simp [cP, slE]) rfl (ai rfl)) <| za rfl <| ag <| aL ?_;obtain ⟨rfl, rfl, rfl, rfl, rfl, rfl, rfl⟩ := res7 H;exact And.intro rfl (Exists.intro _ (Exists.intro _ ⟨mK (mq rfl (CellV.agg (off := 0) (cs := [i64 0, i64 0, i64 0, i64 0, i64 0, i64 0]) (n := 6) 0 Tryz.underlying96 rfl (by kernel_rfl) rfl rfl (ai rfl)) ((show PlaceV _ _ _ (.tmp _) _ from (.refl _)))), aI [] rfl, rfl, rfl⟩))
 ·replace H := ba c11 H;refine aC <| af ?_;obtain ⟨x12, x13, e14, H⟩ := cZ H;refine aa ?_;show AR _ _ _ _ _ [0, 1, 2, 3, 4, 5, 6] _;refine zm rfl <| aq rfl rfl (aD rfl qF rfl (mW F a1 86400 x12 x13 e14) ?_);refine zS rfl (aj (av := .tup _) rfl) <| zS rfl (aF (av := .v _) rfl rfl) <| zS rfl (aF (av := .v _) rfl rfl) <| za rfl <| za rfl <| ag <| af ?_;obtain ⟨x15, x16, x17, x18, e19, H⟩ := bnd4_s H;refine aa ?_;show AR _ _ _ _ _ [0, 1, 2, 3, 4, 5, 6, 7, 8, 9, 10] _;refine zm rfl <| aq rfl rfl (aD rfl uN rfl (sN F x12 x15 x16 x17 x18 e19) ?_);refine zS rfl (aj (av := .tup _) rfl) <| zS rfl (aF (av := .v _) rfl rfl) <| zS rfl (aF (av := .v _) rfl rfl) <| zS rfl (aF (av := .v _) rfl rfl) <| zS rfl (aF (av := .v _) rfl rfl) <| za rfl <| za rfl <| za rfl <| za rfl <| ag <| af <| af <| aa ?_;show AR _ _ _ _ _ [0, 1] _;refine zm rfl <| zS rfl (dg rfl rfl) <| ag <| az rfl (fun c20 => ?_) (fun c20 => ?_)
  ·replace H := aZ c20 H;refine af <| aa ?_;show AR _ _ _ _ _ [0, 1, 2, 3] _;refine zS rfl (du (zs := [.int .i64 0, .int .i64 0, .int .i64 0, .int .i64 0, .int .i64 0, .int .i64 0]) (ps := [(0, 1), (1, 1), (2, 1), (3, 1), (4, 1), (5, 1)]) (cs := [i64 0, i64 0, i64 0, i64 0, i64 0, i64 0]) (by kernel_rfl) rfl rfl) <| zm rfl <| s0 rfl rfl (cT (i := 0) (vs := [i64 0, i64 0, i64 0, i64 0, i64 0, i64 0]) (by kernel_rfl) rfl rfl (by simp [cP, slE]) rfl (ai rfl)) <| za rfl <| ag <| aL ?_;obtain ⟨rfl, rfl, rfl, rfl, rfl, rfl, rfl⟩ := res7 H;exact And.intro rfl (Exists.intro _ (Exists.intro _ ⟨mK (mq rfl (CellV.agg (off := 0) (cs := [i64 0, i64 0, i64 0, i64 0, i64 0, i64 0]) (n := 6) 0 Tryz.underlying96 rfl (by kernel_rfl) rfl rfl (ai rfl)) ((show PlaceV _ _ _ (.tmp _) _ from (.refl _)))), aI [] rfl, rfl, rfl⟩))
  ·replace H := ba c20 H;refine aC <| af ?_;obtain ⟨g21, H⟩ := ay H;obtain ⟨g22, H⟩ := ay H;obtain ⟨g23, H⟩ := ay H;obtain ⟨g24, H⟩ := ay H;refine aa ?_;show AR _ _ _ _ _ [0, 1, 2, 3, 4, 5, 6, 7, 8, 9, 10, 11, 12] _;refine zm rfl <| zm rfl <| zm rfl <| zm rfl <| zS rfl (gy rfl rfl g21) <| zm rfl <| zS rfl (gy rfl rfl g22) <| zS rfl (lS rfl rfl g23) <| zm rfl <| zS rfl (lS rfl rfl g24) <| zS rfl (du (zs := [.int .i64 0, .int .i64 0, .int .i64 0, .int .i64 0, .int .i64 0, .int .i64 0]) (ps := [(0, 1), (1, 1), (2, 1), (3, 1), (4, 1), (5, 1)]) (cs := [i64 x15, i64 x16, i64 x17, i64 (x13 / 3600), i64 ((x13 / 60) % 60), i64 (x13 % 60)]) (by kernel_rfl) rfl rfl) <| s0 rfl rfl (cT (i := 0) (vs := [i64 x15, i64 x16, i64 x17, i64 (x13 / 3600), i64 ((x13 / 60) % 60), i64 (x13 % 60)]) (by kernel_rfl) rfl rfl (by simp [cP, slE]) rfl (ai rfl)) <| za rfl <| ag <| aL ?_;obtain ⟨rfl, rfl, rfl, rfl, rfl, rfl, rfl⟩ := res7 H;exact And.intro rfl (Exists.intro _ (Exists.intro _ ⟨mK (mq rfl (CellV.agg (off := 0) (cs := [i64 x15, i64 x16, i64 x17, i64 (x13 / 3600), i64 ((x13 / 60) % 60), i64 (x13 % 60)]) (n := 6) 0 Tryz.underlying96 rfl (by kernel_rfl) rfl rfl (ai rfl)) ((show PlaceV _ _ _ (.tmp _) _ from (.refl _)))), aI [] rfl, rfl, rfl⟩))
set_option maxRecDepth 100000 in
set_option maxHeartbeats 1000000 in
theorem fb (F : Nat) (a1 : Int) (r2 : List UInt8) (H : fu F a1 = some r2) : ACalls Tryz.prog 69 [i64 a1] [] (Ret (S r2) []) := by
 unfold fu at H
 refine ax Tryz.func69 rfl rfl ?_;show AW _ _ 14 _ _ _;refine af <| aa ?_;show AR _ _ _ _ _ [0] _;refine za rfl <| ag <| af ?_;obtain ⟨g3, H⟩ := ay H;obtain ⟨g4, H⟩ := ay H;obtain ⟨g5, H⟩ := ay H;obtain ⟨g6, H⟩ := ay H;obtain ⟨g7, H⟩ := ay H;refine aa ?_;show AR _ _ _ _ _ [0, 1, 2, 3, 4, 5, 6, 7, 8, 9, 10, 11] _;refine zm rfl <| zS rfl (gy rfl rfl g3) <| zS rfl (lS rfl rfl g4) <| zS rfl (bu rfl rfl g5) <| zS rfl (lF (by kernel_rfl) aY rfl) <| zm rfl <| zS rfl (lS rfl rfl g6) <| zS rfl (bu rfl rfl g7) <| zS rfl (lF (by kernel_rfl) aY rfl) <| zR rfl (bQ (E := Enc.byte) (bytes := 1) (xs := [.tmp 7, .tmp 11]) (l := ([Go.Av.toB (48 + ((a1 / 10) % 10)), Go.Av.toB (48 + (a1 % 10))] : List UInt8)) ac (by kernel_rfl) rfl rfl (by decide) rfl rfl) <| zS rfl (cW ac aY ab rfl) <| za rfl <| ag <| aL ?_;obtain rfl := ap H;exact And.intro rfl (Exists.intro _ (Exists.intro _ ⟨aH rfl (.refl _), aI [] rfl, rfl, rfl⟩))
set_option maxRecDepth 100000 in
set_option maxHeartbeats 1000000 in
theorem sE (F : Nat) (a1 : Int) (r2 : List UInt8) (H : nt F a1 = some r2) : ACalls Tryz.prog 70 [i64 a1] [] (Ret (S r2) []) := by
 unfold nt at H
 refine ax Tryz.func70 rfl rfl ?_;show AW _ _ 9 _ _ _;refine af <| aa ?_;show AR _ _ _ _ _ [0] _;refine za rfl <| ag <| af ?_;obtain ⟨g3, H⟩ := ay H;obtain ⟨x4, e5, H⟩ := bK H;obtain ⟨x6, e7, H⟩ := bK H;obtain ⟨g8, H⟩ := ay H;obtain ⟨x9, e10, H⟩ := bg H;refine aa ?_;show AR _ _ _ _ _ [0, 1, 2, 3, 4, 5, 6] _;refine zm rfl <| zS rfl (gy rfl rfl g3) <| aq rfl rfl (aD rfl fL rfl (fb F (a1 / 100) x4 e5) ?_);refine zm rfl <| aq rfl rfl (aD rfl fL rfl (fb F a1 x6 e7) ?_);refine zS rfl (cg rfl rfl g8 e10) <| za rfl <| ag <| aL ?_;obtain rfl := ap H;exact And.intro rfl (Exists.intro _ (Exists.intro _ ⟨aH rfl (.refl _), aI [] rfl, rfl, rfl⟩))
set_option maxRecDepth 100000 in
set_option maxHeartbeats 1000000 in
theorem rj (F : Nat) (a1 : Int) (a2 : Int) (a3 : Int) (a4 : Int) (a5 : Int) (a6 : Int) (r7 : List UInt8) (H : mc F a1 a2 a3 a4 a5 a6 = some r7) : ACalls Tryz.prog 71 [.agg [i64 a1, i64 a2, i64 a3, i64 a4, i64 a5, i64 a6]] [] (Ret (S r7) []) := by
 unfold mc at H
 refine ax Tryz.func71 rfl rfl ?_;show AW _ _ 16 _ _ _;refine af <| aa ?_;show AR _ _ _ _ _ [0, 1] _;refine zR rfl (jz rfl (.inr ⟨_, rfl⟩)) <| za rfl <| ag <| af ?_;obtain ⟨x8, e9, H⟩ := bK H;obtain ⟨g10, H⟩ := ay H;obtain ⟨x11, e12, H⟩ := bg H;obtain ⟨x13, e14, H⟩ := bK H;obtain ⟨g15, H⟩ := ay H;obtain ⟨x16, e17, H⟩ := bg H;obtain ⟨g18, H⟩ := ay H;obtain ⟨x19, e20, H⟩ := bg H;obtain ⟨x21, e22, H⟩ := bK H;obtain ⟨g23, H⟩ := ay H;obtain ⟨x24, e25, H⟩ := bg H;refine bz (by kernel_rfl) ?_;show AI _ _ _ _ _ 14 (Array.replicate 14 false) _;refine zk 0 rfl (aV (n := 3) (by kernel_rfl) rfl (ai rfl)) ?_;show AI _ _ _ _ _ _ #[true, false, false, false, false, false, false, false, false, false, false, false, false, false] _;refine zk 1 rfl (aJ bf rfl rfl) ?_;show AI _ _ _ _ _ _ #[true, true, false, false, false, false, false, false, false, false, false, false, false, false] _;refine zk 4 rfl (aV (n := 4) (by kernel_rfl) rfl (ai rfl)) ?_;show AI _ _ _ _ _ _ #[true, true, false, false, true, false, false, false, false, false, false, false, false, false] _;refine zk 5 rfl (aJ bf rfl rfl) ?_;show AI _ _ _ _ _ _ #[true, true, false, false, true, true, false, false, false, false, false, false, false, false] _;refine zk 9 rfl (aV (n := 5) (by kernel_rfl) rfl (ai rfl)) ?_
 show AI _ _ _ _ _ _ #[true, true, false, false, true, true, false, false, false, true, false, false, false, false] _;refine zk 10 rfl (aJ bf rfl rfl) ?_;show AI _ _ _ _ _ _ #[true, true, false, false, true, true, false, false, false, true, true, false, false, false] _;refine aX (i := 2) (by kernel_rfl) rfl rfl <| dp rfl fL rfl (fb F a4 x8 e9) ?_;show AI _ _ _ _ _ _ #[true, true, true, false, true, true, false, false, false, true, true, false, false, false] _;refine zk 3 rfl (cg rfl rfl g10 e12) ?_;show AI _ _ _ _ _ _ #[true, true, true, true, true, true, false, false, false, true, true, false, false, false] _;refine aX (i := 6) (by kernel_rfl) rfl rfl <| dp rfl fL rfl (fb F a5 x13 e14) ?_;show AI _ _ _ _ _ _ #[true, true, true, true, true, true, true, false, false, true, true, false, false, false] _;refine zk 7 rfl (cg rfl rfl g15 e17) ?_;show AI _ _ _ _ _ _ #[true, true, true, true, true, true, true, true, false, true, true, false, false, false] _;refine zk 8 rfl (cg rfl rfl g18 e20) ?_;show AI _ _ _ _ _ _ #[true, true, true, true, true, true, true, true, true, true, true, false, false, false] _;refine aX (i := 11) (by kernel_rfl) rfl rfl <| dp rfl fL rfl (fb F a6 x21 e22) ?_;show AI _ _ _ _ _ _ #[true, true, true, true, true, true, true, true, true, true, true, true, false, false] _;refine zk 12 rfl (cg rfl rfl g23 e25) ?_;show AI _ _ _ _ _ _ #[true, true, true, true, true, true, true, true, true, true, true, true, true, false] _
 refine zk 13 rfl (asg rfl) ?_;show AI _ _ _ _ _ _ #[true, true, true, true, true, true, true, true, true, true, true, true, true, true] _;refine bE rfl <| aL ?_;obtain rfl := ap H;exact And.intro rfl (Exists.intro _ (Exists.intro _ ⟨aH rfl (.refl _), aI [] rfl, rfl, rfl⟩))
set_option maxRecDepth 100000 in
set_option maxHeartbeats 1000000 in
theorem sF (F : Nat) (a1 : Int) (a2 : Int) (r3 : List UInt8) (r4 : Int) (H : nu F a1 a2 = some (r3, r4)) : ACalls Tryz.prog 28 [i64 a1, i64 a2] [] (Ret (.tup [S r3, i64 r4]) []) := by
 unfold nu at H
 refine ax Tryz.func28 rfl rfl ?_;show AW _ _ 91 _ _ _;refine af <| aa ?_;show AR _ _ _ _ _ [0, 1] _;refine za rfl <| za rfl <| ag <| af <| af <| aa ?_;show AR _ _ _ _ _ [0, 1, 2, 3, 4, 5, 6, 7, 8, 9, 10, 11, 12, 13] _;refine zm rfl <| zS rfl (bC rfl rfl) <| zm rfl <| bb (l := [6, 7, 8, 9, 10, 11, 12, 13]) 18 (B ((decide (a2 < (-93599))) || (decide (93599 < a2)))) (fun K => ?_) ?_
 ·rcases ak (decide (a2 < (-93599))) with h5 | h5
  ·refine zF h5 rfl <| zF h5 rfl <| zS rfl (aG (av := .v _) rfl h5 rfl) ?_;exact K _ 2 _ (aA (fT h5)) rfl rfl
  ·refine zM h5 rfl <| zU h5 rfl (cS rfl rfl) <| zS rfl (aE (av := .v _) rfl h5 rfl) ?_;exact K _ 2 _ (aA (fU h5)) rfl rfl
 refine zm rfl <| bb (l := [10, 11, 12, 13]) 22 (B (((decide (a2 < (-93599))) || (decide (93599 < a2))) || (decide (a1 < (-1099511627776))))) (fun K => ?_) ?_
 ·rcases ak ((decide (a2 < (-93599))) || (decide (93599 < a2))) with h6 | h6
  ·refine zF h6 rfl <| zF h6 rfl <| zS rfl (aG (av := .v _) rfl h6 rfl) ?_;exact K _ 2 _ (aA (fT h6)) rfl rfl
  ·refine zM h6 rfl <| zU h6 rfl (bC rfl rfl) <| zS rfl (aE (av := .v _) rfl h6 rfl) ?_;exact K _ 2 _ (aA (fU h6)) rfl rfl
 refine zm rfl <| bb (l := []) 26 (B ((((decide (a2 < (-93599))) || (decide (93599 < a2))) || (decide (a1 < (-1099511627776)))) || (decide (1099511627776 < a1)))) (fun K => ?_) ?_
 ·rcases ak (((decide (a2 < (-93599))) || (decide (93599 < a2))) || (decide (a1 < (-1099511627776)))) with h7 | h7
  ·refine zF h7 rfl <| zF h7 rfl <| zS rfl (aG (av := .v _) rfl h7 rfl) ?_;exact K _ 2 _ (aA (fT h7)) rfl rfl
  ·refine zM h7 rfl <| zU h7 rfl (cS rfl rfl) <| zS rfl (aE (av := .v _) rfl h7 rfl) ?_;exact K _ 2 _ (aA (fU h7)) rfl rfl
 refine ag <| az rfl (fun c8 => ?_) (fun c8 => ?_)
 ·replace H := aZ c8 H;refine af <| aa ?_;show AR _ _ _ _ _ [0, 1] _;refine za rfl <| za rfl <| ag <| aL ?_;obtain ⟨rfl, rfl⟩ := dh H;exact And.intro rfl (Exists.intro _ (Exists.intro _ ⟨be rfl (.refl _) (.refl _), aI [] rfl, rfl, rfl⟩))
 ·replace H := ba c8 H;refine aC <| af ?_;obtain ⟨g9, H⟩ := ay H;obtain ⟨x10, e11, H⟩ := bK H;refine aa ?_;show AR _ _ _ _ _ [0, 1, 2, 3, 4, 5, 6, 7, 8, 9] _;refine zm rfl <| zm rfl <| zS rfl (bu rfl rfl g9) <| aq rfl rfl (aD rfl wd rfl (vm F (a1 + a2) x10.1 x10.2.1 x10.2.2.1 x10.2.2.2.1 x10.2.2.2.2.1 x10.2.2.2.2.2.1 x10.2.2.2.2.2.2 e11) ?_);refine zS rfl (aj (av := .tup _) rfl) <| zS rfl (aF (av := .agg _) rfl rfl) <| zS rfl (aF (av := .v _) rfl rfl) <| zX rfl (dF (zs := [.int .i64 0, .int .i64 0, .int .i64 0, .int .i64 0, .int .i64 0, .int .i64 0]) (by kernel_rfl)) ?_;rintro _ _ ⟨o12, rfl, rfl⟩;refine s0 rfl rfl (cT (i := 0) (vs := [i64 x10.1, i64 x10.2.1, i64 x10.2.2.1, i64 x10.2.2.2.1, i64 x10.2.2.2.2.1, i64 x10.2.2.2.2.2.1]) (by kernel_rfl) rfl rfl (by simp [cP, slE]) rfl (ai rfl)) <| AR.freezeCp 6 0 rfl rfl ?_;show AR _ _ _ _ _ _ ⟨_, _, []⟩;refine za rfl <| ag <| af <| af <| aa ?_;show AR _ _ _ _ _ [0, 1] _;refine zm rfl <| zS rfl (dg rfl rfl) <| ag <| az rfl (fun c13 => ?_) (fun c13 => ?_)
  ·replace H := aZ c13 H;refine af <| aa ?_;show AR _ _ _ _ _ [0, 1, 2] _;refine zm rfl <| za rfl <| za rfl <| ag <| aL ?_;obtain ⟨rfl, rfl⟩ := dh H;exact And.intro rfl (Exists.intro _ (Exists.intro _ ⟨be rfl (.refl _) (.refl _), aI [] rfl, rfl, rfl⟩))
  ·replace H := ba c13 H;refine aC <| af ?_;obtain ⟨g14, H⟩ := ay H;obtain ⟨x15, x16, e17, H⟩ := cZ H;refine aa ?_;show AR _ _ _ _ _ [0, 1, 2, 3, 4, 5, 6, 7, 8] _;refine zm rfl <| zm rfl <| zS rfl (bu rfl rfl g14) <| aq rfl rfl (aD rfl qF rfl (mW F (a1 + a2) 86400 x15 x16 e17) ?_);refine zS rfl (aj (av := .tup _) rfl) <| zS rfl (aF (av := .v _) rfl rfl) <| zS rfl (aF (av := .v _) rfl rfl) <| za rfl <| za rfl <| ag <| af ?_;obtain ⟨g18, H⟩ := ay H;obtain ⟨g19, H⟩ := ay H;obtain ⟨x20, e21, H⟩ := bK H;obtain ⟨g22, H⟩ := ay H;refine bz (by kernel_rfl) ?_;show AI _ _ _ _ _ 9 (Array.replicate 9 false) _;refine zk 0 rfl (mv rfl) ?_;show AI _ _ _ _ _ _ #[true, false, false, false, false, false, false, false, false] _;refine zk 3 rfl (aV (n := 1) (by kernel_rfl) rfl (ai rfl)) ?_;show AI _ _ _ _ _ _ #[true, false, false, true, false, false, false, false, false] _;refine zk 4 rfl (aJ bf rfl rfl) ?_;show AI _ _ _ _ _ _ #[true, false, false, true, true, false, false, false, false] _;refine zk 5 rfl (eL rfl rfl g18) ?_;show AI _ _ _ _ _ _ #[true, false, false, true, true, true, false, false, false] _;refine zk 6 rfl (kf rfl rfl g19) ?_;show AI _ _ _ _ _ _ #[true, false, false, true, true, true, true, false, false] _;refine aX (i := 1) (by kernel_rfl) rfl rfl <| dp rfl wc rfl (sM F x15 x20 e21) ?_;show AI _ _ _ _ _ _ #[true, true, false, true, true, true, true, false, false] _
   refine zk 2 rfl (kf rfl rfl g22) ?_;show AI _ _ _ _ _ _ #[true, true, true, true, true, true, true, false, false] _;refine zk 7 rfl (asg rfl) ?_;show AI _ _ _ _ _ _ #[true, true, true, true, true, true, true, true, false] _;refine zk 8 rfl (asg rfl) ?_;show AI _ _ _ _ _ _ #[true, true, true, true, true, true, true, true, true] _;refine bE rfl <| af <| aa ?_;show AR _ _ _ _ _ [0] _;refine za rfl <| ag <| bk (X := Int × (List UInt8)) (fun (y25, y26) => ⟨[(1, i64 y25), (6, .cp [i64 x10.1, i64 x10.2.1, i64 x10.2.2.1, i64 x10.2.2.2.1, i64 x10.2.2.2.2.1, i64 x10.2.2.2.2.2.1]), (10, i64 (x20 * 3)), (11, i64 ((x10.2.1 - 1) * 3)), (12, S y26)], [], []⟩) (fun (y25, y26) => fW F x10 x20 y25 y26 = some (r3, r4)) ?_ ?_
   ·refine af <| aa ?_;show AR _ _ _ _ _ [0, 1] _;refine zm rfl <| zS rfl (bC rfl rfl) <| ag <| az rfl (fun c23 => ?_) (fun c23 => ?_)
    ·replace H := aZ c23 H;obtain ⟨g24, H⟩ := ay H;refine aa ?_;show AR _ _ _ _ _ [0, 1, 2, 3] _;refine zm rfl <| zS rfl (g_neg rfl g24) <| za rfl <| za rfl <| ag ?_;exact Exists.intro (0 - a2, ([45] : List UInt8)) ⟨H, aP [] (.cons (.refl _) (.cons (.refl _) (.cons (.refl _) (.cons (.refl _) (.cons (.refl _) (.nil _)))))) rfl⟩
    ·replace H := ba c23 H;refine aC ?_;exact Exists.intro (a2, ([43] : List UInt8)) ⟨H, aP [] (.cons (.refl _) (.cons (.refl _) (.cons (.refl _) (.cons (.refl _) (.cons (.refl _) (.nil _)))))) rfl⟩
   rintro ⟨y25, y26⟩ H;replace H : fW F x10 x20 y25 y26 = some (r3, r4) := H
   unfold fW at H
   refine af ?_;obtain ⟨g28, H⟩ := ay H;obtain ⟨g29, H⟩ := ay H;obtain ⟨x30, e31, H⟩ := bg H;obtain ⟨g32, H⟩ := ay H;obtain ⟨x33, e34, H⟩ := bg H;obtain ⟨g35, H⟩ := ay H;obtain ⟨g36, H⟩ := ay H;obtain ⟨x37, e38, H⟩ := bg H;obtain ⟨g39, H⟩ := ay H;obtain ⟨g40, H⟩ := ay H;obtain ⟨g41, H⟩ := ay H;obtain ⟨x42, e43, H⟩ := bK H;obtain ⟨g44, H⟩ := ay H;obtain ⟨x45, e46, H⟩ := bg H;obtain ⟨g47, H⟩ := ay H;obtain ⟨x48, e49, H⟩ := bg H;obtain ⟨g50, H⟩ := ay H;obtain ⟨x51, e52, H⟩ := bg H;obtain ⟨g53, H⟩ := ay H;obtain ⟨x54, e55, H⟩ := bg H;obtain ⟨x56, e57, H⟩ := bK H;obtain ⟨g58, H⟩ := ay H;obtain ⟨x59, e60, H⟩ := bg H;obtain ⟨g61, H⟩ := ay H;obtain ⟨x62, e63, H⟩ := bg H;obtain ⟨x64, e65, H⟩ := bK H;obtain ⟨g66, H⟩ := ay H;obtain ⟨x67, e68, H⟩ := bg H;obtain ⟨g69, H⟩ := ay H;obtain ⟨x70, e71, H⟩ := bg H;obtain ⟨g72, H⟩ := ay H;obtain ⟨x73, e74, H⟩ := bg H;obtain ⟨x75, e76, H⟩ := bK H;obtain ⟨g77, H⟩ := ay H;obtain ⟨x78, e79, H⟩ := bg H;obtain ⟨x80, e81, H⟩ := bK H;obtain ⟨g82, H⟩ := ay H;obtain ⟨x83, e84, H⟩ := bg H;refine bz (by kernel_rfl) ?_;show AI _ _ _ _ _ 38 (Array.replicate 38 false) _;refine zk 0 rfl (mv rfl) ?_;show AI _ _ _ _ _ _ #[true, false, false, false, false, false, false, false, false, false, false, false, false, false, false, false, false, false, false, false, false, false, false, false, false, false, false, false, false, false, false, false, false, false, false, false, false, false] _;refine zk 1 rfl (mv rfl) ?_
   show AI _ _ _ _ _ _ #[true, true, false, false, false, false, false, false, false, false, false, false, false, false, false, false, false, false, false, false, false, false, false, false, false, false, false, false, false, false, false, false, false, false, false, false, false, false] _;refine zk 2 rfl (bu rfl rfl g28) ?_;show AI _ _ _ _ _ _ #[true, true, true, false, false, false, false, false, false, false, false, false, false, false, false, false, false, false, false, false, false, false, false, false, false, false, false, false, false, false, false, false, false, false, false, false, false, false] _;refine zk 3 rfl (kA ab rfl rfl rfl g29 e31) ?_;show AI _ _ _ _ _ _ #[true, true, true, true, false, false, false, false, false, false, false, false, false, false, false, false, false, false, false, false, false, false, false, false, false, false, false, false, false, false, false, false, false, false, false, false, false, false] _;refine zk 4 rfl (cg rfl rfl g32 e34) ?_;show AI _ _ _ _ _ _ #[true, true, true, true, true, false, false, false, false, false, false, false, false, false, false, false, false, false, false, false, false, false, false, false, false, false, false, false, false, false, false, false, false, false, false, false, false, false] _;refine zk 5 rfl (aV (n := 2) (by kernel_rfl) rfl (ai rfl)) ?_
   show AI _ _ _ _ _ _ #[true, true, true, true, true, true, false, false, false, false, false, false, false, false, false, false, false, false, false, false, false, false, false, false, false, false, false, false, false, false, false, false, false, false, false, false, false, false] _;refine zk 6 rfl (aJ bf rfl rfl) ?_;show AI _ _ _ _ _ _ #[true, true, true, true, true, true, true, false, false, false, false, false, false, false, false, false, false, false, false, false, false, false, false, false, false, false, false, false, false, false, false, false, false, false, false, false, false, false] _;refine zk 10 rfl (mv rfl) ?_;show AI _ _ _ _ _ _ #[true, true, true, true, true, true, true, false, false, false, true, false, false, false, false, false, false, false, false, false, false, false, false, false, false, false, false, false, false, false, false, false, false, false, false, false, false, false] _;refine zk 11 rfl (mv rfl) ?_;show AI _ _ _ _ _ _ #[true, true, true, true, true, true, true, false, false, false, true, true, false, false, false, false, false, false, false, false, false, false, false, false, false, false, false, false, false, false, false, false, false, false, false, false, false, false] _;refine zk 12 rfl (bu rfl rfl g35) ?_;show AI _ _ _ _ _ _ #[true, true, true, true, true, true, true, false, false, false, true, true, true, false, false, false, false, false, false, false, false, false, false, false, false, false, false, false, false, false, false, false, false, false, false, false, false, false] _
   refine zk 13 rfl (kA ab rfl rfl rfl g36 e38) ?_;show AI _ _ _ _ _ _ #[true, true, true, true, true, true, true, false, false, false, true, true, true, true, false, false, false, false, false, false, false, false, false, false, false, false, false, false, false, false, false, false, false, false, false, false, false, false] _;refine zk 16 rfl (aV (n := 0) (by kernel_rfl) rfl (ai rfl)) ?_;show AI _ _ _ _ _ _ #[true, true, true, true, true, true, true, false, false, false, true, true, true, true, false, false, true, false, false, false, false, false, false, false, false, false, false, false, false, false, false, false, false, false, false, false, false, false] _;refine zk 17 rfl (aJ bf rfl rfl) ?_;show AI _ _ _ _ _ _ #[true, true, true, true, true, true, true, false, false, false, true, true, true, true, false, false, true, true, false, false, false, false, false, false, false, false, false, false, false, false, false, false, false, false, false, false, false, false] _;refine zk 21 rfl (dC Tryz.underlying96 rfl (n := 6) (by kernel_rfl) rfl (ai rfl)) ?_;show AI _ _ _ _ _ _ #[true, true, true, true, true, true, true, false, false, false, true, true, true, true, false, false, true, true, false, false, false, true, false, false, false, false, false, false, false, false, false, false, false, false, false, false, false, false] _;refine zk 25 rfl (mv rfl) ?_
   show AI _ _ _ _ _ _ #[true, true, true, true, true, true, true, false, false, false, true, true, true, true, false, false, true, true, false, false, false, true, false, false, false, true, false, false, false, false, false, false, false, false, false, false, false, false] _;refine zk 27 rfl (mv rfl) ?_;show AI _ _ _ _ _ _ #[true, true, true, true, true, true, true, false, false, false, true, true, true, true, false, false, true, true, false, false, false, true, false, false, false, true, false, true, false, false, false, false, false, false, false, false, false, false] _;refine zk 28 rfl (gy rfl rfl g39) ?_;show AI _ _ _ _ _ _ #[true, true, true, true, true, true, true, false, false, false, true, true, true, true, false, false, true, true, false, false, false, true, false, false, false, true, false, true, true, false, false, false, false, false, false, false, false, false] _;refine zk 31 rfl (mv rfl) ?_;show AI _ _ _ _ _ _ #[true, true, true, true, true, true, true, false, false, false, true, true, true, true, false, false, true, true, false, false, false, true, false, false, false, true, false, true, true, false, false, true, false, false, false, false, false, false] _;refine zk 32 rfl (gy rfl rfl g40) ?_;show AI _ _ _ _ _ _ #[true, true, true, true, true, true, true, false, false, false, true, true, true, true, false, false, true, true, false, false, false, true, false, false, false, true, false, true, true, false, false, true, true, false, false, false, false, false] _;refine zk 33 rfl (lS rfl rfl g41) ?_
   show AI _ _ _ _ _ _ #[true, true, true, true, true, true, true, false, false, false, true, true, true, true, false, false, true, true, false, false, false, true, false, false, false, true, false, true, true, false, false, true, true, true, false, false, false, false] _;refine aX (i := 7) (by kernel_rfl) rfl rfl <| dp rfl fL rfl (fb F x10.2.2.1 x42 e43) ?_;show AI _ _ _ _ _ _ #[true, true, true, true, true, true, true, true, false, false, true, true, true, true, false, false, true, true, false, false, false, true, false, false, false, true, false, true, true, false, false, true, true, true, false, false, false, false] _;refine zk 8 rfl (cg rfl rfl g44 e46) ?_;show AI _ _ _ _ _ _ #[true, true, true, true, true, true, true, true, true, false, true, true, true, true, false, false, true, true, false, false, false, true, false, false, false, true, false, true, true, false, false, true, true, true, false, false, false, false] _;refine zk 9 rfl (cg rfl rfl g47 e49) ?_;show AI _ _ _ _ _ _ #[true, true, true, true, true, true, true, true, true, true, true, true, true, true, false, false, true, true, false, false, false, true, false, false, false, true, false, true, true, false, false, true, true, true, false, false, false, false] _;refine zk 14 rfl (cg rfl rfl g50 e52) ?_;show AI _ _ _ _ _ _ #[true, true, true, true, true, true, true, true, true, true, true, true, true, true, true, false, true, true, false, false, false, true, false, false, false, true, false, true, true, false, false, true, true, true, false, false, false, false] _
   refine zk 15 rfl (cg rfl rfl g53 e55) ?_;show AI _ _ _ _ _ _ #[true, true, true, true, true, true, true, true, true, true, true, true, true, true, true, true, true, true, false, false, false, true, false, false, false, true, false, true, true, false, false, true, true, true, false, false, false, false] _;refine aX (i := 18) (by kernel_rfl) rfl rfl <| dp rfl wb rfl (sE F x10.1 x56 e57) ?_;show AI _ _ _ _ _ _ #[true, true, true, true, true, true, true, true, true, true, true, true, true, true, true, true, true, true, true, false, false, true, false, false, false, true, false, true, true, false, false, true, true, true, false, false, false, false] _;refine zk 19 rfl (cg rfl rfl g58 e60) ?_;show AI _ _ _ _ _ _ #[true, true, true, true, true, true, true, true, true, true, true, true, true, true, true, true, true, true, true, true, false, true, false, false, false, true, false, true, true, false, false, true, true, true, false, false, false, false] _;refine zk 20 rfl (cg rfl rfl g61 e63) ?_;show AI _ _ _ _ _ _ #[true, true, true, true, true, true, true, true, true, true, true, true, true, true, true, true, true, true, true, true, true, true, false, false, false, true, false, true, true, false, false, true, true, true, false, false, false, false] _;refine aX (i := 22) (by kernel_rfl) rfl rfl <| dp rfl wa rfl (rj F x10.1 x10.2.1 x10.2.2.1 x10.2.2.2.1 x10.2.2.2.2.1 x10.2.2.2.2.2.1 x64 e65) ?_
   show AI _ _ _ _ _ _ #[true, true, true, true, true, true, true, true, true, true, true, true, true, true, true, true, true, true, true, true, true, true, true, false, false, true, false, true, true, false, false, true, true, true, false, false, false, false] _;refine zk 23 rfl (cg rfl rfl g66 e68) ?_;show AI _ _ _ _ _ _ #[true, true, true, true, true, true, true, true, true, true, true, true, true, true, true, true, true, true, true, true, true, true, true, true, false, true, false, true, true, false, false, true, true, true, false, false, false, false] _;refine zk 24 rfl (cg rfl rfl g69 e71) ?_;show AI _ _ _ _ _ _ #[true, true, true, true, true, true, true, true, true, true, true, true, true, true, true, true, true, true, true, true, true, true, true, true, true, true, false, true, true, false, false, true, true, true, false, false, false, false] _;refine zk 26 rfl (cg rfl rfl g72 e74) ?_;show AI _ _ _ _ _ _ #[true, true, true, true, true, true, true, true, true, true, true, true, true, true, true, true, true, true, true, true, true, true, true, true, true, true, true, true, true, false, false, true, true, true, false, false, false, false] _;refine aX (i := 29) (by kernel_rfl) rfl rfl <| dp rfl fL rfl (fb F (y25 / 3600) x75 e76) ?_;show AI _ _ _ _ _ _ #[true, true, true, true, true, true, true, true, true, true, true, true, true, true, true, true, true, true, true, true, true, true, true, true, true, true, true, true, true, true, false, true, true, true, false, false, false, false] _;refine zk 30 rfl (cg rfl rfl g77 e79) ?_
   show AI _ _ _ _ _ _ #[true, true, true, true, true, true, true, true, true, true, true, true, true, true, true, true, true, true, true, true, true, true, true, true, true, true, true, true, true, true, true, true, true, true, false, false, false, false] _;refine aX (i := 34) (by kernel_rfl) rfl rfl <| dp rfl fL rfl (fb F ((y25 / 60) % 60) x80 e81) ?_;show AI _ _ _ _ _ _ #[true, true, true, true, true, true, true, true, true, true, true, true, true, true, true, true, true, true, true, true, true, true, true, true, true, true, true, true, true, true, true, true, true, true, true, false, false, false] _;refine zk 35 rfl (cg rfl rfl g82 e84) ?_;show AI _ _ _ _ _ _ #[true, true, true, true, true, true, true, true, true, true, true, true, true, true, true, true, true, true, true, true, true, true, true, true, true, true, true, true, true, true, true, true, true, true, true, true, false, false] _;refine zk 36 rfl (asg rfl) ?_;show AI _ _ _ _ _ _ #[true, true, true, true, true, true, true, true, true, true, true, true, true, true, true, true, true, true, true, true, true, true, true, true, true, true, true, true, true, true, true, true, true, true, true, true, true, false] _;refine zk 37 rfl (asg rfl) ?_;show AI _ _ _ _ _ _ #[true, true, true, true, true, true, true, true, true, true, true, true, true, true, true, true, true, true, true, true, true, true, true, true, true, true, true, true, true, true, true, true, true, true, true, true, true, true] _;refine bE rfl <| aL ?_;obtain ⟨rfl, rfl⟩ := dh H
   exact And.intro rfl (Exists.intro _ (Exists.intro _ ⟨be rfl (.refl _) (.refl _), aI [] rfl, rfl, rfl⟩))
end Go.Proofs.YtjegcifofddgbaaGreatDoor
namespace Go.Pv
def tg (F : Nat) (a1 : UInt8) (a2 : List UInt8) : Option ((List UInt8)) :=
fV (((decide (a1 = 32)) || (decide (a1 = 9))) && (decide (0 < (a2.length : Int)))) (cD 0 a2.length) <|
lt (at_ a2 0) fun x9 =>
bif ((((decide (a1 = 32)) || (decide (a1 = 9))) && (decide (0 < (a2.length : Int)))) && (!decide (x9 = 10))) || (((decide (32 < (a1.toNat : Int))) && (decide ((a1.toNat : Int) < 127))) && (!decide (a1 = 61))) then
  some ([a1] : List UInt8)
else
  grd (cD ((Go.Av.shr8 a1 4).toNat : Int) ([48, 49, 50, 51, 52, 53, 54, 55, 56, 57, 65, 66, 67, 68, 69, 70] : List UInt8).length) <|
  lt (at_ ([48, 49, 50, 51, 52, 53, 54, 55, 56, 57, 65, 66, 67, 68, 69, 70] : List UInt8) ((Go.Av.shr8 a1 4).toNat : Int)) fun x16 =>
  grd (cD ((a1 &&& 15).toNat : Int) ([48, 49, 50, 51, 52, 53, 54, 55, 56, 57, 65, 66, 67, 68, 69, 70] : List UInt8).length) <|
  lt (at_ ([48, 49, 50, 51, 52, 53, 54, 55, 56, 57, 65, 66, 67, 68, 69, 70] : List UInt8) ((a1 &&& 15).toNat : Int)) fun x19 =>
  some ([61, x16, x19] : List UInt8)
def kV (a5 : List UInt8) (y15 : List UInt8) (y17 : Int) : Option ((List UInt8) × Int) :=
grd (bt (y15.length + a5.length)) <|
lt (y15 ++ a5) fun x21 =>
grd (okI (y17 + (a5.length : Int))) <|
some (x21, y17 + (a5.length : Int))
def wC (F : Nat) (a2 : List UInt8) (a4 : Int) (a5 : List UInt8) : Option ((List UInt8) × Int) :=
grd (okI (a4 + (a5.length : Int))) <|
bif decide (75 < a4 + (a5.length : Int)) then
  grd (bt (a2.length + ([61, 13, 10] : List UInt8).length)) <|
  lt (a2 ++ ([61, 13, 10] : List UInt8)) fun x13 =>
  kV a5 x13 0
else
  kV a5 a2 a4
def ji (y36 : List UInt8) (y38 : Int) : Option ((List UInt8)) :=
some y36
def gL (y6 : Int) (rec10 : (Int × (List UInt8) × Int) → Option ((List UInt8))) (y31 : List UInt8) (y33 : Int) : Option ((List UInt8)) :=
grd (okI (y6 + 1)) <|
rec10 (y6 + 1, y31, y33)
def lj (F : Nat) (a1 : List UInt8) (rec10 : (Int × (List UInt8) × Int) → Option ((List UInt8))) (y6 : Int) (y7 : List UInt8) (y9 : Int) : Option ((List UInt8)) :=
bif decide (y6 < (a1.length : Int)) then
  grd (cD y6 a1.length) <|
  lt (at_ a1 y6) fun x14 =>
  bif decide (x14 = 10) then
    grd (bt (y7.length + ([13, 10] : List UInt8).length)) <|
    lt (y7 ++ ([13, 10] : List UInt8)) fun x19 =>
    gL y6 rec10 x19 0
  else
    grd (okI (y6 + 1)) <|
    grd (gZ (y6 + 1) a1.length) <|
    lt (cB a1 (y6 + 1)) fun x23 =>
    bnd (tg F x14 x23) fun x25 =>
    hC (wC F y7 y9 x25) fun x27 x28 =>
    gL y6 rec10 x27 x28
else
  ji y7 y9
def gM (F : Nat) (a1 : List UInt8) (n : Nat) : (Int × (List UInt8) × Int) → Option ((List UInt8)) :=
  loop (fun rec x => lj F a1 rec x.1 x.2.1 x.2.2) n
def oU (F : Nat) (a1 : List UInt8) : Option ((List UInt8)) :=
gM F a1 F (0, [], 0)
end Go.Pv
namespace Go.Proofs.YtjegcifofddgbaaGreatDoor
open Go.RowKit Go.Av Go.Pv
theorem en124_qp : ∀ (args : Array Value) (w : World), (callFunc 124 args).run Tryz.prog w = .ok (.enter 124 args) w := fun _ _ => by kernel_rfl
theorem en125_qp : ∀ (args : Array Value) (w : World), (callFunc 125 args).run Tryz.prog w = .ok (.enter 125 args) w := fun _ _ => by kernel_rfl
set_option maxRecDepth 100000 in
set_option maxHeartbeats 1000000 in
theorem wY (F : Nat) (a1 : UInt8) (a2 : List UInt8) (q3 : Option Nat) (r4 : List UInt8) (H : tg F a1 a2 = some r4) : ACalls Tryz.prog 125 [u8 a1, slE Enc.byte a2 q3] [] (Ret (S r4) []) := by
 unfold tg at H
 refine ax Tryz.func125 rfl rfl ?_;show AW _ _ 47 _ _ _;refine af <| aa ?_;show AR _ _ _ _ _ [0] _;refine za rfl <| ag <| af <| aa ?_;show AR _ _ _ _ _ [0, 1, 2, 3, 4, 5, 6] _;refine zm rfl <| zS rfl (fw (a := a1) (b := 32) rfl rfl) <| zm rfl <| bb (l := [6]) 11 (B ((decide (a1 = 32)) || (decide (a1 = 9)))) (fun K => ?_) ?_
 ·rcases ak (decide (a1 = 32)) with h5 | h5
  ·refine zF h5 rfl <| zF h5 rfl <| zS rfl (aG (av := .v _) rfl h5 rfl) ?_;exact K _ 2 _ (aA (fT h5)) rfl rfl
  ·refine zM h5 rfl <| zU h5 rfl (fw (a := a1) (b := 9) rfl rfl) <| zS rfl (aE (av := .v _) rfl h5 rfl) ?_;exact K _ 2 _ (aA (fU h5)) rfl rfl
 refine za rfl <| ag <| af <| af ?_;obtain ⟨g8, H⟩ := dq H;obtain ⟨x9, e10, H⟩ := bg H;refine aa ?_;show AR _ _ _ _ _ [0, 1, 2, 3, 4, 5, 6, 7, 8, 9, 10, 11, 12, 13, 14, 15, 16, 17, 18, 19, 20, 21, 22, 23] _;refine zm rfl <| zm rfl <| bb (l := [6, 7, 8, 9, 10, 11, 12, 13, 14, 15, 16, 17, 18, 19, 20, 21, 22, 23]) 17 (B (((decide (a1 = 32)) || (decide (a1 = 9))) && (decide (0 < (a2.length : Int))))) (fun K => ?_) ?_
 ·rcases ak ((decide (a1 = 32)) || (decide (a1 = 9))) with h6 | h6
  ·refine zU h6 rfl (aj (av := slE _ _ _) rfl) <| zU h6 rfl (aQ ac rfl) <| zU h6 rfl (cS rfl rfl) <| zS rfl (aG (av := .v _) rfl h6 rfl) ?_;exact K _ 3 _ (aA (cz h6)) rfl rfl
  ·refine zF h6 rfl <| zF h6 rfl <| zF h6 rfl <| zS rfl (aE (av := .v _) rfl h6 rfl) ?_;exact K _ 3 _ (aA (cA h6)) rfl rfl
 refine zm rfl <| bb (l := [12, 13, 14, 15, 16, 17, 18, 19, 20, 21, 22, 23]) 23 (B ((((decide (a1 = 32)) || (decide (a1 = 9))) && (decide (0 < (a2.length : Int)))) && (!decide (x9 = 10)))) (fun K => ?_) ?_
 ·rcases ak (((decide (a1 = 32)) || (decide (a1 = 9))) && (decide (0 < (a2.length : Int)))) with h7 | h7
  ·refine zU h7 rfl (aj (av := slE _ _ _) rfl) <| zU h7 rfl (cn (E := Enc.byte) ac (by kernel_rfl) rfl rfl (g8 h7) e10) <| zU h7 rfl (aJ aY rfl rfl) <| zU h7 rfl (g_ne8 (a := x9) (b := 10) rfl rfl) <| zS rfl (aG (av := .v _) rfl h7 rfl) ?_;exact K _ 4 _ (aA (cz h7)) rfl rfl
  ·refine zF h7 rfl <| zF h7 rfl <| zF h7 rfl <| zF h7 rfl <| zS rfl (aE (av := .v _) rfl h7 rfl) ?_;exact K _ 4 _ (aA (cA h7)) rfl rfl
 refine zm rfl <| bb (l := []) 35 (B (((((decide (a1 = 32)) || (decide (a1 = 9))) && (decide (0 < (a2.length : Int)))) && (!decide (x9 = 10))) || (((decide (32 < (a1.toNat : Int))) && (decide ((a1.toNat : Int) < 127))) && (!decide (a1 = 61))))) (fun K => ?_) ?_
 ·rcases ak ((((decide (a1 = 32)) || (decide (a1 = 9))) && (decide (0 < (a2.length : Int)))) && (!decide (x9 = 10))) with h11 | h11
  ·refine zF h11 rfl <| zF h11 rfl <| zF h11 rfl <| gU rfl rfl rfl rfl rfl <| gU rfl rfl rfl rfl rfl <| zF h11 rfl <| zF h11 rfl <| gU rfl rfl rfl rfl rfl <| gU rfl rfl rfl rfl rfl <| zF h11 rfl <| zS rfl (aG (av := .v _) rfl h11 rfl) ?_;exact K _ 10 _ (aA (fT h11)) rfl rfl
  ·refine zM h11 rfl <| zU h11 rfl (cS rfl rfl) <| zM h11 rfl <| bb (l := [19, 20, 21, 22, 23]) 30 (B ((decide (32 < (a1.toNat : Int))) && (decide ((a1.toNat : Int) < 127)))) (fun K => ?_) ?_
   ·rcases ak (decide (32 < (a1.toNat : Int))) with h12 | h12
    ·refine zM h12 rfl <| zU h12 rfl (bC rfl rfl) <| zU h11 rfl (aG (av := .v _) rfl h12 rfl) ?_;exact K _ 2 _ (aA (cz h12)) rfl rfl
    ·refine zF h12 rfl <| zF h12 rfl <| zU h11 rfl (aE (av := .v _) rfl h12 rfl) ?_;exact K _ 2 _ (aA (cA h12)) rfl rfl
   refine zM h11 rfl <| bb (l := [23]) 34 (B (((decide (32 < (a1.toNat : Int))) && (decide ((a1.toNat : Int) < 127))) && (!decide (a1 = 61)))) (fun K => ?_) ?_
   ·rcases ak ((decide (32 < (a1.toNat : Int))) && (decide ((a1.toNat : Int) < 127))) with h13 | h13
    ·refine zM h13 rfl <| zU h13 rfl (g_ne8 (a := a1) (b := 61) rfl rfl) <| zU h11 rfl (aG (av := .v _) rfl h13 rfl) ?_;exact K _ 2 _ (aA (cz h13)) rfl rfl
    ·refine zF h13 rfl <| zF h13 rfl <| zU h11 rfl (aE (av := .v _) rfl h13 rfl) ?_;exact K _ 2 _ (aA (cA h13)) rfl rfl
   refine zS rfl (aE (av := .v _) rfl h11 rfl) ?_;exact K _ 6 _ (aA (fU h11)) rfl rfl
 refine ag <| az rfl (fun c14 => ?_) (fun c14 => ?_)
 ·replace H := aZ c14 H;refine af <| aa ?_;show AR _ _ _ _ _ [0, 1, 2, 3] _;refine zm rfl <| zR rfl (bQ (E := Enc.byte) (bytes := 1) (xs := [.tmp 36]) (l := ([a1] : List UInt8)) ac (by kernel_rfl) rfl rfl (by decide) rfl rfl) <| zS rfl (cW ac aY ab rfl) <| za rfl <| ag <| aL ?_;obtain rfl := ap H;exact And.intro rfl (Exists.intro _ (Exists.intro _ ⟨aH rfl (.refl _), aI [] rfl, rfl, rfl⟩))
 ·replace H := ba c14 H;refine aC <| af ?_;obtain ⟨g15, H⟩ := ay H;obtain ⟨x16, e17, H⟩ := bg H;obtain ⟨g18, H⟩ := ay H;obtain ⟨x19, e20, H⟩ := bg H;refine bz (by kernel_rfl) ?_;show AI _ _ _ _ _ 9 (Array.replicate 9 false) _;refine zk 0 rfl (mv rfl) ?_;show AI _ _ _ _ _ _ #[true, false, false, false, false, false, false, false, false] _;refine zk 1 rfl (g_shr8 (n := 4) rfl rfl rfl) ?_;show AI _ _ _ _ _ _ #[true, true, false, false, false, false, false, false, false] _;refine zk 2 rfl (bj ab rfl rfl g15 e17) ?_;show AI _ _ _ _ _ _ #[true, true, true, false, false, false, false, false, false] _;refine zk 3 rfl (mv rfl) ?_;show AI _ _ _ _ _ _ #[true, true, true, true, false, false, false, false, false] _;refine zk 4 rfl (g_and8 (a := a1) (b := 15) rfl rfl) ?_;show AI _ _ _ _ _ _ #[true, true, true, true, true, false, false, false, false] _;refine zk 5 rfl (bj ab rfl rfl g18 e20) ?_;show AI _ _ _ _ _ _ #[true, true, true, true, true, true, false, false, false] _;refine aX (i := 6) (by kernel_rfl) rfl rfl <| aW rfl (bQ (E := Enc.byte) (bytes := 1) (xs := [.const _, .tmp 41, .tmp 44]) (l := ([61, x16, x19] : List UInt8)) ac (by kernel_rfl) rfl rfl (by decide) rfl rfl) ?_;show AI _ _ _ _ _ _ #[true, true, true, true, true, true, true, false, false] _;refine zk 7 rfl (cW ac aY ab rfl) ?_;show AI _ _ _ _ _ _ #[true, true, true, true, true, true, true, true, false] _;refine zk 8 rfl (asg rfl) ?_
  show AI _ _ _ _ _ _ #[true, true, true, true, true, true, true, true, true] _;refine bE rfl <| aL ?_;obtain rfl := ap H;exact And.intro rfl (Exists.intro _ (Exists.intro _ ⟨aH rfl (.refl _), aI [] rfl, rfl, rfl⟩))
set_option maxRecDepth 100000 in
set_option maxHeartbeats 1000000 in
theorem w_qp_put (F : Nat) (o1 : Nat) (a2 : List UInt8) (t3 : Nat) (a4 : Int) (a5 : List UInt8) (r6 : List UInt8) (r8 : Int) (H : wC F a2 a4 a5 = some (r6, r8)) : ACalls Tryz.prog 124 [.pt o1 0, S a5] [.obj o1 [slE Enc.byte a2 (some t3), i64 a4], .tok t3 5] (fun e A' => e = .ret (.tup []) ∧ ∃ t7, A' = [.obj o1 [slE Enc.byte r6 (some t7), i64 r8], .tok t7 5]) := by
 unfold wC at H
 refine ax Tryz.func124 rfl rfl ?_;show AW _ _ 42 _ _ _;refine bk (X := (List UInt8) × Nat × Int) (fun (y15, t16, y17) => ⟨[(0, .pt o1 0), (1, S a5)], [], [.obj o1 [slE Enc.byte y15 (some t16), i64 y17], .tok t16 5]⟩) (fun (y15, t16, y17) => kV a5 y15 y17 = some (r6, r8)) ?_ ?_
 ·refine af ?_;obtain ⟨g9, H⟩ := ay H;refine aa ?_;show AR _ _ _ _ _ [0, 1, 2, 3, 4, 5, 6, 7] _;refine zS rfl (aj (av := .pt _ _) rfl) <| zS rfl (ar rfl) <| zS rfl (al (n := 1) (by kernel_rfl) rfl) <| zR rfl (am (i := 0) bf rfl rfl rfl rfl) <| zm rfl <| zS rfl (aU ab rfl) <| zS rfl (bu rfl rfl g9) <| zS rfl (cS rfl rfl) <| ag <| az rfl (fun c10 => ?_) (fun c10 => ?_)
  ·replace H := aZ c10 H;obtain ⟨g12, H⟩ := ay H;obtain ⟨x13, e14, H⟩ := bg H;refine aa ?_;show AR _ _ _ _ _ [0, 1, 2, 3, 4, 5, 6, 7, 8, 9, 10, 11, 12] _;refine zS rfl (aj (av := .pt _ _) rfl) <| zS rfl (aj (av := .pt _ _) rfl) <| zS rfl (aj (av := .pt _ _) rfl) <| zS rfl (ar rfl) <| zS rfl (al (n := 0) (by kernel_rfl) rfl) <| zR rfl (am (i := 0) ac rfl rfl rfl rfl) <| zX rfl (bA (bytes := 1) 1 ac ab rfl (by kernel_rfl) rfl rfl rfl rfl g12 e14) ?_;rintro _ _ ⟨t11, rfl, rfl⟩;refine zS rfl (ar rfl) <| zS rfl (al (n := 0) (by kernel_rfl) rfl) <| s0 rfl rfl (aw (i := 0) (c := slE _ _ _) (by kernel_rfl) rfl rfl rfl rfl (ai rfl)) <| zS rfl (ar rfl) <| zS rfl (al (n := 1) (by kernel_rfl) rfl) <| s0 rfl rfl (aw (i := 0) (c := .v _) (by kernel_rfl) rfl rfl rfl rfl (ai rfl)) <| ag ?_;exact Exists.intro (x13, t11, 0) ⟨H, aP [0, 0] (.cons (.refl _) (.cons (.refl _) (.nil _))) rfl⟩
  ·replace H := ba c10 H;refine aC ?_;exact Exists.intro (a2, t3, a4) ⟨H, aP [0, 0] (.cons (.refl _) (.cons (.refl _) (.nil _))) rfl⟩
 rintro ⟨y15, t16, y17⟩ H;replace H : kV a5 y15 y17 = some (r6, r8) := H
 unfold kV at H
 obtain ⟨g20, H⟩ := ay H;obtain ⟨x21, e22, H⟩ := bg H;obtain ⟨g23, H⟩ := ay H;refine bz (by kernel_rfl) ?_;show AI _ _ _ _ _ 21 (Array.replicate 21 false) _;refine zk 0 rfl (aj (av := .pt _ _) rfl) ?_;show AI _ _ _ _ _ _ #[true, false, false, false, false, false, false, false, false, false, false, false, false, false, false, false, false, false, false, false, false] _;refine zk 1 rfl (aj (av := .pt _ _) rfl) ?_;show AI _ _ _ _ _ _ #[true, true, false, false, false, false, false, false, false, false, false, false, false, false, false, false, false, false, false, false, false] _;refine zk 2 rfl (aj (av := .pt _ _) rfl) ?_;show AI _ _ _ _ _ _ #[true, true, true, false, false, false, false, false, false, false, false, false, false, false, false, false, false, false, false, false, false] _;refine zk 3 rfl (ar rfl) ?_;show AI _ _ _ _ _ _ #[true, true, true, true, false, false, false, false, false, false, false, false, false, false, false, false, false, false, false, false, false] _;refine zk 4 rfl (al (n := 0) (by kernel_rfl) rfl) ?_;show AI _ _ _ _ _ _ #[true, true, true, true, true, false, false, false, false, false, false, false, false, false, false, false, false, false, false, false, false] _;refine zk 6 rfl (mv rfl) ?_;show AI _ _ _ _ _ _ #[true, true, true, true, true, false, true, false, false, false, false, false, false, false, false, false, false, false, false, false, false] _;refine zk 8 rfl (aj (av := .pt _ _) rfl) ?_
 show AI _ _ _ _ _ _ #[true, true, true, true, true, false, true, false, true, false, false, false, false, false, false, false, false, false, false, false, false] _;refine zk 9 rfl (ar rfl) ?_;show AI _ _ _ _ _ _ #[true, true, true, true, true, false, true, false, true, true, false, false, false, false, false, false, false, false, false, false, false] _;refine zk 10 rfl (al (n := 1) (by kernel_rfl) rfl) ?_;show AI _ _ _ _ _ _ #[true, true, true, true, true, false, true, false, true, true, true, false, false, false, false, false, false, false, false, false, false] _;refine zk 12 rfl (mv rfl) ?_;show AI _ _ _ _ _ _ #[true, true, true, true, true, false, true, false, true, true, true, false, true, false, false, false, false, false, false, false, false] _;refine zk 13 rfl (aU ab rfl) ?_;show AI _ _ _ _ _ _ #[true, true, true, true, true, false, true, false, true, true, true, false, true, true, false, false, false, false, false, false, false] _;refine dE (i := 5) (j := 11) (by kernel_rfl) rfl rfl rfl rfl ?_ ?_
 ·refine aW rfl (am (i := 0) ac rfl rfl rfl rfl) ?_;show AI _ _ _ _ _ _ #[true, true, true, true, true, true, true, false, true, true, true, false, true, true, false, false, false, false, false, false, false] _;refine dE (i := 7) (j := 11) (by kernel_rfl) rfl rfl rfl rfl ?_ ?_
  ·refine cf rfl (bA (bytes := 1) 1 ac ab rfl (by kernel_rfl) rfl rfl rfl rfl g20 e22) ?_;rintro _ _ ⟨t19, rfl, rfl⟩;show AI _ _ _ _ _ _ #[true, true, true, true, true, true, true, true, true, true, true, false, true, true, false, false, false, false, false, false, false] _;refine aX (i := 11) (by kernel_rfl) rfl rfl <| aW rfl (am (i := 0) bf rfl rfl rfl rfl) ?_;show AI _ _ _ _ _ _ #[true, true, true, true, true, true, true, true, true, true, true, true, true, true, false, false, false, false, false, false, false] _;refine zk 14 rfl (bu rfl rfl g23) ?_;show AI _ _ _ _ _ _ #[true, true, true, true, true, true, true, true, true, true, true, true, true, true, true, false, false, false, false, false, false] _;refine zk 15 rfl (ar rfl) ?_;show AI _ _ _ _ _ _ #[true, true, true, true, true, true, true, true, true, true, true, true, true, true, true, true, false, false, false, false, false] _;refine zk 16 rfl (al (n := 0) (by kernel_rfl) rfl) ?_;show AI _ _ _ _ _ _ #[true, true, true, true, true, true, true, true, true, true, true, true, true, true, true, true, true, false, false, false, false] _;refine aX (i := 17) (by kernel_rfl) rfl rfl <| cr (aw (i := 0) (c := slE _ _ _) (by kernel_rfl) rfl rfl rfl rfl (ai rfl)) ?_;show AI _ _ _ _ _ _ #[true, true, true, true, true, true, true, true, true, true, true, true, true, true, true, true, true, true, false, false, false] _;refine zk 18 rfl (ar rfl) ?_
   show AI _ _ _ _ _ _ #[true, true, true, true, true, true, true, true, true, true, true, true, true, true, true, true, true, true, true, false, false] _;refine zk 19 rfl (al (n := 1) (by kernel_rfl) rfl) ?_;show AI _ _ _ _ _ _ #[true, true, true, true, true, true, true, true, true, true, true, true, true, true, true, true, true, true, true, true, false] _;refine aX (i := 20) (by kernel_rfl) rfl rfl <| cr (aw (i := 0) (c := .v _) (by kernel_rfl) rfl rfl rfl rfl (ai rfl)) ?_;show AI _ _ _ _ _ _ #[true, true, true, true, true, true, true, true, true, true, true, true, true, true, true, true, true, true, true, true, true] _;refine bE rfl ?_;obtain ⟨rfl, rfl⟩ := dh H;exact And.intro rfl (Exists.intro _ (Exists.intro _ ⟨ck rfl, aI [0, 0] rfl, rfl, t19, rfl⟩))
  ·refine aW rfl (am (i := 0) bf rfl rfl rfl rfl) ?_;show AI _ _ _ _ _ _ #[true, true, true, true, true, true, true, false, true, true, true, true, true, true, false, false, false, false, false, false, false] _;refine zk 14 rfl (bu rfl rfl g23) ?_;show AI _ _ _ _ _ _ #[true, true, true, true, true, true, true, false, true, true, true, true, true, true, true, false, false, false, false, false, false] _;refine aX (i := 7) (by kernel_rfl) rfl rfl <| cf rfl (bA (bytes := 1) 1 ac ab rfl (by kernel_rfl) rfl rfl rfl rfl g20 e22) ?_;rintro _ _ ⟨t24, rfl, rfl⟩;show AI _ _ _ _ _ _ #[true, true, true, true, true, true, true, true, true, true, true, true, true, true, true, false, false, false, false, false, false] _;refine zk 15 rfl (ar rfl) ?_;show AI _ _ _ _ _ _ #[true, true, true, true, true, true, true, true, true, true, true, true, true, true, true, true, false, false, false, false, false] _;refine zk 16 rfl (al (n := 0) (by kernel_rfl) rfl) ?_;show AI _ _ _ _ _ _ #[true, true, true, true, true, true, true, true, true, true, true, true, true, true, true, true, true, false, false, false, false] _;refine aX (i := 17) (by kernel_rfl) rfl rfl <| cr (aw (i := 0) (c := slE _ _ _) (by kernel_rfl) rfl rfl rfl rfl (ai rfl)) ?_;show AI _ _ _ _ _ _ #[true, true, true, true, true, true, true, true, true, true, true, true, true, true, true, true, true, true, false, false, false] _;refine zk 18 rfl (ar rfl) ?_
   show AI _ _ _ _ _ _ #[true, true, true, true, true, true, true, true, true, true, true, true, true, true, true, true, true, true, true, false, false] _;refine zk 19 rfl (al (n := 1) (by kernel_rfl) rfl) ?_;show AI _ _ _ _ _ _ #[true, true, true, true, true, true, true, true, true, true, true, true, true, true, true, true, true, true, true, true, false] _;refine aX (i := 20) (by kernel_rfl) rfl rfl <| cr (aw (i := 0) (c := .v _) (by kernel_rfl) rfl rfl rfl rfl (ai rfl)) ?_;show AI _ _ _ _ _ _ #[true, true, true, true, true, true, true, true, true, true, true, true, true, true, true, true, true, true, true, true, true] _;refine bE rfl ?_;obtain ⟨rfl, rfl⟩ := dh H;exact And.intro rfl (Exists.intro _ (Exists.intro _ ⟨ck rfl, aI [0, 0] rfl, rfl, t24, rfl⟩))
 ·refine aW rfl (am (i := 0) bf rfl rfl rfl rfl) ?_;show AI _ _ _ _ _ _ #[true, true, true, true, true, false, true, false, true, true, true, true, true, true, false, false, false, false, false, false, false] _;refine zk 14 rfl (bu rfl rfl g23) ?_;show AI _ _ _ _ _ _ #[true, true, true, true, true, false, true, false, true, true, true, true, true, true, true, false, false, false, false, false, false] _;refine aX (i := 5) (by kernel_rfl) rfl rfl <| aW rfl (am (i := 0) ac rfl rfl rfl rfl) ?_;show AI _ _ _ _ _ _ #[true, true, true, true, true, true, true, false, true, true, true, true, true, true, true, false, false, false, false, false, false] _;refine aX (i := 7) (by kernel_rfl) rfl rfl <| cf rfl (bA (bytes := 1) 1 ac ab rfl (by kernel_rfl) rfl rfl rfl rfl g20 e22) ?_;rintro _ _ ⟨t25, rfl, rfl⟩;show AI _ _ _ _ _ _ #[true, true, true, true, true, true, true, true, true, true, true, true, true, true, true, false, false, false, false, false, false] _;refine zk 15 rfl (ar rfl) ?_;show AI _ _ _ _ _ _ #[true, true, true, true, true, true, true, true, true, true, true, true, true, true, true, true, false, false, false, false, false] _;refine zk 16 rfl (al (n := 0) (by kernel_rfl) rfl) ?_;show AI _ _ _ _ _ _ #[true, true, true, true, true, true, true, true, true, true, true, true, true, true, true, true, true, false, false, false, false] _
  refine aX (i := 17) (by kernel_rfl) rfl rfl <| cr (aw (i := 0) (c := slE _ _ _) (by kernel_rfl) rfl rfl rfl rfl (ai rfl)) ?_;show AI _ _ _ _ _ _ #[true, true, true, true, true, true, true, true, true, true, true, true, true, true, true, true, true, true, false, false, false] _;refine zk 18 rfl (ar rfl) ?_;show AI _ _ _ _ _ _ #[true, true, true, true, true, true, true, true, true, true, true, true, true, true, true, true, true, true, true, false, false] _;refine zk 19 rfl (al (n := 1) (by kernel_rfl) rfl) ?_;show AI _ _ _ _ _ _ #[true, true, true, true, true, true, true, true, true, true, true, true, true, true, true, true, true, true, true, true, false] _;refine aX (i := 20) (by kernel_rfl) rfl rfl <| cr (aw (i := 0) (c := .v _) (by kernel_rfl) rfl rfl rfl rfl (ai rfl)) ?_;show AI _ _ _ _ _ _ #[true, true, true, true, true, true, true, true, true, true, true, true, true, true, true, true, true, true, true, true, true] _;refine bE rfl ?_;obtain ⟨rfl, rfl⟩ := dh H;exact And.intro rfl (Exists.intro _ (Exists.intro _ ⟨ck rfl, aI [0, 0] rfl, rfl, t25, rfl⟩))
set_option maxRecDepth 100000 in
set_option maxHeartbeats 1000000 in
theorem tD (F : Nat) (a1 : List UInt8) (q2 : Option Nat) (r3 : List UInt8) (H : oU F a1 = some r3) : ACalls Tryz.prog 75 [slE Enc.byte a1 q2] [] (Ret (slE Enc.byte r3 none) []) := by
 unfold oU at H
 refine ax Tryz.func75 rfl rfl ?_;show AW _ _ 41 _ _ _;refine af <| aa ?_;show AR _ _ _ _ _ [0] _;refine za rfl <| ag <| af <| aa ?_;show AR _ _ _ _ _ [0, 1, 2] _;refine zS rfl (du (zs := [.slice none 0 0, .int .i64 0]) (ps := [(0, 1), (1, 1)]) (cs := [ah, i64 0]) (by kernel_rfl) rfl rfl) <| zX rfl (qd rfl (.inr ⟨_, rfl⟩)) ?_;rintro _ _ ⟨o4, rfl, rfl⟩;refine zS rfl (aB (av := .pt _ _) rfl) <| ag ?_
 refine eB 0 0 1 5 rfl rfl fun t5 => ?_
 show AW _ _ _ _ _ ⟨_, _, [.tok t5 5, .obj o4 [slE Enc.byte [] (some t5), i64 0]]⟩;refine bk (X := (List UInt8) × Nat × Int) (fun (y36, t37, y38) => ⟨[(3, .pt o4 0)], [], [.obj o4 [slE Enc.byte y36 (some t37), i64 y38], .tok t37 5]⟩) (fun (y36, t37, y38) => ji y36 y38 = some r3) ?_ ?_
 ·refine af <| aa ?_;show AR _ _ _ _ _ [0, 1, 2] _;refine zS rfl (aj (av := slE _ _ _) rfl) <| zS rfl (aQ ac rfl) <| zm rfl <| ag <| aO <| cl (X := Nat × Int × (List UInt8) × Nat × Int) (fun (n11, y6, y7, t8, y9) => ⟨[(0, slE Enc.byte a1 q2), (3, .pt o4 0), (8, slE Enc.byte a1 q2), (9, i64 (a1.length : Int)), (10, i64 y6)], [], [.obj o4 [slE Enc.byte y7 (some t8), i64 y9], .tok t8 5]⟩) (fun (n11, y6, y7, t8, y9) => gM F a1 n11 (y6, y7, y9) = some r3) (fun (n11, y6, y7, t8, y9) => n11) (F, 0, [], t5, 0) H (aP [1, 0] (.cons (.refl _) (.cons (.refl _) (.cons (.refl _) (.cons (.refl _) (.cons (.refl _) (.nil _)))))) rfl) ?_;rintro ⟨n11, y6, y7, t8, y9⟩ H;obtain ⟨n11, rfl, H⟩ := cO H;replace H : lj F a1 (gM F a1 n11) y6 y7 y9 = some r3 := H
  unfold lj at H
  refine af <| aa ?_;show AR _ _ _ _ _ [0] _;refine zS rfl (bC rfl rfl) <| ag <| af <| az rfl (fun c12 => ?_) (fun c12 => ?_)
  ·replace H := aZ c12 H;refine aC <| bk (X := (List UInt8) × Nat × Int) (fun (y31, t32, y33) => ⟨[(0, slE Enc.byte a1 q2), (3, .pt o4 0), (8, slE Enc.byte a1 q2), (9, i64 (a1.length : Int)), (10, i64 y6)], [], [.obj o4 [slE Enc.byte y31 (some t32), i64 y33], .tok t32 5]⟩) (fun (y31, t32, y33) => gL y6 (gM F a1 n11) y31 y33 = some r3) ?_ ?_
   ·refine aO <| af ?_;obtain ⟨g13, H⟩ := ay H;obtain ⟨x14, e15, H⟩ := bg H;refine aa ?_;show AR _ _ _ _ _ [0, 1, 2, 3, 4] _;refine zm rfl <| zS rfl (cn (E := Enc.byte) ac (by kernel_rfl) rfl rfl g13 e15) <| zS rfl (aJ aY rfl rfl) <| za rfl <| za rfl <| ag <| af <| af <| aa ?_;show AR _ _ _ _ _ [0, 1] _;refine zm rfl <| zS rfl (fw (a := x14) (b := 10) rfl rfl) <| ag <| az rfl (fun c16 => ?_) (fun c16 => ?_)
    ·replace H := aZ c16 H;refine af ?_;obtain ⟨g18, H⟩ := ay H;obtain ⟨x19, e20, H⟩ := bg H;refine aa ?_;show AR _ _ _ _ _ [0, 1, 2, 3, 4, 5, 6, 7, 8, 9, 10, 11, 12] _;refine zS rfl (aj (av := .pt _ _) rfl) <| zS rfl (aj (av := .pt _ _) rfl) <| zS rfl (aj (av := .pt _ _) rfl) <| zS rfl (ar rfl) <| zS rfl (al (n := 0) (by kernel_rfl) rfl) <| zR rfl (am (i := 0) ac rfl rfl rfl rfl) <| zX rfl (bA (bytes := 1) 1 ac ab rfl (by kernel_rfl) rfl rfl rfl rfl g18 e20) ?_;rintro _ _ ⟨t17, rfl, rfl⟩;refine zS rfl (ar rfl) <| zS rfl (al (n := 0) (by kernel_rfl) rfl) <| s0 rfl rfl (aw (i := 0) (c := slE _ _ _) (by kernel_rfl) rfl rfl rfl rfl (ai rfl)) <| zS rfl (ar rfl) <| zS rfl (al (n := 1) (by kernel_rfl) rfl) <| s0 rfl rfl (aw (i := 0) (c := .v _) (by kernel_rfl) rfl rfl rfl rfl (ai rfl)) <| ag <| bZ ?_;exact Exists.intro (x19, t17, 0) ⟨H, aP [0, 0] (.cons (.refl _) (.cons (.refl _) (.cons (.refl _) (.cons (.refl _) (.cons (.refl _) (.nil _)))))) rfl⟩
    ·replace H := ba c16 H;refine aC ?_;obtain ⟨g21, H⟩ := ay H;obtain ⟨g22, H⟩ := ay H;obtain ⟨x23, e24, H⟩ := bg H;obtain ⟨x25, e26, H⟩ := bK H;obtain ⟨x27, x28, e29, H⟩ := cZ H;refine aa ?_;show AR _ _ _ _ _ [0, 1, 2, 3, 4, 5, 6, 7] _;refine zS rfl (aj (av := .pt _ _) rfl) <| zm rfl <| zS rfl (aj (av := slE _ _ _) rfl) <| zm rfl <| zS rfl (bu rfl rfl g21) <| zS rfl (sf (E := Enc.byte) ac (by kernel_rfl) rfl rfl g22 e24) <| aq rfl rfl (aD rfl en125_qp rfl (wY F x14 x23 none x25 e26) ?_);refine aq rfl rfl (bI [0, 0] rfl en124_qp rfl (w_qp_put F o4 y7 t8 y9 x25 x27 x28 e29) rfl (fun c A' h => by cases h.1) ?_)
     rintro av A' ⟨h, t30, rfl⟩; cases h
     refine ag ?_;exact Exists.intro (x27, t30, x28) ⟨H, aP [0, 0] (.cons (.refl _) (.cons (.refl _) (.cons (.refl _) (.cons (.refl _) (.cons (.refl _) (.nil _)))))) rfl⟩
   rintro ⟨y31, t32, y33⟩ H;replace H : gL y6 (gM F a1 n11) y31 y33 = some r3 := H
   unfold gL at H
   obtain ⟨g35, H⟩ := ay H;refine aa ?_;show AR _ _ _ _ _ [0, 1] _;refine zS rfl (bu rfl rfl g35) <| zm rfl <| ag ?_;exact Exists.intro (n11, y6 + 1, y31, t32, y33) ⟨H, Nat.lt_succ_self _, aP [0, 0] (.cons (.refl _) (.cons (.refl _) (.cons (.refl _) (.cons (.refl _) (.cons (.refl _) (.nil _)))))) rfl⟩
  ·replace H := ba c12 H;refine bZ ?_;exact Exists.intro (y7, t8, y9) ⟨H, aP [0, 0] (.cons (.refl _) (.nil _)) rfl⟩
 rintro ⟨y36, t37, y38⟩ H;replace H : ji y36 y38 = some r3 := H
 unfold ji at H
 refine af <| aa ?_;show AR _ _ _ _ _ [0, 1, 2, 3, 4] _;refine zS rfl (aj (av := .pt _ _) rfl) <| zS rfl (ar rfl) <| zS rfl (al (n := 0) (by kernel_rfl) rfl) <| zR rfl (am (i := 0) ac rfl rfl rfl rfl) <| zS rfl (aB (av := slE _ _ _) rfl) <| ag <| aL ?_;obtain rfl := ap H;exact And.intro rfl (Exists.intro _ (Exists.intro _ ⟨aH rfl (.tok _ _ _), aI [] rfl, rfl, rfl⟩))
end Go.Proofs.YtjegcifofddgbaaGreatDoor
namespace Go.Pv
def b64_k1 : List UInt8 := [65, 66, 67, 68, 69, 70, 71, 72, 73, 74, 75, 76, 77, 78, 79, 80, 81, 82, 83, 84, 85, 86, 87, 88, 89, 90, 97, 98, 99, 100, 101, 102, 103, 104, 105, 106, 107, 108, 109, 110, 111, 112, 113, 114, 115, 116, 117, 118, 119, 120, 121, 122, 48, 49, 50, 51, 52, 53, 54, 55, 56, 57, 43, 47]
def jv (y43 : UInt8) (y44 : UInt8) (y45 : UInt8) (y46 : UInt8) : Option (UInt8 × UInt8 × UInt8 × UInt8) :=
some (y43, y44, y45, y46)
def gR (y20 : UInt8) (y27 : UInt8) (y34 : UInt8) (y41 : UInt8) : Option (UInt8 × UInt8 × UInt8 × UInt8) :=
jv y20 y27 y34 y41
def gQ (a1 : List UInt8) (x10 : List UInt8) (y20 : UInt8) (y27 : UInt8) (y34 : UInt8) : Option (UInt8 × UInt8 × UInt8 × UInt8) :=
grd (decide (0 ≤ 0)) <|
grd (cD (IntKind.u64.wrap ((BitVec.ofInt IntKind.u64.bits (Int.fdiv (IntKind.u64.wrap ((BitVec.ofInt IntKind.u64.bits (IntKind.u64.wrap ((BitVec.ofInt IntKind.u64.bits (IntKind.u64.wrap ((IntKind.u64.wrap ((x10.getD 0 0).toNat : Int)) * 2 ^ min (Int.toNat 16) IntKind.u64.bits)) ||| BitVec.ofInt IntKind.u64.bits (IntKind.u64.wrap ((IntKind.u64.wrap ((x10.getD 1 0).toNat : Int)) * 2 ^ min (Int.toNat 8) IntKind.u64.bits))).toNat)) ||| BitVec.ofInt IntKind.u64.bits (IntKind.u64.wrap ((x10.getD 2 0).toNat : Int))).toNat)) (2 ^ min (Int.toNat 0) IntKind.u64.bits)) &&& BitVec.ofInt IntKind.u64.bits 63).toNat)) b64_k1.length) <|
lt (at_ b64_k1 (IntKind.u64.wrap ((BitVec.ofInt IntKind.u64.bits (Int.fdiv (IntKind.u64.wrap ((BitVec.ofInt IntKind.u64.bits (IntKind.u64.wrap ((BitVec.ofInt IntKind.u64.bits (IntKind.u64.wrap ((IntKind.u64.wrap ((x10.getD 0 0).toNat : Int)) * 2 ^ min (Int.toNat 16) IntKind.u64.bits)) ||| BitVec.ofInt IntKind.u64.bits (IntKind.u64.wrap ((IntKind.u64.wrap ((x10.getD 1 0).toNat : Int)) * 2 ^ min (Int.toNat 8) IntKind.u64.bits))).toNat)) ||| BitVec.ofInt IntKind.u64.bits (IntKind.u64.wrap ((x10.getD 2 0).toNat : Int))).toNat)) (2 ^ min (Int.toNat 0) IntKind.u64.bits)) &&& BitVec.ofInt IntKind.u64.bits 63).toNat))) fun x38 =>
bif decide ((a1.length : Int) < 3) then
  gR y20 y27 y34 61
else
  gR y20 y27 y34 x38
def gP (a1 : List UInt8) (x10 : List UInt8) (y20 : UInt8) (y27 : UInt8) : Option (UInt8 × UInt8 × UInt8 × UInt8) :=
grd (decide (0 ≤ 6)) <|
grd (cD (IntKind.u64.wrap ((BitVec.ofInt IntKind.u64.bits (Int.fdiv (IntKind.u64.wrap ((BitVec.ofInt IntKind.u64.bits (IntKind.u64.wrap ((BitVec.ofInt IntKind.u64.bits (IntKind.u64.wrap ((IntKind.u64.wrap ((x10.getD 0 0).toNat : Int)) * 2 ^ min (Int.toNat 16) IntKind.u64.bits)) ||| BitVec.ofInt IntKind.u64.bits (IntKind.u64.wrap ((IntKind.u64.wrap ((x10.getD 1 0).toNat : Int)) * 2 ^ min (Int.toNat 8) IntKind.u64.bits))).toNat)) ||| BitVec.ofInt IntKind.u64.bits (IntKind.u64.wrap ((x10.getD 2 0).toNat : Int))).toNat)) (2 ^ min (Int.toNat 6) IntKind.u64.bits)) &&& BitVec.ofInt IntKind.u64.bits 63).toNat)) b64_k1.length) <|
lt (at_ b64_k1 (IntKind.u64.wrap ((BitVec.ofInt IntKind.u64.bits (Int.fdiv (IntKind.u64.wrap ((BitVec.ofInt IntKind.u64.bits (IntKind.u64.wrap ((BitVec.ofInt IntKind.u64.bits (IntKind.u64.wrap ((IntKind.u64.wrap ((x10.getD 0 0).toNat : Int)) * 2 ^ min (Int.toNat 16) IntKind.u64.bits)) ||| BitVec.ofInt IntKind.u64.bits (IntKind.u64.wrap ((IntKind.u64.wrap ((x10.getD 1 0).toNat : Int)) * 2 ^ min (Int.toNat 8) IntKind.u64.bits))).toNat)) ||| BitVec.ofInt IntKind.u64.bits (IntKind.u64.wrap ((x10.getD 2 0).toNat : Int))).toNat)) (2 ^ min (Int.toNat 6) IntKind.u64.bits)) &&& BitVec.ofInt IntKind.u64.bits 63).toNat))) fun x31 =>
bif decide ((a1.length : Int) < 2) then
  gQ a1 x10 y20 y27 61
else
  gQ a1 x10 y20 y27 x31
def gO (a1 : List UInt8) (x10 : List UInt8) (y20 : UInt8) : Option (UInt8 × UInt8 × UInt8 × UInt8) :=
grd (decide (0 ≤ 12)) <|
grd (cD (IntKind.u64.wrap ((BitVec.ofInt IntKind.u64.bits (Int.fdiv (IntKind.u64.wrap ((BitVec.ofInt IntKind.u64.bits (IntKind.u64.wrap ((BitVec.ofInt IntKind.u64.bits (IntKind.u64.wrap ((IntKind.u64.wrap ((x10.getD 0 0).toNat : Int)) * 2 ^ min (Int.toNat 16) IntKind.u64.bits)) ||| BitVec.ofInt IntKind.u64.bits (IntKind.u64.wrap ((IntKind.u64.wrap ((x10.getD 1 0).toNat : Int)) * 2 ^ min (Int.toNat 8) IntKind.u64.bits))).toNat)) ||| BitVec.ofInt IntKind.u64.bits (IntKind.u64.wrap ((x10.getD 2 0).toNat : Int))).toNat)) (2 ^ min (Int.toNat 12) IntKind.u64.bits)) &&& BitVec.ofInt IntKind.u64.bits 63).toNat)) b64_k1.length) <|
lt (at_ b64_k1 (IntKind.u64.wrap ((BitVec.ofInt IntKind.u64.bits (Int.fdiv (IntKind.u64.wrap ((BitVec.ofInt IntKind.u64.bits (IntKind.u64.wrap ((BitVec.ofInt IntKind.u64.bits (IntKind.u64.wrap ((IntKind.u64.wrap ((x10.getD 0 0).toNat : Int)) * 2 ^ min (Int.toNat 16) IntKind.u64.bits)) ||| BitVec.ofInt IntKind.u64.bits (IntKind.u64.wrap ((IntKind.u64.wrap ((x10.getD 1 0).toNat : Int)) * 2 ^ min (Int.toNat 8) IntKind.u64.bits))).toNat)) ||| BitVec.ofInt IntKind.u64.bits (IntKind.u64.wrap ((x10.getD 2 0).toNat : Int))).toNat)) (2 ^ min (Int.toNat 12) IntKind.u64.bits)) &&& BitVec.ofInt IntKind.u64.bits 63).toNat))) fun x24 =>
bif decide ((a1.length : Int) < 1) then
  gP a1 x10 y20 61
else
  gP a1 x10 y20 x24
def pm (F : Nat) (a1 : List UInt8) : Option (UInt8 × UInt8 × UInt8 × UInt8) :=
grd (decide (a1.length ≤ 3)) <|
lt (cpyB ([0, 0, 0] : List UInt8) a1) fun x10 =>
grd (decide (0 ≤ 16)) <|
grd (decide (0 ≤ 8)) <|
grd (decide (0 ≤ 18)) <|
grd (cD (IntKind.u64.wrap ((BitVec.ofInt IntKind.u64.bits (Int.fdiv (IntKind.u64.wrap ((BitVec.ofInt IntKind.u64.bits (IntKind.u64.wrap ((BitVec.ofInt IntKind.u64.bits (IntKind.u64.wrap ((IntKind.u64.wrap ((x10.getD 0 0).toNat : Int)) * 2 ^ min (Int.toNat 16) IntKind.u64.bits)) ||| BitVec.ofInt IntKind.u64.bits (IntKind.u64.wrap ((IntKind.u64.wrap ((x10.getD 1 0).toNat : Int)) * 2 ^ min (Int.toNat 8) IntKind.u64.bits))).toNat)) ||| BitVec.ofInt IntKind.u64.bits (IntKind.u64.wrap ((x10.getD 2 0).toNat : Int))).toNat)) (2 ^ min (Int.toNat 18) IntKind.u64.bits)) &&& BitVec.ofInt IntKind.u64.bits 63).toNat)) b64_k1.length) <|
lt (at_ b64_k1 (IntKind.u64.wrap ((BitVec.ofInt IntKind.u64.bits (Int.fdiv (IntKind.u64.wrap ((BitVec.ofInt IntKind.u64.bits (IntKind.u64.wrap ((BitVec.ofInt IntKind.u64.bits (IntKind.u64.wrap ((IntKind.u64.wrap ((x10.getD 0 0).toNat : Int)) * 2 ^ min (Int.toNat 16) IntKind.u64.bits)) ||| BitVec.ofInt IntKind.u64.bits (IntKind.u64.wrap ((IntKind.u64.wrap ((x10.getD 1 0).toNat : Int)) * 2 ^ min (Int.toNat 8) IntKind.u64.bits))).toNat)) ||| BitVec.ofInt IntKind.u64.bits (IntKind.u64.wrap ((x10.getD 2 0).toNat : Int))).toNat)) (2 ^ min (Int.toNat 18) IntKind.u64.bits)) &&& BitVec.ofInt IntKind.u64.bits 63).toNat))) fun x17 =>
bif decide ((a1.length : Int) < 0) then
  gO a1 x10 61
else
  gO a1 x10 x17
def lI (y30 : List UInt8) : Option ((List UInt8)) :=
grd (okW y30 []) <|
some y30
def nN (F : Nat) (rec10 : ((List UInt8) × (List UInt8)) → Option ((List UInt8))) (y6 : List UInt8) (y8 : List UInt8) : Option ((List UInt8)) :=
bif decide (0 < (y6.length : Int)) then
  grd (gZ (min 3 (y6.length : Int)) y6.length) <|
  lt (to_ y6 (min 3 (y6.length : Int))) fun x14 =>
  bnd4 (pm F x14) fun x16 x17 x18 x19 =>
  grd (okW y8 ([x16, x17, x18, x19] : List UInt8)) <|
  lt (y8 ++ ([x16, x17, x18, x19] : List UInt8)) fun x23 =>
  grd (gZ (min 3 (y6.length : Int)) y6.length) <|
  lt (cB y6 (min 3 (y6.length : Int))) fun x27 =>
  rec10 (x27, x23)
else
  lI y8
def nM (F : Nat) (n : Nat) : ((List UInt8) × (List UInt8)) → Option ((List UInt8)) :=
  loop (fun rec x => nN F rec x.1 x.2) n
def tr (F : Nat) (a1 : List UInt8) : Option ((List UInt8)) :=
nM F F (a1, [])
end Go.Pv
namespace Go.Proofs.YtjegcifofddgbaaGreatDoor
open Go.RowKit Go.Av Go.Pv
theorem en63_b64 : ∀ (args : Array Value) (w : World), (callFunc 63 args).run Tryz.prog w = .ok (.enter 63 args) w := fun _ _ => by kernel_rfl
theorem xV : ∀ (args : Array Value) (w : World), (callFunc 225 args).run Tryz.prog w = .ok (.enter 225 args) w := fun _ _ => by kernel_rfl
theorem xU : ∀ (args : Array Value) (w : World), (callFunc 226 args).run Tryz.prog w = .ok (.enter 226 args) w := fun _ _ => by kernel_rfl
abbrev _root_.Go.Av.co := @Tryz.underlying240
set_option maxRecDepth 100000 in
set_option maxHeartbeats 1000000 in
theorem tW (F : Nat) (a1 : List UInt8) (q2 : Option Nat) (r3 : UInt8) (r4 : UInt8) (r5 : UInt8) (r6 : UInt8) (H : pm F a1 = some (r3, r4, r5, r6)) : ACalls Tryz.prog 225 [slE Enc.byte a1 q2] [] (Ret (.agg [u8 r3, u8 r4, u8 r5, u8 r6]) []) := by
 unfold pm at H
 refine ax Tryz.func225 rfl rfl ?_;show AW _ _ 43 _ _ _;refine af <| aa ?_;show AR _ _ _ _ _ [0] _;refine zX rfl (dF (zs := [.int .u8 0, .int .u8 0, .int .u8 0, .int .u8 0]) (by kernel_rfl)) ?_;rintro _ _ ⟨o7, rfl, rfl⟩;refine ag <| af <| aa ?_;show AR _ _ _ _ _ [0] _;refine zX rfl (dF (zs := [.int .u8 0, .int .u8 0, .int .u8 0]) (by kernel_rfl)) ?_;rintro _ _ ⟨o8, rfl, rfl⟩;refine ag <| af ?_;obtain ⟨g9, H⟩ := ay H;obtain ⟨x10, e11, H⟩ := bg H;refine aa ?_;show AR _ _ _ _ _ [0, 1, 2] _;refine zS rfl (rF (k := 1) Tryz.underlying270 (by kernel_rfl) rfl) <| zS rfl (aj (av := slE _ _ _) rfl) <| zR rfl (vM (l := ([0, 0, 0] : List UInt8)) (vs := [u8 (x10.getD 0 0), u8 (x10.getD 1 0), u8 (x10.getD 2 0)]) 0 ac (by kernel_rfl) rfl rfl rfl rfl rfl g9 e11 rfl) <| ag <| af ?_;obtain ⟨g12, H⟩ := ay H;obtain ⟨g13, H⟩ := ay H;refine aa ?_;show AR _ _ _ _ _ [0, 1, 2, 3, 4, 5, 6, 7, 8, 9, 10, 11, 12, 13] _
 refine zS rfl (bx (Ar := 0) (k := 1) (m := 0) Tryz.underlying270 (by kernel_rfl) rfl rfl rfl (by decide)) <| zR rfl (am (i := 0) aY rfl rfl rfl rfl) <| zS rfl (cw (k' := .u8) (n := ((x10.getD 0 0).toNat : Int)) (by kernel_rfl) ed rfl) <| zS rfl (oE rfl rfl (of_decide_eq_true g12)) <| zS rfl (bx (Ar := 0) (k := 1) (m := 1) Tryz.underlying270 (by kernel_rfl) rfl rfl rfl (by decide)) <| zR rfl (am (i := 0) aY rfl rfl rfl rfl) <| zS rfl (cw (k' := .u8) (n := ((x10.getD 1 0).toNat : Int)) (by kernel_rfl) ed rfl) <| zS rfl (oE rfl rfl (of_decide_eq_true g13)) <| zS rfl (wD rfl rfl) <| zS rfl (bx (Ar := 0) (k := 1) (m := 2) Tryz.underlying270 (by kernel_rfl) rfl rfl rfl (by decide)) <| zR rfl (am (i := 0) aY rfl rfl rfl rfl) <| zS rfl (cw (k' := .u8) (n := ((x10.getD 2 0).toNat : Int)) (by kernel_rfl) ed rfl) <| zS rfl (wD rfl rfl) <| za rfl <| ag <| af <| aa ?_;show AR _ _ _ _ _ [0] _;refine zX rfl (dF (zs := [.int .u8 0, .int .u8 0, .int .u8 0, .int .u8 0]) (by kernel_rfl)) ?_;rintro _ _ ⟨o14, rfl, rfl⟩;refine ag <| bk (X := UInt8 × UInt8 × UInt8 × UInt8) (fun (y43, y44, y45, y46) => ⟨[(2, .pt o7 0), (5, .pt o14 0)], [], [.obj o14 [u8 y43, u8 y44, u8 y45, u8 y46], .obj o7 [u8 0, u8 0, u8 0, u8 0]]⟩) (fun (y43, y44, y45, y46) => jv y43 y44 y45 y46 = some (r3, r4, r5, r6)) ?_ ?_
 ·refine af <| aa ?_;show AR _ _ _ _ _ [0] _;refine zm rfl <| ag <| aO <| pn 6 <| af <| aa ?_;show AR _ _ _ _ _ [0] _;refine zS rfl (bo (av' := B true) (bC rfl rfl) (aA (by decide))) <| ag <| af <| az rfl (fun _ => ?_) (fun hx => bS rfl hx);refine aC <| bk (X := UInt8) (fun y20 => ⟨[(0, slE Enc.byte a1 q2), (2, .pt o7 0), (4, .v (.int .u64 (IntKind.u64.wrap ((BitVec.ofInt IntKind.u64.bits (IntKind.u64.wrap ((BitVec.ofInt IntKind.u64.bits (IntKind.u64.wrap ((IntKind.u64.wrap ((x10.getD 0 0).toNat : Int)) * 2 ^ min (Int.toNat 16) IntKind.u64.bits)) ||| BitVec.ofInt IntKind.u64.bits (IntKind.u64.wrap ((IntKind.u64.wrap ((x10.getD 1 0).toNat : Int)) * 2 ^ min (Int.toNat 8) IntKind.u64.bits))).toNat)) ||| BitVec.ofInt IntKind.u64.bits (IntKind.u64.wrap ((x10.getD 2 0).toNat : Int))).toNat)))), (5, .pt o14 0), (23, i64 0)], [], [.obj o14 [u8 y20, u8 0, u8 0, u8 0], .obj o7 [u8 0, u8 0, u8 0, u8 0]]⟩) (fun y20 => gO a1 x10 y20 = some (r3, r4, r5, r6)) ?_ ?_
  ·refine aO <| af <| aa ?_;show AR _ _ _ _ _ [0, 1] _;refine zm rfl <| za rfl <| ag <| af ?_;obtain ⟨g15, H⟩ := ay H;obtain ⟨g16, H⟩ := ay H;obtain ⟨x17, e18, H⟩ := bg H;refine aa ?_;show AR _ _ _ _ _ [0, 1, 2, 3, 4, 5, 6, 7, 8, 9] _;refine zm rfl <| zm rfl <| zm rfl <| zS rfl (bo (av' := i64 0) (kf rfl rfl (by decide)) rfl) <| zS rfl (bo (av' := i64 18) (eL rfl rfl (by decide)) rfl) <| zS rfl (oD rfl rfl (of_decide_eq_true g15)) <| zS rfl (oG rfl rfl) <| zS rfl (bj ab rfl rfl g16 e18) <| zS rfl (bx (Ar := 0) (k := 1) (m := 0) co (by kernel_rfl) rfl rfl rfl (by decide)) <| s0 rfl rfl (aw (i := 0) (c := .v _) (by kernel_rfl) rfl rfl rfl rfl (ai rfl)) <| ag <| af <| aa ?_;show AR _ _ _ _ _ [0, 1, 2, 3] _;refine zm rfl <| zS rfl (aj (av := slE _ _ _) rfl) <| zS rfl (aQ ac rfl) <| zS rfl (cS rfl rfl) <| ag <| az rfl (fun c19 => ?_) (fun c19 => ?_)
   ·replace H := aZ c19 H;refine aa ?_;show AR _ _ _ _ _ [0, 1, 2] _;refine zm rfl <| zS rfl (bx (Ar := 0) (k := 1) (m := 0) co (by kernel_rfl) rfl rfl rfl (by decide)) <| s0 rfl rfl (aw (i := 0) (c := .v _) (by kernel_rfl) rfl rfl rfl rfl (ai rfl)) <| ag ?_;exact Exists.intro 61 ⟨H, aP [0, 1] (.cons (.refl _) (.cons (.refl _) (.cons (.refl _) (.cons (.refl _) (.cons (.refl _) (.nil _)))))) rfl⟩
   ·replace H := ba c19 H;refine aC ?_;exact Exists.intro x17 ⟨H, aP [0, 1] (.cons (.refl _) (.cons (.refl _) (.cons (.refl _) (.cons (.refl _) (.cons (.refl _) (.nil _)))))) rfl⟩
  rintro y20 H;replace H : gO a1 x10 y20 = some (r3, r4, r5, r6) := H
  unfold gO at H
  refine aa ?_;show AR _ _ _ _ _ [0, 1] _;refine zS rfl (bo (av' := i64 1) (bu rfl rfl (by decide)) rfl) <| zm rfl <| ag <| af <| aa ?_;show AR _ _ _ _ _ [0] _;refine zS rfl (bo (av' := B true) (bC rfl rfl) (aA (by decide))) <| ag <| af <| az rfl (fun _ => ?_) (fun hx => bS rfl hx);refine aC <| bk (X := UInt8) (fun y27 => ⟨[(0, slE Enc.byte a1 q2), (2, .pt o7 0), (4, .v (.int .u64 (IntKind.u64.wrap ((BitVec.ofInt IntKind.u64.bits (IntKind.u64.wrap ((BitVec.ofInt IntKind.u64.bits (IntKind.u64.wrap ((IntKind.u64.wrap ((x10.getD 0 0).toNat : Int)) * 2 ^ min (Int.toNat 16) IntKind.u64.bits)) ||| BitVec.ofInt IntKind.u64.bits (IntKind.u64.wrap ((IntKind.u64.wrap ((x10.getD 1 0).toNat : Int)) * 2 ^ min (Int.toNat 8) IntKind.u64.bits))).toNat)) ||| BitVec.ofInt IntKind.u64.bits (IntKind.u64.wrap ((x10.getD 2 0).toNat : Int))).toNat)))), (5, .pt o14 0), (23, i64 1)], [], [.obj o14 [u8 y20, u8 y27, u8 0, u8 0], .obj o7 [u8 0, u8 0, u8 0, u8 0]]⟩) (fun y27 => gP a1 x10 y20 y27 = some (r3, r4, r5, r6)) ?_ ?_
  ·refine aO <| af <| aa ?_;show AR _ _ _ _ _ [0, 1] _;refine zm rfl <| za rfl <| ag <| af ?_;obtain ⟨g22, H⟩ := ay H;obtain ⟨g23, H⟩ := ay H;obtain ⟨x24, e25, H⟩ := bg H;refine aa ?_;show AR _ _ _ _ _ [0, 1, 2, 3, 4, 5, 6, 7, 8, 9] _;refine zm rfl <| zm rfl <| zm rfl <| zS rfl (bo (av' := i64 6) (kf rfl rfl (by decide)) rfl) <| zS rfl (bo (av' := i64 12) (eL rfl rfl (by decide)) rfl) <| zS rfl (oD rfl rfl (of_decide_eq_true g22)) <| zS rfl (oG rfl rfl) <| zS rfl (bj ab rfl rfl g23 e25) <| zS rfl (bx (Ar := 0) (k := 1) (m := 1) co (by kernel_rfl) rfl rfl rfl (by decide)) <| s0 rfl rfl (aw (i := 0) (c := .v _) (by kernel_rfl) rfl rfl rfl rfl (ai rfl)) <| ag <| af <| aa ?_;show AR _ _ _ _ _ [0, 1, 2, 3] _;refine zm rfl <| zS rfl (aj (av := slE _ _ _) rfl) <| zS rfl (aQ ac rfl) <| zS rfl (cS rfl rfl) <| ag <| az rfl (fun c26 => ?_) (fun c26 => ?_)
   ·replace H := aZ c26 H;refine aa ?_;show AR _ _ _ _ _ [0, 1, 2] _;refine zm rfl <| zS rfl (bx (Ar := 0) (k := 1) (m := 1) co (by kernel_rfl) rfl rfl rfl (by decide)) <| s0 rfl rfl (aw (i := 0) (c := .v _) (by kernel_rfl) rfl rfl rfl rfl (ai rfl)) <| ag ?_;exact Exists.intro 61 ⟨H, aP [0, 0] (.cons (.refl _) (.cons (.refl _) (.cons (.refl _) (.cons (.refl _) (.cons (.refl _) (.nil _)))))) rfl⟩
   ·replace H := ba c26 H;refine aC ?_;exact Exists.intro x24 ⟨H, aP [0, 0] (.cons (.refl _) (.cons (.refl _) (.cons (.refl _) (.cons (.refl _) (.cons (.refl _) (.nil _)))))) rfl⟩
  rintro y27 H;replace H : gP a1 x10 y20 y27 = some (r3, r4, r5, r6) := H
  unfold gP at H
  refine aa ?_;show AR _ _ _ _ _ [0, 1] _;refine zS rfl (bo (av' := i64 2) (bu rfl rfl (by decide)) rfl) <| zm rfl <| ag <| af <| aa ?_;show AR _ _ _ _ _ [0] _;refine zS rfl (bo (av' := B true) (bC rfl rfl) (aA (by decide))) <| ag <| af <| az rfl (fun _ => ?_) (fun hx => bS rfl hx);refine aC <| bk (X := UInt8) (fun y34 => ⟨[(0, slE Enc.byte a1 q2), (2, .pt o7 0), (4, .v (.int .u64 (IntKind.u64.wrap ((BitVec.ofInt IntKind.u64.bits (IntKind.u64.wrap ((BitVec.ofInt IntKind.u64.bits (IntKind.u64.wrap ((IntKind.u64.wrap ((x10.getD 0 0).toNat : Int)) * 2 ^ min (Int.toNat 16) IntKind.u64.bits)) ||| BitVec.ofInt IntKind.u64.bits (IntKind.u64.wrap ((IntKind.u64.wrap ((x10.getD 1 0).toNat : Int)) * 2 ^ min (Int.toNat 8) IntKind.u64.bits))).toNat)) ||| BitVec.ofInt IntKind.u64.bits (IntKind.u64.wrap ((x10.getD 2 0).toNat : Int))).toNat)))), (5, .pt o14 0), (23, i64 2)], [], [.obj o14 [u8 y20, u8 y27, u8 y34, u8 0], .obj o7 [u8 0, u8 0, u8 0, u8 0]]⟩) (fun y34 => gQ a1 x10 y20 y27 y34 = some (r3, r4, r5, r6)) ?_ ?_
  ·refine aO <| af <| aa ?_;show AR _ _ _ _ _ [0, 1] _;refine zm rfl <| za rfl <| ag <| af ?_;obtain ⟨g29, H⟩ := ay H;obtain ⟨g30, H⟩ := ay H;obtain ⟨x31, e32, H⟩ := bg H;refine aa ?_;show AR _ _ _ _ _ [0, 1, 2, 3, 4, 5, 6, 7, 8, 9] _;refine zm rfl <| zm rfl <| zm rfl <| zS rfl (bo (av' := i64 12) (kf rfl rfl (by decide)) rfl) <| zS rfl (bo (av' := i64 6) (eL rfl rfl (by decide)) rfl) <| zS rfl (oD rfl rfl (of_decide_eq_true g29)) <| zS rfl (oG rfl rfl) <| zS rfl (bj ab rfl rfl g30 e32) <| zS rfl (bx (Ar := 0) (k := 1) (m := 2) co (by kernel_rfl) rfl rfl rfl (by decide)) <| s0 rfl rfl (aw (i := 0) (c := .v _) (by kernel_rfl) rfl rfl rfl rfl (ai rfl)) <| ag <| af <| aa ?_;show AR _ _ _ _ _ [0, 1, 2, 3] _;refine zm rfl <| zS rfl (aj (av := slE _ _ _) rfl) <| zS rfl (aQ ac rfl) <| zS rfl (cS rfl rfl) <| ag <| az rfl (fun c33 => ?_) (fun c33 => ?_)
   ·replace H := aZ c33 H;refine aa ?_;show AR _ _ _ _ _ [0, 1, 2] _;refine zm rfl <| zS rfl (bx (Ar := 0) (k := 1) (m := 2) co (by kernel_rfl) rfl rfl rfl (by decide)) <| s0 rfl rfl (aw (i := 0) (c := .v _) (by kernel_rfl) rfl rfl rfl rfl (ai rfl)) <| ag ?_;exact Exists.intro 61 ⟨H, aP [0, 0] (.cons (.refl _) (.cons (.refl _) (.cons (.refl _) (.cons (.refl _) (.cons (.refl _) (.nil _)))))) rfl⟩
   ·replace H := ba c33 H;refine aC ?_;exact Exists.intro x31 ⟨H, aP [0, 0] (.cons (.refl _) (.cons (.refl _) (.cons (.refl _) (.cons (.refl _) (.cons (.refl _) (.nil _)))))) rfl⟩
  rintro y34 H;replace H : gQ a1 x10 y20 y27 y34 = some (r3, r4, r5, r6) := H
  unfold gQ at H
  refine aa ?_;show AR _ _ _ _ _ [0, 1] _;refine zS rfl (bo (av' := i64 3) (bu rfl rfl (by decide)) rfl) <| zm rfl <| ag <| af <| aa ?_;show AR _ _ _ _ _ [0] _;refine zS rfl (bo (av' := B true) (bC rfl rfl) (aA (by decide))) <| ag <| af <| az rfl (fun _ => ?_) (fun hx => bS rfl hx);refine aC <| bk (X := UInt8) (fun y41 => ⟨[(0, slE Enc.byte a1 q2), (2, .pt o7 0), (4, .v (.int .u64 (IntKind.u64.wrap ((BitVec.ofInt IntKind.u64.bits (IntKind.u64.wrap ((BitVec.ofInt IntKind.u64.bits (IntKind.u64.wrap ((IntKind.u64.wrap ((x10.getD 0 0).toNat : Int)) * 2 ^ min (Int.toNat 16) IntKind.u64.bits)) ||| BitVec.ofInt IntKind.u64.bits (IntKind.u64.wrap ((IntKind.u64.wrap ((x10.getD 1 0).toNat : Int)) * 2 ^ min (Int.toNat 8) IntKind.u64.bits))).toNat)) ||| BitVec.ofInt IntKind.u64.bits (IntKind.u64.wrap ((x10.getD 2 0).toNat : Int))).toNat)))), (5, .pt o14 0), (23, i64 3)], [], [.obj o14 [u8 y20, u8 y27, u8 y34, u8 y41], .obj o7 [u8 0, u8 0, u8 0, u8 0]]⟩) (fun y41 => gR y20 y27 y34 y41 = some (r3, r4, r5, r6)) ?_ ?_
  ·refine aO <| af <| aa ?_;show AR _ _ _ _ _ [0, 1] _;refine zm rfl <| za rfl <| ag <| af ?_;obtain ⟨g36, H⟩ := ay H;obtain ⟨g37, H⟩ := ay H;obtain ⟨x38, e39, H⟩ := bg H;refine aa ?_;show AR _ _ _ _ _ [0, 1, 2, 3, 4, 5, 6, 7, 8, 9] _;refine zm rfl <| zm rfl <| zm rfl <| zS rfl (bo (av' := i64 18) (kf rfl rfl (by decide)) rfl) <| zS rfl (bo (av' := i64 0) (eL rfl rfl (by decide)) rfl) <| zS rfl (oD rfl rfl (of_decide_eq_true g36)) <| zS rfl (oG rfl rfl) <| zS rfl (bj ab rfl rfl g37 e39) <| zS rfl (bx (Ar := 0) (k := 1) (m := 3) co (by kernel_rfl) rfl rfl rfl (by decide)) <| s0 rfl rfl (aw (i := 0) (c := .v _) (by kernel_rfl) rfl rfl rfl rfl (ai rfl)) <| ag <| af <| aa ?_;show AR _ _ _ _ _ [0, 1, 2, 3] _;refine zm rfl <| zS rfl (aj (av := slE _ _ _) rfl) <| zS rfl (aQ ac rfl) <| zS rfl (cS rfl rfl) <| ag <| az rfl (fun c40 => ?_) (fun c40 => ?_)
   ·replace H := aZ c40 H;refine aa ?_;show AR _ _ _ _ _ [0, 1, 2] _;refine zm rfl <| zS rfl (bx (Ar := 0) (k := 1) (m := 3) co (by kernel_rfl) rfl rfl rfl (by decide)) <| s0 rfl rfl (aw (i := 0) (c := .v _) (by kernel_rfl) rfl rfl rfl rfl (ai rfl)) <| ag ?_;exact Exists.intro 61 ⟨H, aP [0, 0] (.cons (.refl _) (.cons (.refl _) (.cons (.refl _) (.cons (.refl _) (.cons (.refl _) (.nil _)))))) rfl⟩
   ·replace H := ba c40 H;refine aC ?_;exact Exists.intro x38 ⟨H, aP [0, 0] (.cons (.refl _) (.cons (.refl _) (.cons (.refl _) (.cons (.refl _) (.cons (.refl _) (.nil _)))))) rfl⟩
  rintro y41 H;replace H : gR y20 y27 y34 y41 = some (r3, r4, r5, r6) := H
  unfold gR at H
  refine aa ?_;show AR _ _ _ _ _ [0, 1] _;refine zS rfl (bo (av' := i64 4) (bu rfl rfl (by decide)) rfl) <| zm rfl <| ag <| af <| aa ?_;show AR _ _ _ _ _ [0] _;refine zS rfl (bo (av' := B false) (bC rfl rfl) (aA (by decide))) <| ag <| af <| az rfl (fun hx => bS hx rfl) (fun _ => ?_);refine bZ ?_;exact Exists.intro (y20, y27, y34, y41) ⟨H, aP [0, 0] (.cons (.refl _) (.cons (.refl _) (.nil _))) rfl⟩
 rintro ⟨y43, y44, y45, y46⟩ H;replace H : jv y43 y44 y45 y46 = some (r3, r4, r5, r6) := H
 unfold jv at H
 refine af <| aa ?_;show AR _ _ _ _ _ [0, 1] _;refine zR rfl (lv (i := 0) (n := 4) co rfl (by kernel_rfl) rfl rfl (ai rfl)) <| s0 rfl rfl (cT (i := 1) (vs := [u8 y43, u8 y44, u8 y45, u8 y46]) (by kernel_rfl) rfl rfl (by simp [cP, slE]) rfl (ai rfl)) <| ag <| aL ?_;obtain ⟨rfl, rfl, rfl, rfl⟩ := res4 H;exact And.intro rfl (Exists.intro _ (Exists.intro _ ⟨mK (uP rfl (CellV.agg (off := 0) (cs := [u8 y43, u8 y44, u8 y45, u8 y46]) (n := 4) 1 co rfl (by kernel_rfl) rfl rfl (ai rfl))), aI [] rfl, rfl, rfl⟩))
set_option maxRecDepth 100000 in
set_option maxHeartbeats 1000000 in
theorem xb (F : Nat) (a1 : List UInt8) (q2 : Option Nat) (r3 : List UInt8) (H : tr F a1 = some r3) : ACalls Tryz.prog 184 [slE Enc.byte a1 q2] [] (Ret (S r3) []) := by
 unfold tr at H
 refine ax Tryz.func184 rfl rfl ?_;show AW _ _ 23 _ _ _;refine af <| aa ?_;show AR _ _ _ _ _ [0] _;refine za rfl <| ag <| af <| aa ?_;show AR _ _ _ _ _ [0] _;refine zX rfl (jV (zs := [(.pointer none), .slice none 0 0]) (by kernel_rfl)) ?_;rintro _ _ ⟨o4, rfl, rfl⟩;refine ag ?_
 refine eB 0 1 1 5 rfl rfl fun t5 => ?_
 show AW _ _ _ _ _ ⟨_, _, [.tok t5 5, .obj o4 [.v (.pointer none), slE Enc.byte [] (some t5)], .ty o4 91]⟩;refine bk (X := AV × (List UInt8) × Nat) (fun (t29, y30, t31) => ⟨[(3, .pt o4 0)], [], [.obj o4 [t29, slE Enc.byte y30 (some t31)], .ty o4 91, .tok t31 5]⟩) (fun (t29, y30, t31) => lI y30 = some r3 ∧ (t29 = .v (.pointer none) ∨ t29 = .pt o4 0)) ?_ ?_
 ·refine aO <| cl (X := Nat × (List UInt8) × AV × (List UInt8) × Nat) (fun (n11, y6, t7, y8, t9) => ⟨[(0, slE Enc.byte y6 none), (3, .pt o4 0)], [], [.obj o4 [t7, slE Enc.byte y8 (some t9)], .ty o4 91, .tok t9 5]⟩) (fun (n11, y6, t7, y8, t9) => nM F n11 (y6, y8) = some r3 ∧ (t7 = .v (.pointer none) ∨ t7 = .pt o4 0)) (fun (n11, y6, t7, y8, t9) => n11) (F, a1, (.v (.pointer none)), [], t5) ⟨H, .inl rfl⟩ (aP [1, 1, 0] (.cons (.tok _ _ _) (.cons (.refl _) (.nil _))) rfl) ?_;rintro ⟨n11, y6, t7, y8, t9⟩ ⟨H, ht7⟩;obtain ⟨n11, rfl, H⟩ := cO H;replace H : nN F (nM F n11) y6 y8 = some r3 := H
  unfold nN at H
  refine af <| af <| aa ?_;show AR _ _ _ _ _ [0, 1, 2] _;refine zS rfl (aj (av := slE _ _ _) rfl) <| zS rfl (aQ ac rfl) <| zS rfl (cS rfl rfl) <| ag <| az rfl (fun c12 => ?_) (fun c12 => ?_)
  ·replace H := aZ c12 H;refine aC <| aO <| af <| aa ?_;show AR _ _ _ _ _ [0, 1, 2, 3] _;refine zS rfl (aj (av := slE _ _ _) rfl) <| zS rfl (aQ ac rfl) <| zS rfl (opS_min rfl rfl) <| za rfl <| ag <| af ?_;obtain ⟨g13, H⟩ := ay H;obtain ⟨x14, e15, H⟩ := bg H;obtain ⟨x16, x17, x18, x19, e20, H⟩ := bnd4_s H;refine aa ?_;show AR _ _ _ _ _ [0, 1, 2, 3, 4, 5, 6] _;refine zS rfl (aj (av := slE _ _ _) rfl) <| zm rfl <| zm rfl <| zS rfl (uk (E := Enc.byte) ac (by kernel_rfl) rfl rfl rfl g13 e15) <| aq rfl rfl (aD rfl xV rfl (tW F x14 none x16 x17 x18 x19 e20) ?_);refine zX rfl (dF (zs := [.int .u8 0, .int .u8 0, .int .u8 0, .int .u8 0]) (by kernel_rfl)) ?_;rintro _ _ ⟨o21, rfl, rfl⟩;refine s0 rfl rfl (cT (i := 0) (vs := [u8 x16, u8 x17, u8 x18, u8 x19]) (by kernel_rfl) rfl rfl (by simp [cP, slE]) rfl (ai rfl)) <| AR.freezeCp 5 0 rfl rfl ?_;show AR _ _ _ _ _ _ ⟨_, _, [.obj o4 [t7, slE Enc.byte y8 (some t9)], .ty o4 91, .tok t9 5]⟩;refine ag <| af ?_;obtain ⟨g22, H⟩ := ay H;obtain ⟨x23, e24, H⟩ := bg H;refine aa ?_;show AR _ _ _ _ _ [0, 1] _;refine zS rfl (oP (E := Enc.byte) (l := ([x16, x17, x18, x19] : List UInt8)) rfl co (by kernel_rfl) rfl rfl rfl) <| aq rfl rfl (bI [0, 0, 0] rfl xU rfl (qo  o4 (t7) ht7 y8 ([x16, x17, x18, x19] : List UInt8) none t9 (jc g22)) rfl (fun c A' h => by cases h.1) ?_)
   rintro av A' ⟨h, t25, rfl⟩; cases h
   rw [e24]
   refine ag ?_;obtain ⟨g26, H⟩ := ay H;obtain ⟨x27, e28, H⟩ := bg H;refine aa ?_;show AR _ _ _ _ _ [0, 1, 2, 3] _;refine zS rfl (aj (av := slE _ _ _) rfl) <| zm rfl <| zS rfl (sf (E := Enc.byte) ac (by kernel_rfl) rfl rfl g26 e28) <| zS rfl (aB (av := slE _ _ _) rfl) <| ag ?_;exact Exists.intro (n11, x27, (.pt o4 0), x23, t25) ⟨⟨H, .inr rfl⟩, Nat.lt_succ_self _, aP [0, 0, 0] (.cons (.refl _) (.cons (.refl _) (.nil _))) rfl⟩
  ·replace H := ba c12 H;refine bZ ?_;exact Exists.intro (t7, y8, t9) ⟨⟨H, ht7⟩, aP [0, 0, 0] (.cons (.refl _) (.nil _)) rfl⟩
 rintro ⟨t29, y30, t31⟩ ⟨H, ht29⟩;replace H : lI y30 = some r3 := H
 unfold lI at H
 refine af ?_;obtain ⟨g33, H⟩ := ay H;refine aa ?_;show AR _ _ _ _ _ [0, 1] _;refine aq rfl rfl (bI [0, 1] rfl en63_b64 rfl (fh  o4 (t29) y30 t31 (pO g33)) rfl (fun c A' h => by cases h.1) ?_)
 rintro av A' ⟨h, rfl⟩; cases h
 refine za rfl <| ag <| aL ?_;obtain rfl := ap H;exact And.intro rfl (Exists.intro _ (Exists.intro _ ⟨aH rfl (.refl _), aI [] rfl, rfl, rfl⟩))
end Go.Proofs.YtjegcifofddgbaaGreatDoor
namespace Go.Pv
def nF (F : Nat) (a1 : UInt8) : Option Bool :=
some (((((decide (97 ≤ (a1.toNat : Int))) && (decide ((a1.toNat : Int) ≤ 122))) || ((decide (65 ≤ (a1.toNat : Int))) && (decide ((a1.toNat : Int) ≤ 90)))) || ((decide (48 ≤ (a1.toNat : Int))) && (decide ((a1.toNat : Int) ≤ 57)))) || (decide (a1 = 45)))
def mj (F : Nat) (a1 : UInt8) : Option Bool :=
some ((decide (32 ≤ (a1.toNat : Int))) && (decide ((a1.toNat : Int) < 127)))
def iu (a1 : List UInt8) : Option Bool :=
some (!decide (a1 = ([] : List UInt8)))
def kJ (F : Nat) (a1 : List UInt8) (rec4 : Int → Option Bool) (y3 : Int) : Option Bool :=
bif decide (y3 < (a1.length : Int)) then
  grd (cD y3 a1.length) <|
  lt (at_ a1 y3) fun x8 =>
  bnd (nF F x8) fun x10 =>
  bif !x10 then
    some false
  else
    grd (okI (y3 + 1)) <|
    rec4 (y3 + 1)
else
  iu a1
def kI (F : Nat) (a1 : List UInt8) (n : Nat) : Int → Option Bool :=
  loop (fun rec x => kJ F a1 rec x) n
def nE (F : Nat) (a1 : List UInt8) : Option Bool :=
kI F a1 F 0
def ir (a1 : List UInt8) : Option Bool :=
some (!decide (a1 = ([] : List UInt8)))
def kH (F : Nat) (a1 : List UInt8) (rec4 : Int → Option Bool) (y3 : Int) : Option Bool :=
bif decide (y3 < (a1.length : Int)) then
  grd (cD y3 a1.length) <|
  lt (at_ a1 y3) fun x8 =>
  bnd (mj F x8) fun x10 =>
  bif !x10 then
    some false
  else
    grd (okI (y3 + 1)) <|
    rec4 (y3 + 1)
else
  ir a1
def kG (F : Nat) (a1 : List UInt8) (n : Nat) : Int → Option Bool :=
  loop (fun rec x => kH F a1 rec x) n
def nD (F : Nat) (a1 : List UInt8) : Option Bool :=
kG F a1 F 0
def pd (F : Nat) (a1 : List UInt8) : Option Bool :=
kN (decide ((a1.length : Int) ≤ 40)) (nE F a1) fun x4 =>
some ((decide ((a1.length : Int) ≤ 40)) && x4)
def nH (F : Nat) (a1 : List UInt8) : Option Bool :=
bnd (nD F a1) fun x3 =>
fV x3 (okS a1.length) <|
lt (Go.Lib.trimB a1 32) fun x7 =>
fV (x3 && (decide (x7 = a1))) (okS a1.length) <|
lt (Go.Lib.contains a1 ([32, 32] : List UInt8)) fun x11 =>
fV ((x3 && (decide (x7 = a1))) && (!x11)) (okS a1.length) <|
lt (Go.Lib.contains a1 ([61, 63] : List UInt8)) fun x15 =>
some (((x3 && (decide (x7 = a1))) && (!x11)) && (!x15))
def ml (F : Nat) (a1 : UInt8) : Option Bool :=
some (decide (Go.Av.shr8 a1 6 = 2))
def jq (y15 : Int) : Option Int :=
bif decide (y15 = 41) then
  some 45
else
  some y15
def ly (F : Nat) (a1 : List UInt8) (rec5 : Int → Option Int) (y4 : Int) : Option Int :=
fV (decide (41 < y4)) (cD y4 a1.length) <|
lt (at_ a1 y4) fun x9 =>
kN (decide (41 < y4)) (ml F x9) fun x11 =>
bif (decide (41 < y4)) && x11 then
  grd (okI (y4 - 1)) <|
  rec5 (y4 - 1)
else
  jq y4
def lx (F : Nat) (a1 : List UInt8) (n : Nat) : Int → Option Int :=
  loop (fun rec x => ly F a1 rec x) n
def pc (F : Nat) (a1 : List UInt8) : Option Int :=
bif decide ((a1.length : Int) ≤ 45) then
  some (a1.length : Int)
else
  lx F a1 F 45
def jN {σ : Type} (F : Nat) (k : σ → (List UInt8) → Option (σ × Bool)) (rec30 : ((List UInt8) × σ) → Option (σ × (List UInt8))) (y27 : List UInt8) (y28 : σ) : Option (σ × (List UInt8)) :=
bif !decide (y27 = ([] : List UInt8)) then
  bnd (pc F y27) fun x33 =>
  grd (gZ x33 y27.length) <|
  lt (to_ y27 x33) fun x36 =>
  grd (bt x36.length) <|
  bnd (tr F x36) fun x40 =>
  grd (bt (([61, 63, 117, 116, 102, 45, 56, 63, 66, 63] : List UInt8).length + x40.length)) <|
  lt (([61, 63, 117, 116, 102, 45, 56, 63, 66, 63] : List UInt8) ++ x40) fun x43 =>
  grd (bt (x43.length + ([63, 61] : List UInt8).length)) <|
  lt (x43 ++ ([63, 61] : List UInt8)) fun x46 =>
  hC (k y28 x46) fun x48 x49 =>
  bif !x49 then
    some (x48, y27)
  else
    grd (gZ x33 y27.length) <|
    lt (cB y27 x33) fun x54 =>
    rec30 (x54, x48)
else
  some (y28, y27)
def jL {σ : Type} (F : Nat) (k : σ → (List UInt8) → Option (σ × Bool)) (n : Nat) : ((List UInt8) × σ) → Option (σ × (List UInt8)) :=
  loop (fun rec x => jN F k rec x.1 x.2) n
def gE {σ : Type} (F : Nat) (a2 : List UInt8) (k : σ → (List UInt8) → Option (σ × Bool)) (st0 : σ) : Option (σ × (List UInt8)) :=
jL F k F (a2, st0)
def jM {σ : Type} (a2 : List UInt8) (k : σ → (List UInt8) → Option (σ × Bool)) (x9 : List (List UInt8)) (rec14 : (Int × σ) → Option (σ × (List UInt8))) (y11 : Int) (y12 : σ) : Option (σ × (List UInt8)) :=
bif decide (y11 < (x9.length : Int)) then
  grd (cD y11 x9.length) <|
  lt (at_ x9 y11) fun x18 =>
  hC (k y12 x18) fun x20 x21 =>
  bif !x21 then
    some (x20, a2)
  else
    grd (okI (y11 + 1)) <|
    rec14 (y11 + 1, x20)
else
  some (y12, a2)
def jK {σ : Type} (a2 : List UInt8) (k : σ → (List UInt8) → Option (σ × Bool)) (x9 : List (List UInt8)) (n : Nat) : (Int × σ) → Option (σ × (List UInt8)) :=
  loop (fun rec x => jM a2 k x9 rec x.1 x.2) n
def mi (F : Nat) {σ : Type} (k : σ → (List UInt8) → Option (σ × Bool)) (st0 : σ) (a2 : List UInt8) : Option (σ × (List UInt8)) :=
bnd (nH F a2) fun x4 =>
bif x4 then
  grd (okS a2.length) <|
  grd (decide (1 ≤ ([32] : List UInt8).length)) <|
  lt (Go.Lib.split a2 ([32] : List UInt8)) fun x9 =>
  jK a2 k x9 F (0, st0)
else
  gE F a2 k st0
def nC (F : Nat) (a1 : List UInt8) : Option Unit :=
some ()
def js (y66 : List UInt8) : Option ((List UInt8) × Int) :=
grd (bt (y66.length + ([13, 10] : List UInt8).length)) <|
lt (y66 ++ ([13, 10] : List UInt8)) fun x71 =>
some (x71, 0)
def gN (x22 : List UInt8) (y30 : Int) (y31 : List UInt8) : Option ((Int × (List UInt8)) × Bool) :=
grd (bt (y31.length + ([32] : List UInt8).length)) <|
lt (y31 ++ ([32] : List UInt8)) fun x36 =>
grd (bt (x36.length + x22.length)) <|
lt (x36 ++ x22) fun x40 =>
grd (okI (y30 + 1)) <|
grd (okI ((y30 + 1) + (x22.length : Int))) <|
some (((y30 + 1) + (x22.length : Int), x40), true)
def jr (y18 : Int) (y19 : List UInt8) (x22 : List UInt8) : Option ((Int × (List UInt8)) × Bool) :=
grd (okI (y18 + 1)) <|
grd (okI ((y18 + 1) + (x22.length : Int))) <|
bif decide (76 < (y18 + 1) + (x22.length : Int)) then
  grd (bt (y19.length + ([13, 10] : List UInt8).length)) <|
  lt (y19 ++ ([13, 10] : List UInt8)) fun x28 =>
  gN x22 0 x28
else
  gN x22 y18 y19
def pe (F : Nat) (a1 : List UInt8) (a2 : List UInt8) : Option ((List UInt8) × Int) :=
bnd (pd F a1) fun x5 =>
bif (!x5) || (decide (4000 < (a2.length : Int))) then
  some ([], 1)
else
  grd (bt (a1.length + ([58] : List UInt8).length)) <|
  lt (a1 ++ ([58] : List UInt8)) fun x10 =>
  grd (bt x10.length) <|
  bnd (nC F a2) fun _ =>
  hC (mi F (fun s x => jr s.1 s.2 x) ((x10.length : Int), x10) a2) fun x60 x61 =>
  js x60.2
end Go.Pv
