/-
  Texts in one (only what DigestIds needs): HeadAW, HeadBP, HeadBW, PartAP, PartAW, DigBP, DigBW, DigLP, DigLW, RefIP, RefIW, LDigestIdsP, LDigestIdsW, DgN, DgA, DgIds.
-/
import Derived.Test.YtjegcifofddgbaaGreatDoorZDigestIds4
import Derived.Test.YtjegcifofddgbaaGreatDoorShelf
import Derived.Lib.ItoaNum
import Derived.Lib.IndexLaws
import Derived.Test.YtjegcifofddgbaaGreatDoorChecked
set_option linter.unusedVariables false
set_option linter.unusedSimpArgs false
namespace Go.Proofs.YtjegcifofddgbaaGreatDoor
open Go.RowKit Go.Av Go.Pv
theorem pI : ∀ (args : Array Value) (w : World), (callFunc 65 args).run Tryz.prog w = .ok (.enter 65 args) w := fun _ _ => by kernel_rfl
theorem uD : ∀ (args : Array Value) (w : World), (callFunc 96 args).run Tryz.prog w = .ok (.enter 96 args) w := fun _ _ => by kernel_rfl
theorem tu : ∀ (args : Array Value) (w : World), (callFunc 123 args).run Tryz.prog w = .ok (.enter 123 args) w := fun _ _ => by kernel_rfl
theorem tn : ∀ (args : Array Value) (w : World), (callFunc 129 args).run Tryz.prog w = .ok (.enter 129 args) w := fun _ _ => by kernel_rfl
theorem tm : ∀ (args : Array Value) (w : World), (callFunc 130 args).run Tryz.prog w = .ok (.enter 130 args) w := fun _ _ => by kernel_rfl
theorem oE : ∀ (args : Array Value) (w : World), (callFunc 179 args).run Tryz.prog w = .ok (.enter 179 args) w := fun _ _ => by kernel_rfl
theorem tj : ∀ (args : Array Value) (w : World), (callFunc 180 args).run Tryz.prog w = .ok (.enter 180 args) w := fun _ _ => by kernel_rfl
theorem ti : ∀ (args : Array Value) (w : World), (callFunc 181 args).run Tryz.prog w = .ok (.enter 181 args) w := fun _ _ => by kernel_rfl
theorem th : ∀ (args : Array Value) (w : World), (callFunc 182 args).run Tryz.prog w = .ok (.enter 182 args) w := fun _ _ => by kernel_rfl
theorem tg : ∀ (args : Array Value) (w : World), (callFunc 183 args).run Tryz.prog w = .ok (.enter 183 args) w := fun _ _ => by kernel_rfl
theorem tf : ∀ (args : Array Value) (w : World), (callFunc 184 args).run Tryz.prog w = .ok (.enter 184 args) w := fun _ _ => by kernel_rfl
theorem te : ∀ (args : Array Value) (w : World), (callFunc 223 args).run Tryz.prog w = .ok (.enter 223 args) w := fun _ _ => by kernel_rfl
theorem td : ∀ (args : Array Value) (w : World), (callFunc 224 args).run Tryz.prog w = .ok (.enter 224 args) w := fun _ _ => by kernel_rfl
set_option maxRecDepth 100000 in
set_option maxHeartbeats 1000000 in
theorem rE (F : Nat) (a1 : UInt8) (r2 : Bool) (H : mC F a1 = some r2) : ACalls Tryz.prog 180 [u8 a1] [] (Ret (B r2) []) := by
 unfold mC at H
 refine au Tryz.func180 rfl rfl ?_;show AW _ _ 29 _ _ _;refine af <| aa ?_;show AR _ _ _ _ _ [0] _;refine za rfl <| ag <| af <| aa ?_;show AR _ _ _ _ _ [0, 1, 2, 3, 4, 5, 6, 7, 8, 9, 10, 11, 12, 13, 14, 15, 16, 17, 18, 19, 20, 21, 22, 23, 24, 25, 26] _;refine zm rfl <| zS rfl (dc rfl rfl) <| zm rfl <| aU (l := [6, 7, 8, 9, 10, 11, 12, 13, 14, 15, 16, 17, 18, 19, 20, 21, 22, 23, 24, 25, 26]) 8 (B ((decide (97 ≤ (a1.toNat : Int))) && (decide ((a1.toNat : Int) ≤ 122)))) (fun K => ?_) ?_
 ·rcases ak (decide (97 ≤ (a1.toNat : Int))) with h3 | h3
  ·refine zM h3 rfl <| zU h3 rfl (de rfl rfl) <| zS rfl (aF (av := .v _) rfl h3 rfl) ?_;exact K _ 2 _ (ay (cb h3)) rfl rfl
  ·refine zF h3 rfl <| zF h3 rfl <| zS rfl (aD (av := .v _) rfl h3 rfl) ?_;exact K _ 2 _ (ay (cc h3)) rfl rfl
 refine zm rfl <| aU (l := [14, 15, 16, 17, 18, 19, 20, 21, 22, 23, 24, 25, 26]) 16 (B (((decide (97 ≤ (a1.toNat : Int))) && (decide ((a1.toNat : Int) ≤ 122))) || ((decide (65 ≤ (a1.toNat : Int))) && (decide ((a1.toNat : Int) ≤ 90))))) (fun K => ?_) ?_
 ·rcases ak ((decide (97 ≤ (a1.toNat : Int))) && (decide ((a1.toNat : Int) ≤ 122))) with h4 | h4
  ·refine zF h4 rfl <| zF h4 rfl <| zF h4 rfl <| gU rfl rfl rfl rfl rfl <| gU rfl rfl rfl rfl rfl <| zF h4 rfl <| zS rfl (aF (av := .v _) rfl h4 rfl) ?_;exact K _ 6 _ (ay (fc h4)) rfl rfl
  ·refine zM h4 rfl <| zU h4 rfl (dc rfl rfl) <| zM h4 rfl <| aU (l := [13, 14, 15, 16, 17, 18, 19, 20, 21, 22, 23, 24, 25, 26]) 15 (B ((decide (65 ≤ (a1.toNat : Int))) && (decide ((a1.toNat : Int) ≤ 90)))) (fun K => ?_) ?_
   ·rcases ak (decide (65 ≤ (a1.toNat : Int))) with h5 | h5
    ·refine zM h5 rfl <| zU h5 rfl (de rfl rfl) <| zU h4 rfl (aF (av := .v _) rfl h5 rfl) ?_;exact K _ 2 _ (ay (cb h5)) rfl rfl
    ·refine zF h5 rfl <| zF h5 rfl <| zU h4 rfl (aD (av := .v _) rfl h5 rfl) ?_;exact K _ 2 _ (ay (cc h5)) rfl rfl
   refine zS rfl (aD (av := .v _) rfl h4 rfl) ?_;exact K _ 4 _ (ay (fe h4)) rfl rfl
 refine zm rfl <| aU (l := [22, 23, 24, 25, 26]) 24 (B ((((decide (97 ≤ (a1.toNat : Int))) && (decide ((a1.toNat : Int) ≤ 122))) || ((decide (65 ≤ (a1.toNat : Int))) && (decide ((a1.toNat : Int) ≤ 90)))) || ((decide (48 ≤ (a1.toNat : Int))) && (decide ((a1.toNat : Int) ≤ 57))))) (fun K => ?_) ?_
 ·rcases ak (((decide (97 ≤ (a1.toNat : Int))) && (decide ((a1.toNat : Int) ≤ 122))) || ((decide (65 ≤ (a1.toNat : Int))) && (decide ((a1.toNat : Int) ≤ 90)))) with h6 | h6
  ·refine zF h6 rfl <| zF h6 rfl <| zF h6 rfl <| gU rfl rfl rfl rfl rfl <| gU rfl rfl rfl rfl rfl <| zF h6 rfl <| zS rfl (aF (av := .v _) rfl h6 rfl) ?_;exact K _ 6 _ (ay (fc h6)) rfl rfl
  ·refine zM h6 rfl <| zU h6 rfl (dc rfl rfl) <| zM h6 rfl <| aU (l := [21, 22, 23, 24, 25, 26]) 23 (B ((decide (48 ≤ (a1.toNat : Int))) && (decide ((a1.toNat : Int) ≤ 57)))) (fun K => ?_) ?_
   ·rcases ak (decide (48 ≤ (a1.toNat : Int))) with h7 | h7
    ·refine zM h7 rfl <| zU h7 rfl (de rfl rfl) <| zU h6 rfl (aF (av := .v _) rfl h7 rfl) ?_;exact K _ 2 _ (ay (cb h7)) rfl rfl
    ·refine zF h7 rfl <| zF h7 rfl <| zU h6 rfl (aD (av := .v _) rfl h7 rfl) ?_;exact K _ 2 _ (ay (cc h7)) rfl rfl
   refine zS rfl (aD (av := .v _) rfl h6 rfl) ?_;exact K _ 4 _ (ay (fe h6)) rfl rfl
 refine zm rfl <| aU (l := [26]) 28 (B (((((decide (97 ≤ (a1.toNat : Int))) && (decide ((a1.toNat : Int) ≤ 122))) || ((decide (65 ≤ (a1.toNat : Int))) && (decide ((a1.toNat : Int) ≤ 90)))) || ((decide (48 ≤ (a1.toNat : Int))) && (decide ((a1.toNat : Int) ≤ 57)))) || (decide (a1 = 45)))) (fun K => ?_) ?_
 ·rcases ak ((((decide (97 ≤ (a1.toNat : Int))) && (decide ((a1.toNat : Int) ≤ 122))) || ((decide (65 ≤ (a1.toNat : Int))) && (decide ((a1.toNat : Int) ≤ 90)))) || ((decide (48 ≤ (a1.toNat : Int))) && (decide ((a1.toNat : Int) ≤ 57)))) with h8 | h8
  ·refine zF h8 rfl <| zF h8 rfl <| zS rfl (aF (av := .v _) rfl h8 rfl) ?_;exact K _ 2 _ (ay (fc h8)) rfl rfl
  ·refine zM h8 rfl <| zU h8 rfl (eK (a := a1) (b := 45) rfl rfl) <| zS rfl (aD (av := .v _) rfl h8 rfl) ?_;exact K _ 2 _ (ay (fe h8)) rfl rfl
 refine za rfl <| ag <| aI ?_;obtain rfl := ap H;exact And.intro rfl (Exists.intro _ (Exists.intro _ ⟨aH rfl (.refl _), aG [] rfl, rfl, rfl⟩))
set_option maxRecDepth 100000 in
set_option maxHeartbeats 1000000 in
theorem qp (F : Nat) (a1 : UInt8) (r2 : Bool) (H : lh F a1 = some r2) : ACalls Tryz.prog 223 [u8 a1] [] (Ret (B r2) []) := by
 unfold lh at H
 refine au Tryz.func223 rfl rfl ?_;show AW _ _ 9 _ _ _;refine af <| aa ?_;show AR _ _ _ _ _ [0] _;refine za rfl <| ag <| af <| aa ?_;show AR _ _ _ _ _ [0, 1, 2, 3, 4, 5, 6] _;refine zm rfl <| zS rfl (dc rfl rfl) <| zm rfl <| aU (l := [6]) 8 (B ((decide (32 ≤ (a1.toNat : Int))) && (decide ((a1.toNat : Int) < 127)))) (fun K => ?_) ?_
 ·rcases ak (decide (32 ≤ (a1.toNat : Int))) with h3 | h3
  ·refine zM h3 rfl <| zU h3 rfl (bx rfl rfl) <| zS rfl (aF (av := .v _) rfl h3 rfl) ?_;exact K _ 2 _ (ay (cb h3)) rfl rfl
  ·refine zF h3 rfl <| zF h3 rfl <| zS rfl (aD (av := .v _) rfl h3 rfl) ?_;exact K _ 2 _ (ay (cc h3)) rfl rfl
 refine za rfl <| ag <| aI ?_;obtain rfl := ap H;exact And.intro rfl (Exists.intro _ (Exists.intro _ ⟨aH rfl (.refl _), aG [] rfl, rfl, rfl⟩))
set_option maxRecDepth 100000 in
set_option maxHeartbeats 1000000 in
theorem rD (F : Nat) (a1 : List UInt8) (r2 : Bool) (H : mB F a1 = some r2) : ACalls Tryz.prog 179 [S a1, .v (.func (.func 180) #[] #[])] [] (Ret (B r2) []) := by
 unfold mB at H
 refine au Tryz.func179 rfl rfl ?_;show AW _ _ 20 _ _ _;refine af <| aa ?_;show AR _ _ _ _ _ [0] _;refine za rfl <| ag <| bj (X := Unit) (fun _ => ⟨[(0, S a1)], [], []⟩) (fun _ => gz a1 = some r2) ?_ ?_
 ·refine af <| aa ?_;show AR _ _ _ _ _ [0, 1, 2] _;refine zm rfl <| zS rfl (aW ac rfl) <| zm rfl <| ag <| aN <| cd (X := Nat × Int) (fun (n5, y3) => ⟨[(0, S a1), (1, .v (.func (.func 180) #[] #[])), (7, i64 (a1.length : Int)), (8, i64 y3)], [], []⟩) (fun (n5, y3) => jH F a1 n5 y3 = some r2) (fun (n5, y3) => n5) (F, 0) H (aO [] (.cons (.refl _) (.cons (.refl _) (.cons (.refl _) (.cons (.refl _) (.nil _))))) rfl) ?_;rintro ⟨n5, y3⟩ H;obtain ⟨n5, rfl, H⟩ := cG H;replace H : jI F a1 (jH F a1 n5) y3 = some r2 := H
  unfold jI at H
  refine af <| aa ?_;show AR _ _ _ _ _ [0] _;refine zS rfl (bx rfl rfl) <| ag <| af <| az rfl (fun c6 => ?_) (fun c6 => ?_)
  ·replace H := aZ c6 H;refine aC <| af <| aN <| af <| aa ?_;show AR _ _ _ _ _ [0, 1] _;refine zm rfl <| za rfl <| ag <| af ?_;obtain ⟨g7, H⟩ := ax H;obtain ⟨x8, e9, H⟩ := bf H;obtain ⟨x10, e11, H⟩ := bL H;refine aa ?_;show AR _ _ _ _ _ [0, 1, 2, 3, 4, 5] _;refine zm rfl <| zm rfl <| zm rfl <| zS rfl (bg ac rfl rfl g7 e9) <| ao rfl rfl (AO.callFp rfl (.inr ⟨rfl, rfl, rfl⟩) tj rfl (rE F x8 x10 e11) ?_);refine zS rfl (cr rfl) <| ag <| az rfl (fun c12 => ?_) (fun c12 => ?_)
   ·replace H := aZ c12 H;refine af <| aa ?_;show AR _ _ _ _ _ [0] _;refine za rfl <| ag <| aI ?_;obtain rfl := ap H;exact And.intro rfl (Exists.intro _ (Exists.intro _ ⟨aH rfl (.refl _), aG [] rfl, rfl, rfl⟩))
   ·replace H := ba c12 H;refine aC ?_;obtain ⟨g13, H⟩ := ax H;refine aa ?_;show AR _ _ _ _ _ [0, 1] _;refine zS rfl (bn rfl rfl g13) <| zm rfl <| ag ?_;exact Exists.intro (n5, y3 + 1) ⟨H, Nat.lt_succ_self _, aO [] (.cons (.refl _) (.cons (.refl _) (.cons (.refl _) (.cons (.refl _) (.nil _))))) rfl⟩
  ·replace H := ba c6 H;refine bR ?_;exact Exists.intro () ⟨H, aO [] (.cons (.refl _) (.nil _)) rfl⟩
 rintro _ H;replace H : gz a1 = some r2 := H
 unfold gz at H
 refine af <| aa ?_;show AR _ _ _ _ _ [0, 1, 2] _;refine zm rfl <| zS rfl (gd rfl rfl) <| za rfl <| ag <| aI ?_;obtain rfl := ap H;exact And.intro rfl (Exists.intro _ (Exists.intro _ ⟨aH rfl (.refl _), aG [] rfl, rfl, rfl⟩))
set_option maxRecDepth 100000 in
set_option maxHeartbeats 1000000 in
theorem rC (F : Nat) (a1 : List UInt8) (r2 : Bool) (H : mA F a1 = some r2) : ACalls Tryz.prog 179 [S a1, .v (.func (.func 223) #[] #[])] [] (Ret (B r2) []) := by
 unfold mA at H
 refine au Tryz.func179 rfl rfl ?_;show AW _ _ 20 _ _ _;refine af <| aa ?_;show AR _ _ _ _ _ [0] _;refine za rfl <| ag <| bj (X := Unit) (fun _ => ⟨[(0, S a1)], [], []⟩) (fun _ => gy a1 = some r2) ?_ ?_
 ·refine af <| aa ?_;show AR _ _ _ _ _ [0, 1, 2] _;refine zm rfl <| zS rfl (aW ac rfl) <| zm rfl <| ag <| aN <| cd (X := Nat × Int) (fun (n5, y3) => ⟨[(0, S a1), (1, .v (.func (.func 223) #[] #[])), (7, i64 (a1.length : Int)), (8, i64 y3)], [], []⟩) (fun (n5, y3) => jF F a1 n5 y3 = some r2) (fun (n5, y3) => n5) (F, 0) H (aO [] (.cons (.refl _) (.cons (.refl _) (.cons (.refl _) (.cons (.refl _) (.nil _))))) rfl) ?_;rintro ⟨n5, y3⟩ H;obtain ⟨n5, rfl, H⟩ := cG H;replace H : jG F a1 (jF F a1 n5) y3 = some r2 := H
  unfold jG at H
  refine af <| aa ?_;show AR _ _ _ _ _ [0] _;refine zS rfl (bx rfl rfl) <| ag <| af <| az rfl (fun c6 => ?_) (fun c6 => ?_)
  ·replace H := aZ c6 H;refine aC <| af <| aN <| af <| aa ?_;show AR _ _ _ _ _ [0, 1] _;refine zm rfl <| za rfl <| ag <| af ?_;obtain ⟨g7, H⟩ := ax H;obtain ⟨x8, e9, H⟩ := bf H;obtain ⟨x10, e11, H⟩ := bL H;refine aa ?_;show AR _ _ _ _ _ [0, 1, 2, 3, 4, 5] _;refine zm rfl <| zm rfl <| zm rfl <| zS rfl (bg ac rfl rfl g7 e9) <| ao rfl rfl (AO.callFp rfl (.inr ⟨rfl, rfl, rfl⟩) te rfl (qp F x8 x10 e11) ?_);refine zS rfl (cr rfl) <| ag <| az rfl (fun c12 => ?_) (fun c12 => ?_)
   ·replace H := aZ c12 H;refine af <| aa ?_;show AR _ _ _ _ _ [0] _;refine za rfl <| ag <| aI ?_;obtain rfl := ap H;exact And.intro rfl (Exists.intro _ (Exists.intro _ ⟨aH rfl (.refl _), aG [] rfl, rfl, rfl⟩))
   ·replace H := ba c12 H;refine aC ?_;obtain ⟨g13, H⟩ := ax H;refine aa ?_;show AR _ _ _ _ _ [0, 1] _;refine zS rfl (bn rfl rfl g13) <| zm rfl <| ag ?_;exact Exists.intro (n5, y3 + 1) ⟨H, Nat.lt_succ_self _, aO [] (.cons (.refl _) (.cons (.refl _) (.cons (.refl _) (.cons (.refl _) (.nil _))))) rfl⟩
  ·replace H := ba c6 H;refine bR ?_;exact Exists.intro () ⟨H, aO [] (.cons (.refl _) (.nil _)) rfl⟩
 rintro _ H;replace H : gy a1 = some r2 := H
 unfold gy at H
 refine af <| aa ?_;show AR _ _ _ _ _ [0, 1, 2] _;refine zm rfl <| zS rfl (gd rfl rfl) <| za rfl <| ag <| aI ?_;obtain rfl := ap H;exact And.intro rfl (Exists.intro _ (Exists.intro _ ⟨aH rfl (.refl _), aG [] rfl, rfl, rfl⟩))
set_option maxRecDepth 100000 in
set_option maxHeartbeats 1000000 in
theorem sr (F : Nat) (a1 : List UInt8) (r2 : Bool) (H : nM F a1 = some r2) : ACalls Tryz.prog 129 [S a1] [] (Ret (B r2) []) := by
 unfold nM at H
 refine au Tryz.func129 rfl rfl ?_;show AW _ _ 10 _ _ _;refine af <| aa ?_;show AR _ _ _ _ _ [0] _;refine za rfl <| ag <| af ?_;obtain ⟨x4, e5, H⟩ := eG H;refine aa ?_;show AR _ _ _ _ _ [0, 1, 2, 3, 4, 5, 6, 7] _;refine zm rfl <| zS rfl (aW ac rfl) <| zS rfl (de rfl rfl) <| zm rfl <| aU (l := [7]) 9 (B ((decide ((a1.length : Int) ≤ 40)) && x4)) (fun K => ?_) ?_
 ·rcases ak (decide ((a1.length : Int) ≤ 40)) with h3 | h3
  ·refine zM h3 rfl <| zT h3 rfl (aE rfl oE rfl (rD F a1 x4 (e5 h3)) ?_);refine zS rfl (aF (av := .v _) rfl h3 rfl) ?_;exact K _ 2 _ (ay (cb h3)) rfl rfl
  ·refine zF h3 rfl <| zF h3 rfl <| zS rfl (aD (av := .v _) rfl h3 rfl) ?_;exact K _ 2 _ (ay (cc h3)) rfl rfl
 refine za rfl <| ag <| aI ?_;obtain rfl := ap H;exact And.intro rfl (Exists.intro _ (Exists.intro _ ⟨aH rfl (.refl _), aG [] rfl, rfl, rfl⟩))
set_option maxRecDepth 100000 in
set_option maxHeartbeats 1000000 in
theorem rF (F : Nat) (a1 : List UInt8) (r2 : Bool) (H : mE F a1 = some r2) : ACalls Tryz.prog 182 [S a1] [] (Ret (B r2) []) := by
 unfold mE at H
 refine au Tryz.func182 rfl rfl ?_;show AW _ _ 21 _ _ _;refine af <| aa ?_;show AR _ _ _ _ _ [0] _;refine za rfl <| ag <| af ?_;obtain ⟨x3, e4, H⟩ := bL H;obtain ⟨g6, H⟩ := dg H;obtain ⟨x7, e8, H⟩ := bf H;obtain ⟨g10, H⟩ := dg H;obtain ⟨x11, e12, H⟩ := bf H;obtain ⟨g14, H⟩ := dg H;obtain ⟨x15, e16, H⟩ := bf H;refine aa ?_;show AR _ _ _ _ _ [0, 1, 2, 3, 4, 5, 6, 7, 8, 9, 10, 11, 12, 13, 14, 15, 16, 17, 18] _;refine zm rfl <| ao rfl rfl (aE rfl oE rfl (rC F a1 x3 e4) ?_);refine zm rfl <| aU (l := [8, 9, 10, 11, 12, 13, 14, 15, 16, 17, 18]) 10 (B (x3 && (decide (x7 = a1)))) (fun K => ?_) ?_
 ·rcases ak x3 with h5 | h5
  ·refine zM h5 rfl <| zT h5 rfl (aE rfl tu rfl (show ACalls _ _ _ [] (Ret (S x7) []) from by subst e8; exact qN a1 32 (by decide) (gc (g6 h5))) ?_);refine zM h5 rfl <| zU h5 rfl (eB rfl rfl) <| zS rfl (aF (av := .v _) rfl h5 rfl) ?_;exact K _ 4 _ (ay (cb h5)) rfl rfl
  ·refine zF h5 rfl <| zF h5 rfl <| zF h5 rfl <| zF h5 rfl <| zS rfl (aD (av := .v _) rfl h5 rfl) ?_;exact K _ 4 _ (ay (cc h5)) rfl rfl
 refine zm rfl <| aU (l := [13, 14, 15, 16, 17, 18]) 15 (B ((x3 && (decide (x7 = a1))) && (!x11))) (fun K => ?_) ?_
 ·rcases ak (x3 && (decide (x7 = a1))) with h9 | h9
  ·refine zM h9 rfl <| zT h9 rfl (aE rfl pI rfl (show ACalls _ _ _ [] (Ret (B x11) []) from by subst e12; exact ik a1 ([32, 32] : List UInt8) (gc (g10 h9))) ?_);refine zU h9 rfl (cr rfl) <| zS rfl (aF (av := .v _) rfl h9 rfl) ?_;exact K _ 3 _ (ay (cb h9)) rfl rfl
  ·refine zF h9 rfl <| zF h9 rfl <| zF h9 rfl <| zS rfl (aD (av := .v _) rfl h9 rfl) ?_;exact K _ 3 _ (ay (cc h9)) rfl rfl
 refine zm rfl <| aU (l := [18]) 20 (B (((x3 && (decide (x7 = a1))) && (!x11)) && (!x15))) (fun K => ?_) ?_
 ·rcases ak ((x3 && (decide (x7 = a1))) && (!x11)) with h13 | h13
  ·refine zM h13 rfl <| zT h13 rfl (aE rfl pI rfl (show ACalls _ _ _ [] (Ret (B x15) []) from by subst e16; exact ik a1 ([61, 63] : List UInt8) (gc (g14 h13))) ?_);refine zU h13 rfl (cr rfl) <| zS rfl (aF (av := .v _) rfl h13 rfl) ?_;exact K _ 3 _ (ay (cb h13)) rfl rfl
  ·refine zF h13 rfl <| zF h13 rfl <| zF h13 rfl <| zS rfl (aD (av := .v _) rfl h13 rfl) ?_;exact K _ 3 _ (ay (cc h13)) rfl rfl
 refine za rfl <| ag <| aI ?_;obtain rfl := ap H;exact And.intro rfl (Exists.intro _ (Exists.intro _ ⟨aH rfl (.refl _), aG [] rfl, rfl, rfl⟩))
set_option maxRecDepth 100000 in
set_option maxHeartbeats 1000000 in
theorem qq (F : Nat) (a1 : UInt8) (r2 : Bool) (H : li F a1 = some r2) : ACalls Tryz.prog 224 [u8 a1] [] (Ret (B r2) []) := by
 unfold li at H
 refine au Tryz.func224 rfl rfl ?_;show AW _ _ 6 _ _ _;refine af <| aa ?_;show AR _ _ _ _ _ [0] _;refine za rfl <| ag <| af <| aa ?_;show AR _ _ _ _ _ [0, 1, 2, 3] _;refine zm rfl <| zS rfl (g_shr8 (n := 6) rfl rfl rfl) <| zS rfl (eK (a := Go.Av.shr8 a1 6) (b := 2) rfl rfl) <| za rfl <| ag <| aI ?_;obtain rfl := ap H;exact And.intro rfl (Exists.intro _ (Exists.intro _ ⟨aH rfl (.refl _), aG [] rfl, rfl, rfl⟩))
set_option maxRecDepth 100000 in
set_option maxHeartbeats 1000000 in
theorem sq (F : Nat) (a1 : List UInt8) (r2 : Int) (H : nL F a1 = some r2) : ACalls Tryz.prog 183 [S a1] [] (Ret (i64 r2) []) := by
 unfold nL at H
 refine au Tryz.func183 rfl rfl ?_;show AW _ _ 22 _ _ _;refine af <| aa ?_;show AR _ _ _ _ _ [0] _;refine za rfl <| ag <| af <| af <| aa ?_;show AR _ _ _ _ _ [0, 1, 2] _;refine zm rfl <| zS rfl (aW ac rfl) <| zS rfl (de rfl rfl) <| ag <| az rfl (fun c3 => ?_) (fun c3 => ?_)
 ·replace H := aZ c3 H;refine af <| aa ?_;show AR _ _ _ _ _ [0, 1, 2] _;refine zm rfl <| zS rfl (aW ac rfl) <| za rfl <| ag <| aI ?_;obtain rfl := ap H;exact And.intro rfl (Exists.intro _ (Exists.intro _ ⟨aH rfl (.refl _), aG [] rfl, rfl, rfl⟩))
 ·replace H := ba c3 H;refine aC <| af <| aa ?_;show AR _ _ _ _ _ [0] _;refine za rfl <| ag <| bj (X := Int) (fun y15 => ⟨[(3, i64 y15)], [], []⟩) (fun y15 => il y15 = some r2) ?_ ?_
  ·refine aN <| cd (X := Nat × Int) (fun (n6, y4) => ⟨[(0, S a1), (3, i64 y4)], [], []⟩) (fun (n6, y4) => kh F a1 n6 y4 = some r2) (fun (n6, y4) => n6) (F, 45) H (aO [] (.cons (.refl _) (.cons (.refl _) (.nil _))) rfl) ?_;rintro ⟨n6, y4⟩ H;obtain ⟨n6, rfl, H⟩ := cG H;replace H : ki F a1 (kh F a1 n6) y4 = some r2 := H
   unfold ki at H
   refine af <| af ?_;obtain ⟨g8, H⟩ := dg H;obtain ⟨x9, e10, H⟩ := bf H;obtain ⟨x11, e12, H⟩ := eG H;refine aa ?_;show AR _ _ _ _ _ [0, 1, 2, 3, 4, 5, 6, 7] _;refine zm rfl <| zS rfl (cP rfl rfl) <| zm rfl <| aU (l := []) 16 (B ((decide (41 < y4)) && x11)) (fun K => ?_) ?_
   ·rcases ak (decide (41 < y4)) with h7 | h7
    ·refine zM h7 rfl <| zM h7 rfl <| zU h7 rfl (bg ac rfl rfl (g8 h7) e10) <| zT h7 rfl (aE rfl td rfl (qq F x9 x11 (e12 h7)) ?_);refine zS rfl (aF (av := .v _) rfl h7 rfl) ?_;exact K _ 4 _ (ay (cb h7)) rfl rfl
    ·refine zF h7 rfl <| zF h7 rfl <| zF h7 rfl <| zF h7 rfl <| zS rfl (aD (av := .v _) rfl h7 rfl) ?_;exact K _ 4 _ (ay (cc h7)) rfl rfl
   refine ag <| az rfl (fun c13 => ?_) (fun c13 => ?_)
   ·replace H := aZ c13 H;refine aC <| aN ?_;obtain ⟨g14, H⟩ := ax H;refine aa ?_;show AR _ _ _ _ _ [0, 1, 2] _;refine zm rfl <| zS rfl (dX rfl rfl g14) <| za rfl <| ag ?_;exact Exists.intro (n6, y4 - 1) ⟨H, Nat.lt_succ_self _, aO [] (.cons (.refl _) (.cons (.refl _) (.nil _))) rfl⟩
   ·replace H := ba c13 H;refine bR ?_;exact Exists.intro y4 ⟨H, aO [] (.cons (.refl _) (.nil _)) rfl⟩
  rintro y15 H;replace H : il y15 = some r2 := H
  unfold il at H
  refine af <| af <| aa ?_;show AR _ _ _ _ _ [0, 1] _;refine zm rfl <| zS rfl (cl rfl rfl) <| ag <| az rfl (fun c17 => ?_) (fun c17 => ?_)
  ·replace H := aZ c17 H;refine af <| aa ?_;show AR _ _ _ _ _ [0] _;refine za rfl <| ag <| aI ?_;obtain rfl := ap H;exact And.intro rfl (Exists.intro _ (Exists.intro _ ⟨aH rfl (.refl _), aG [] rfl, rfl, rfl⟩))
  ·replace H := ba c17 H;refine aC <| af <| aa ?_;show AR _ _ _ _ _ [0, 1] _;refine zm rfl <| za rfl <| ag <| aI ?_;obtain rfl := ap H;exact And.intro rfl (Exists.intro _ (Exists.intro _ ⟨aH rfl (.refl _), aG [] rfl, rfl, rfl⟩))
set_option maxRecDepth 100000 in
set_option maxHeartbeats 1000000 in
theorem qo (F : Nat) {σ τ : Type} (T : σ → τ → List Chunk) (k : σ → (List UInt8) → Option (σ × Bool)) (o : Nat) (hY : ∀ (s : σ) (t : τ) (x : List UInt8) (rv : σ × Bool), k s x = some rv → lR Tryz.prog o [S x] (T s t) fun ae A' => ∃ t', ae = .ret (.v (.bool rv.2)) ∧ A' = T rv.1 t') (st0 : σ) (tt0 : τ) (o1 : Nat) (a2 : List UInt8) (rs : σ) (r3 : List UInt8) (H : lg F k st0 a2 = some (rs, r3)) : ACalls Tryz.prog 181 [.yl o, .pt o1 0] ([.obj o1 [S a2]] ++ T st0 tt0) (fun e A' => ∃ tz, e = .ret (.tup []) ∧ A' = [.obj o1 [S r3]] ++ T rs tz) := by
 unfold lg at H
 refine au Tryz.func181 rfl rfl ?_;show AW _ _ 37 _ _ _;refine bj (X := Unit) (fun _ => ⟨[(0, .yl o), (1, .pt o1 0)], [], ([.obj o1 [S a2]] ++ T st0 tt0)⟩) (fun _ => fN F a2 k st0 = some (rs, r3)) ?_ ?_
 ·refine af ?_;obtain ⟨x4, e5, H⟩ := bL H;refine aa ?_;show AR _ _ _ _ _ [0, 1] _;refine zR rfl (am (i := 0) ac rfl rfl rfl rfl) <| ao rfl rfl (aE rfl th rfl (rF F a2 x4 e5) ?_);refine ag <| az rfl (fun c6 => ?_) (fun c6 => ?_)
  ·replace H := aZ c6 H;refine af <| af ?_;obtain ⟨g7, H⟩ := ax H;obtain ⟨g8, H⟩ := ax H;obtain ⟨x9, e10, H⟩ := bf H;refine aa ?_;show AR _ _ _ _ _ [0, 1, 2, 3] _;refine zR rfl (am (i := 0) ac rfl rfl rfl rfl) <| ao rfl rfl (aE rfl uD rfl (show ACalls _ _ _ [] (Ret (slE Enc.str x9 none) []) from by subst e10; exact nK a2 ([32] : List UInt8) (gc g7) (of_decide_eq_true g8)) ?_);refine zS rfl (aQ an rfl) <| zm rfl <| ag <| aN <| cd (X := Nat × Int × σ × τ) (fun (n15, y11, y12, t13) => ⟨[(0, .yl o), (9, slE Enc.str x9 none), (10, i64 (x9.length : Int)), (11, i64 y11)], [], ([.obj o1 [S a2]] ++ T y12 t13)⟩) (fun (n15, y11, y12, t13) => iL a2 k x9 n15 (y11, y12) = some (rs, r3)) (fun (n15, y11, y12, t13) => n15) (F, 0, st0, tt0) H (WK.atT 1 [0] (.cons (.refl _) (.cons (.refl _) (.cons (.refl _) (.cons (.refl _) (.nil _))))) rfl) ?_;rintro ⟨n15, y11, y12, t13⟩ H;obtain ⟨n15, rfl, H⟩ := cG H;replace H : iO a2 k x9 (iL a2 k x9 n15) y11 y12 = some (rs, r3) := H
   unfold iO at H
   refine af <| aa ?_;show AR _ _ _ _ _ [0] _;refine zS rfl (bx rfl rfl) <| ag <| af <| az rfl (fun c16 => ?_) (fun c16 => ?_)
   ·replace H := aZ c16 H;refine aC <| af <| aN <| af ?_;obtain ⟨g17, H⟩ := ax H;obtain ⟨x18, e19, H⟩ := bf H;refine aa ?_;show AR _ _ _ _ _ [0, 1, 2] _;refine zS rfl (co (E := Enc.str) an (by kernel_rfl) rfl rfl g17 e19) <| zS rfl (aJ ac rfl rfl) <| za rfl <| ag <| af ?_;obtain ⟨x20, x21, e22, H⟩ := cA H;refine aa ?_;show AR _ _ _ _ _ [0, 1, 2, 3] _;refine zS rfl (aj (av := .yl _) rfl) <| zm rfl <| ao rfl rfl (AO.yieldT (s' := x20) (b := x21) 1 rfl rfl rfl (hY _ _ _ _ e22) fun t23 => ?_);show AR _ _ _ _ _ _ ⟨_, _, ([.obj o1 [S a2]] ++ T x20 t23)⟩;refine zS rfl (cr rfl) <| ag <| az rfl (fun c24 => ?_) (fun c24 => ?_)
    ·replace H := aZ c24 H;refine aI ?_;obtain ⟨rfl, rfl⟩ := cN H;exact And.intro rfl (Exists.intro _ (Exists.intro _ ⟨bZ rfl, Sub.atT 1 [0] rfl, t23, rfl, rfl⟩))
    ·replace H := ba c24 H;refine aC ?_;obtain ⟨g25, H⟩ := ax H;refine aa ?_;show AR _ _ _ _ _ [0, 1] _;refine zS rfl (bn rfl rfl g25) <| zm rfl <| ag ?_;exact Exists.intro (n15, y11 + 1, x20, t23) ⟨H, Nat.lt_succ_self _, WK.atT 1 [0] (.cons (.refl _) (.cons (.refl _) (.cons (.refl _) (.cons (.refl _) (.nil _))))) rfl⟩
   ·replace H := ba c16 H;refine bR <| aI ?_;obtain ⟨rfl, rfl⟩ := cN H;exact And.intro rfl (Exists.intro _ (Exists.intro _ ⟨bZ rfl, Sub.atT 1 [0] rfl, t13, rfl, rfl⟩))
  ·replace H := ba c6 H;refine aC ?_;exact Exists.intro () ⟨H, WK.atT 1 [0] (.cons (.refl _) (.cons (.refl _) (.nil _))) rfl⟩
 rintro _ H;replace H : fN F a2 k st0 = some (rs, r3) := H
 unfold fN at H
 refine aN <| cd (X := Nat × (List UInt8) × σ × τ) (fun (n31, y27, y28, t29) => ⟨[(0, .yl o), (1, .pt o1 0)], [], ([.obj o1 [S y27]] ++ T y28 t29)⟩) (fun (n31, y27, y28, t29) => iM F k n31 (y27, y28) = some (rs, r3)) (fun (n31, y27, y28, t29) => n31) (F, a2, st0, tt0) H (WK.atT 1 [0] (.cons (.refl _) (.cons (.refl _) (.nil _))) rfl) ?_;rintro ⟨n31, y27, y28, t29⟩ H;obtain ⟨n31, rfl, H⟩ := cG H;replace H : iP F k (iM F k n31) y27 y28 = some (rs, r3) := H
 unfold iP at H
 refine af <| af <| aa ?_;show AR _ _ _ _ _ [0, 1] _;refine zR rfl (am (i := 0) ac rfl rfl rfl rfl) <| zS rfl (gd rfl rfl) <| ag <| az rfl (fun c32 => ?_) (fun c32 => ?_)
 ·replace H := aZ c32 H;refine aC <| aN <| af ?_;obtain ⟨x33, e34, H⟩ := bL H;refine aa ?_;show AR _ _ _ _ _ [0, 1, 2] _;refine zR rfl (am (i := 0) ac rfl rfl rfl rfl) <| ao rfl rfl (aE rfl tg rfl (sq F y27 x33 e34) ?_);refine za rfl <| ag <| af <| af ?_;obtain ⟨g35, H⟩ := ax H;obtain ⟨x36, e37, H⟩ := bf H;obtain ⟨g38, H⟩ := ax H;obtain ⟨x40, e41, H⟩ := bL H;obtain ⟨g42, H⟩ := ax H;obtain ⟨x43, e44, H⟩ := bf H;obtain ⟨g45, H⟩ := ax H;obtain ⟨x46, e47, H⟩ := bf H;obtain ⟨x48, x49, e50, H⟩ := cA H;refine aa ?_;show AR _ _ _ _ _ [0, 1, 2, 3, 4, 5, 6, 7, 8, 9] _;refine zS rfl (aj (av := .yl _) rfl) <| zR rfl (am (i := 0) ac rfl rfl rfl rfl) <| zm rfl <| zS rfl (lA ac rfl rfl g35 e37) <| zX rfl (cm (bytes := 1) ac ab aY rfl g38) ?_;rintro _ _ ⟨t39, rfl, rfl⟩;refine ao rfl rfl (aE rfl tf rfl (vL F x36 (some t39) x40 e41) ?_);refine zS rfl (bV rfl rfl g42 e44) <| zS rfl (bV rfl rfl g45 e47) <| ao rfl rfl (AO.yieldT (s' := x48) (b := x49) 2 rfl rfl rfl (hY _ _ _ _ e50) fun t51 => ?_);show AR _ _ _ _ _ _ ⟨_, _, ([.tok t39 5, .obj o1 [S y27]] ++ T x48 t51)⟩;refine zS rfl (cr rfl) <| ag <| az rfl (fun c52 => ?_) (fun c52 => ?_)
  ·replace H := aZ c52 H;refine aI ?_;obtain ⟨rfl, rfl⟩ := cN H;exact And.intro rfl (Exists.intro _ (Exists.intro _ ⟨bZ rfl, Sub.atT 2 [1] rfl, t51, rfl, rfl⟩))
  ·replace H := ba c52 H;refine aC ?_;obtain ⟨g53, H⟩ := ax H;obtain ⟨x54, e55, H⟩ := bf H;refine aa ?_;show AR _ _ _ _ _ [0, 1, 2, 3] _;refine zR rfl (am (i := 1) ac rfl rfl rfl rfl) <| zm rfl <| zS rfl (cF ac rfl rfl g53 e55) <| s0 rfl rfl (aw (i := 1) (c := .v _) (by kernel_rfl) rfl rfl rfl rfl (ai rfl)) <| ag ?_;exact Exists.intro (n31, x54, x48, t51) ⟨H, Nat.lt_succ_self _, WK.atT 2 [1] (.cons (.refl _) (.cons (.refl _) (.nil _))) rfl⟩
 ·replace H := ba c32 H;refine bR ?_;obtain ⟨rfl, rfl⟩ := cN H;exact And.intro rfl (Exists.intro _ (Exists.intro _ ⟨bZ rfl, Sub.atT 1 [0] rfl, t29, rfl, rfl⟩))
set_option maxRecDepth 100000 in
set_option maxHeartbeats 1000000 in
theorem rB (F : Nat) (a1 : List UInt8) (H : mz F a1 = some ()) : ACalls Tryz.prog 130 [S a1] [] (fun e A' => ∃ ob1 : Nat, e = .ret (.fn (.func 181) [] [.pt ob1 0]) ∧ A' = [.obj ob1 [S a1]]) := by
 unfold mz at H
 refine au Tryz.func130 rfl rfl ?_;show AW _ _ 4 _ _ _;refine af <| aa ?_;show AR _ _ _ _ _ [0, 1] _;refine zX rfl (pb rfl (.inl rfl)) ?_;rintro _ _ ⟨o2, rfl, rfl⟩;refine za rfl <| ag <| af <| aa ?_;show AR _ _ _ _ _ [0, 1] _;refine zS rfl (ii rfl rfl) <| zS rfl (aB (av := .fn _ _ _) rfl) <| ag <| aI ?_;exact And.intro rfl (Exists.intro _ (Exists.intro _ ⟨aH rfl (.refl _), aG [0] rfl, o2, rfl, rfl⟩))
set_option maxRecDepth 100000 in
set_option maxHeartbeats 1000000 in
theorem ss (F : Nat) (a1 : List UInt8) (a2 : List UInt8) (r3 : List UInt8) (r4 : Int) (H : nN F a1 a2 = some (r3, r4)) : ACalls Tryz.prog 79 [.agg [S a1, S a2]] [] (Ret (.tup [slE Enc.byte r3 none, i64 r4]) []) := by
 unfold nN at H
 refine oX Tryz.func79 rfl rfl ?_;show AW _ _ 47 _ _ _;refine af <| aa ?_;show AR _ _ _ _ _ [0, 1, 2] _;refine zR rfl (iy rfl (.inr ⟨_, rfl⟩)) <| za rfl <| za rfl <| ag <| af <| af ?_;obtain ⟨x5, e6, H⟩ := bL H;refine aa ?_;show AR _ _ _ _ _ [0, 1, 2, 3, 4, 5, 6, 7, 8, 9] _;refine zS rfl (be (n := 0) (by kernel_rfl) rfl (ai rfl)) <| zS rfl (aJ ac rfl rfl) <| ao rfl rfl (aE rfl tn rfl (sr F a1 x5 e6) ?_);refine zS rfl (cr rfl) <| zm rfl <| aU (l := []) 16 (B ((!x5) || (decide (4000 < (a2.length : Int))))) (fun K => ?_) ?_
 ·rcases ak (!x5) with h7 | h7
  ·refine zF h7 rfl <| zF h7 rfl <| zF h7 rfl <| zF h7 rfl <| zS rfl (aF (av := .v _) rfl h7 rfl) ?_;exact K _ 4 _ (ay (fc h7)) rfl rfl
  ·refine zU h7 rfl (be (n := 1) (by kernel_rfl) rfl (ai rfl)) <| zU h7 rfl (aJ ac rfl rfl) <| zU h7 rfl (aW ac rfl) <| zU h7 rfl (cP rfl rfl) <| zS rfl (aD (av := .v _) rfl h7 rfl) ?_;exact K _ 4 _ (ay (fe h7)) rfl rfl
 refine ag <| az rfl (fun c8 => ?_) (fun c8 => ?_)
 ·replace H := aZ c8 H;refine af <| aa ?_;show AR _ _ _ _ _ [0, 1] _;refine za rfl <| za rfl <| ag <| aI ?_;obtain ⟨rfl, rfl⟩ := cN H;exact Exists.intro _ (And.intro (.nil _) (Exists.intro _ (Exists.intro _ ⟨bb rfl (.nil _) (.refl _), aG [] rfl, rfl, rfl⟩)))
 ·replace H := ba c8 H;refine aC <| af ?_;obtain ⟨g9, H⟩ := ax H;obtain ⟨x10, e11, H⟩ := bf H;obtain ⟨g12, H⟩ := ax H;refine aa ?_;show AR _ _ _ _ _ [0, 1, 2, 3, 4, 5] _;refine zS rfl (be (n := 0) (by kernel_rfl) rfl (ai rfl)) <| zS rfl (aJ ac rfl rfl) <| zS rfl (bV rfl rfl g9 e11) <| zX rfl (cm (bytes := 1) ac ab aY rfl g12) ?_;rintro _ _ ⟨t13, rfl, rfl⟩;refine zX rfl (dx (zs := [.slice none 0 0]) (by kernel_rfl)) ?_;rintro _ _ ⟨o14, rfl, rfl⟩;refine s0 rfl rfl (aw (i := 0) (c := slE _ _ _) (by kernel_rfl) rfl rfl rfl rfl (ai rfl)) <| ag <| af <| aa ?_;show AR _ _ _ _ _ [0, 1, 2, 3] _;refine zR rfl (am (i := 0) ab rfl rfl rfl rfl) <| zS rfl (aQ ab rfl) <| zX rfl (dx (zs := [.int .i64 0]) (by kernel_rfl)) ?_;rintro _ _ ⟨o15, rfl, rfl⟩;refine s0 rfl rfl (aw (i := 0) (c := .v _) (by kernel_rfl) rfl rfl rfl rfl (ai rfl)) <| ag <| bj (X := Nat × (List UInt8) × Nat) (fun (t65, y66, t67) => ⟨[(4, .pt o14 0)], [.mark t65], [.obj o14 [slE Enc.byte y66 (some t67)], .tok t67 5, .db t65]⟩) (fun (t65, y66, t67) => ip y66 = some (r3, r4)) ?_ ?_
  ·refine af ?_;obtain ⟨_, e16, H⟩ := bL H;refine aa ?_;show AR _ _ _ _ _ [0, 1, 2] _;refine zS rfl (be (n := 1) (by kernel_rfl) rfl (ai rfl)) <| zS rfl (aJ ac rfl rfl) <| ao rfl rfl (bC [] rfl tm rfl (rB F a2 e16) rfl (fun c A' h => by obtain ⟨_, h, _⟩ := h; cases h) ?_)
   rintro av A' ⟨o17, h, rfl⟩; cases h
   refine ag <| aN ?_;obtain ⟨x60, x61, e62, H⟩ := cA H;refine AW.rangeK (α := List UInt8) (σ := Int × (List UInt8)) (τ := Nat) (fun x => [S x]) (fun s t => [.obj o15 [i64 s.1], .obj o14 [slE Enc.byte s.2 (some t)], .tok t 5]) (fun _ => none) (fun s x => im s.1 s.2 x) ((x10.length : Int), x10) t13 x60 [0] [0, 0, 0] rfl ti (fun _ => rfl) (by decide) rfl rfl rfl (fun o T' hY => qo F T' _ o hY _ _ o17 a2 x60 x61 e62) ?_ ?_
   ·rintro l ⟨y18, y19⟩ t20 x22 rv H;replace H : im y18 y19 x22 = some rv := H
    unfold im at H
    refine ⟨rfl, ?_⟩;show AW _ _ _ _ _ ⟨(26, S x22) :: _, [], _⟩;refine aa ?_;show AR _ _ _ _ _ [0] _;refine za rfl <| ag <| aN <| bj (X := Int × (List UInt8) × Nat) (fun (y30, y31, t32) => ⟨[(4, .pt o14 0), (5, .pt o15 0), (6, S x22)], [], [.obj o15 [i64 y30], .obj o14 [slE Enc.byte y31 (some t32)], .tok t32 5]⟩) (fun (y30, y31, t32) => fS x22 y30 y31 = some rv) ?_ ?_
    ·refine af ?_;obtain ⟨g23, H⟩ := ax H;obtain ⟨g24, H⟩ := ax H;refine aa ?_;show AR _ _ _ _ _ [0, 1, 2, 3, 4, 5] _;refine zR rfl (am (i := 0) bi rfl rfl rfl rfl) <| zS rfl (bn rfl rfl g23) <| zm rfl <| zS rfl (aW ac rfl) <| zS rfl (bn rfl rfl g24) <| zS rfl (cP rfl rfl) <| ag <| az rfl (fun c25 => ?_) (fun c25 => ?_)
     ·replace H := aZ c25 H;obtain ⟨g27, H⟩ := ax H;obtain ⟨x28, e29, H⟩ := bf H;refine aa ?_;show AR _ _ _ _ _ [0, 1, 2, 3] _;refine zR rfl (am (i := 1) ab rfl rfl rfl rfl) <| zX rfl (br (bytes := 1) 2 ab ac rfl (by kernel_rfl) rfl rfl rfl rfl g27 e29) ?_;rintro _ _ ⟨t26, rfl, rfl⟩;refine s0 rfl rfl (aw (i := 1) (c := slE _ _ _) (by kernel_rfl) rfl rfl rfl rfl (ai rfl)) <| s0 rfl rfl (aw (i := 0) (c := .v _) (by kernel_rfl) rfl rfl rfl rfl (ai rfl)) <| ag ?_;exact Exists.intro (0, x28, t26) ⟨H, aO [0, 0, 0] (.cons (.refl _) (.cons (.refl _) (.cons (.refl _) (.nil _)))) rfl⟩
     ·replace H := ba c25 H;refine aC ?_;exact Exists.intro (y18, y19, t20) ⟨H, aO [0, 0, 0] (.cons (.refl _) (.cons (.refl _) (.cons (.refl _) (.nil _)))) rfl⟩
    rintro ⟨y30, y31, t32⟩ H;replace H : fS x22 y30 y31 = some rv := H
    unfold fS at H
    obtain ⟨g35, H⟩ := ax H;obtain ⟨x36, e37, H⟩ := bf H;obtain ⟨g39, H⟩ := ax H;obtain ⟨x40, e41, H⟩ := bf H;obtain ⟨g42, H⟩ := ax H;obtain ⟨g43, H⟩ := ax H;refine oW (by kernel_rfl) (by kernel_rfl) ?_;show AI _ _ _ _ _ 12 (Array.replicate 12 false) _;refine zk 3 rfl (mv rfl) ?_;show AI _ _ _ _ _ _ #[false, false, false, true, false, false, false, false, false, false, false, false] _;refine zk 7 rfl (mv rfl) ?_;show AI _ _ _ _ _ _ #[false, false, false, true, false, false, false, true, false, false, false, false] _;refine zk 8 rfl (aW ac rfl) ?_;show AI _ _ _ _ _ _ #[false, false, false, true, false, false, false, true, true, false, false, false] _;refine tW (i := 0) (j := 1) (l := 5) (by kernel_rfl) rfl rfl rfl rfl rfl rfl ?_ ?_ ?_
    ·refine aR rfl (am (i := 1) ab rfl rfl rfl rfl) ?_;show AI _ _ _ _ _ _ #[true, false, false, true, false, false, false, true, true, false, false, false] _;refine dp (i := 1) (j := 5) (by kernel_rfl) rfl rfl rfl rfl ?_ ?_
     ·refine aR rfl (bI (E := Enc.byte) (bytes := 1) (xs := [.const _]) (l := ([32] : List UInt8)) ab (by kernel_rfl) rfl rfl (by decide) rfl rfl) ?_;show AI _ _ _ _ _ _ #[true, true, false, true, false, false, false, true, true, false, false, false] _;refine dp (i := 2) (j := 5) (by kernel_rfl) rfl rfl rfl rfl ?_ ?_
      ·refine bW rfl (cy (E := Enc.byte) (bytes := 1) 2 ab ab rfl (by kernel_rfl) rfl rfl rfl rfl g35 e37) ?_;rintro _ _ ⟨t34, rfl, rfl⟩;show AI _ _ _ _ _ _ #[true, true, true, true, false, false, false, true, true, false, false, false] _;refine dp (i := 4) (j := 5) (by kernel_rfl) rfl rfl rfl rfl ?_ ?_
       ·refine bW rfl (br (bytes := 1) 2 ab ac rfl (by kernel_rfl) rfl rfl rfl rfl g39 e41) ?_;rintro _ _ ⟨t38, rfl, rfl⟩;show AI _ _ _ _ _ _ #[true, true, true, true, true, false, false, true, true, false, false, false] _;refine dp (i := 5) (j := 10) (by kernel_rfl) rfl rfl rfl rfl ?_ ?_
        ·refine aR rfl (am (i := 0) bi rfl rfl rfl rfl) ?_;show AI _ _ _ _ _ _ #[true, true, true, true, true, true, false, true, true, false, false, false] _;refine zk 6 rfl (bn rfl rfl g42) ?_;show AI _ _ _ _ _ _ #[true, true, true, true, true, true, true, true, true, false, false, false] _;refine zk 9 rfl (bn rfl rfl g43) ?_;show AI _ _ _ _ _ _ #[true, true, true, true, true, true, true, true, true, true, false, false] _;refine aV (i := 10) (by kernel_rfl) rfl rfl <| ci (aw (i := 1) (c := slE _ _ _) (by kernel_rfl) rfl rfl rfl rfl (ai rfl)) ?_;show AI _ _ _ _ _ _ #[true, true, true, true, true, true, true, true, true, true, true, false] _;refine aV (i := 11) (by kernel_rfl) rfl rfl <| ci (aw (i := 0) (c := .v _) (by kernel_rfl) rfl rfl rfl rfl (ai rfl)) ?_;show AI _ _ _ _ _ _ #[true, true, true, true, true, true, true, true, true, true, true, true] _;refine bz rfl ?_;obtain rfl := ap H;exact ⟨rfl, rfl, t38, aG [0, 0, 0] rfl⟩
        ·refine ci (aw (i := 1) (c := slE _ _ _) (by kernel_rfl) rfl rfl rfl rfl (ai rfl)) ?_;show AI _ _ _ _ _ _ #[true, true, true, true, true, false, false, true, true, false, true, false] _;refine aV (i := 5) (by kernel_rfl) rfl rfl <| aR rfl (am (i := 0) bi rfl rfl rfl rfl) ?_;show AI _ _ _ _ _ _ #[true, true, true, true, true, true, false, true, true, false, true, false] _;refine zk 6 rfl (bn rfl rfl g42) ?_;show AI _ _ _ _ _ _ #[true, true, true, true, true, true, true, true, true, false, true, false] _;refine zk 9 rfl (bn rfl rfl g43) ?_;show AI _ _ _ _ _ _ #[true, true, true, true, true, true, true, true, true, true, true, false] _;refine aV (i := 11) (by kernel_rfl) rfl rfl <| ci (aw (i := 0) (c := .v _) (by kernel_rfl) rfl rfl rfl rfl (ai rfl)) ?_;show AI _ _ _ _ _ _ #[true, true, true, true, true, true, true, true, true, true, true, true] _;refine bz rfl ?_;obtain rfl := ap H;exact ⟨rfl, rfl, t38, aG [0, 0, 0] rfl⟩
       ·refine aR rfl (am (i := 0) bi rfl rfl rfl rfl) ?_;show AI _ _ _ _ _ _ #[true, true, true, true, false, true, false, true, true, false, false, false] _;refine zk 6 rfl (bn rfl rfl g42) ?_;show AI _ _ _ _ _ _ #[true, true, true, true, false, true, true, true, true, false, false, false] _;refine zk 9 rfl (bn rfl rfl g43) ?_;show AI _ _ _ _ _ _ #[true, true, true, true, false, true, true, true, true, true, false, false] _;refine aV (i := 4) (by kernel_rfl) rfl rfl <| bW rfl (br (bytes := 1) 2 ab ac rfl (by kernel_rfl) rfl rfl rfl rfl g39 e41) ?_;rintro _ _ ⟨t44, rfl, rfl⟩;show AI _ _ _ _ _ _ #[true, true, true, true, true, true, true, true, true, true, false, false] _;refine aV (i := 10) (by kernel_rfl) rfl rfl <| ci (aw (i := 1) (c := slE _ _ _) (by kernel_rfl) rfl rfl rfl rfl (ai rfl)) ?_;show AI _ _ _ _ _ _ #[true, true, true, true, true, true, true, true, true, true, true, false] _;refine aV (i := 11) (by kernel_rfl) rfl rfl <| ci (aw (i := 0) (c := .v _) (by kernel_rfl) rfl rfl rfl rfl (ai rfl)) ?_;show AI _ _ _ _ _ _ #[true, true, true, true, true, true, true, true, true, true, true, true] _;refine bz rfl ?_;obtain rfl := ap H;exact ⟨rfl, rfl, t44, aG [0, 0, 0] rfl⟩
      ·refine aR rfl (am (i := 0) bi rfl rfl rfl rfl) ?_;show AI _ _ _ _ _ _ #[true, true, false, true, false, true, false, true, true, false, false, false] _;refine zk 6 rfl (bn rfl rfl g42) ?_;show AI _ _ _ _ _ _ #[true, true, false, true, false, true, true, true, true, false, false, false] _;refine zk 9 rfl (bn rfl rfl g43) ?_;show AI _ _ _ _ _ _ #[true, true, false, true, false, true, true, true, true, true, false, false] _;refine aV (i := 2) (by kernel_rfl) rfl rfl <| bW rfl (cy (E := Enc.byte) (bytes := 1) 2 ab ab rfl (by kernel_rfl) rfl rfl rfl rfl g35 e37) ?_;rintro _ _ ⟨t45, rfl, rfl⟩;show AI _ _ _ _ _ _ #[true, true, true, true, false, true, true, true, true, true, false, false] _;refine aV (i := 4) (by kernel_rfl) rfl rfl <| bW rfl (br (bytes := 1) 2 ab ac rfl (by kernel_rfl) rfl rfl rfl rfl g39 e41) ?_;rintro _ _ ⟨t46, rfl, rfl⟩;show AI _ _ _ _ _ _ #[true, true, true, true, true, true, true, true, true, true, false, false] _;refine aV (i := 10) (by kernel_rfl) rfl rfl <| ci (aw (i := 1) (c := slE _ _ _) (by kernel_rfl) rfl rfl rfl rfl (ai rfl)) ?_;show AI _ _ _ _ _ _ #[true, true, true, true, true, true, true, true, true, true, true, false] _;refine aV (i := 11) (by kernel_rfl) rfl rfl <| ci (aw (i := 0) (c := .v _) (by kernel_rfl) rfl rfl rfl rfl (ai rfl)) ?_;show AI _ _ _ _ _ _ #[true, true, true, true, true, true, true, true, true, true, true, true] _
       refine bz rfl ?_;obtain rfl := ap H;exact ⟨rfl, rfl, t46, aG [0, 0, 0] rfl⟩
     ·refine aR rfl (am (i := 0) bi rfl rfl rfl rfl) ?_;show AI _ _ _ _ _ _ #[true, false, false, true, false, true, false, true, true, false, false, false] _;refine zk 6 rfl (bn rfl rfl g42) ?_;show AI _ _ _ _ _ _ #[true, false, false, true, false, true, true, true, true, false, false, false] _;refine zk 9 rfl (bn rfl rfl g43) ?_;show AI _ _ _ _ _ _ #[true, false, false, true, false, true, true, true, true, true, false, false] _;refine aV (i := 1) (by kernel_rfl) rfl rfl <| aR rfl (bI (E := Enc.byte) (bytes := 1) (xs := [.const _]) (l := ([32] : List UInt8)) ab (by kernel_rfl) rfl rfl (by decide) rfl rfl) ?_;show AI _ _ _ _ _ _ #[true, true, false, true, false, true, true, true, true, true, false, false] _;refine aV (i := 2) (by kernel_rfl) rfl rfl <| bW rfl (cy (E := Enc.byte) (bytes := 1) 2 ab ab rfl (by kernel_rfl) rfl rfl rfl rfl g35 e37) ?_;rintro _ _ ⟨t47, rfl, rfl⟩;show AI _ _ _ _ _ _ #[true, true, true, true, false, true, true, true, true, true, false, false] _;refine aV (i := 4) (by kernel_rfl) rfl rfl <| bW rfl (br (bytes := 1) 2 ab ac rfl (by kernel_rfl) rfl rfl rfl rfl g39 e41) ?_;rintro _ _ ⟨t48, rfl, rfl⟩;show AI _ _ _ _ _ _ #[true, true, true, true, true, true, true, true, true, true, false, false] _;refine aV (i := 10) (by kernel_rfl) rfl rfl <| ci (aw (i := 1) (c := slE _ _ _) (by kernel_rfl) rfl rfl rfl rfl (ai rfl)) ?_
      show AI _ _ _ _ _ _ #[true, true, true, true, true, true, true, true, true, true, true, false] _;refine aV (i := 11) (by kernel_rfl) rfl rfl <| ci (aw (i := 0) (c := .v _) (by kernel_rfl) rfl rfl rfl rfl (ai rfl)) ?_;show AI _ _ _ _ _ _ #[true, true, true, true, true, true, true, true, true, true, true, true] _;refine bz rfl ?_;obtain rfl := ap H;exact ⟨rfl, rfl, t48, aG [0, 0, 0] rfl⟩
    ·refine aR rfl (bI (E := Enc.byte) (bytes := 1) (xs := [.const _]) (l := ([32] : List UInt8)) ab (by kernel_rfl) rfl rfl (by decide) rfl rfl) ?_;show AI _ _ _ _ _ _ #[false, true, false, true, false, false, false, true, true, false, false, false] _;refine dp (i := 0) (j := 5) (by kernel_rfl) rfl rfl rfl rfl ?_ ?_
     ·refine aR rfl (am (i := 1) ab rfl rfl rfl rfl) ?_;show AI _ _ _ _ _ _ #[true, true, false, true, false, false, false, true, true, false, false, false] _;refine dp (i := 2) (j := 5) (by kernel_rfl) rfl rfl rfl rfl ?_ ?_
      ·refine bW rfl (cy (E := Enc.byte) (bytes := 1) 2 ab ab rfl (by kernel_rfl) rfl rfl rfl rfl g35 e37) ?_;rintro _ _ ⟨t49, rfl, rfl⟩;show AI _ _ _ _ _ _ #[true, true, true, true, false, false, false, true, true, false, false, false] _;refine dp (i := 4) (j := 5) (by kernel_rfl) rfl rfl rfl rfl ?_ ?_
       ·refine bW rfl (br (bytes := 1) 2 ab ac rfl (by kernel_rfl) rfl rfl rfl rfl g39 e41) ?_;rintro _ _ ⟨t50, rfl, rfl⟩;show AI _ _ _ _ _ _ #[true, true, true, true, true, false, false, true, true, false, false, false] _;refine dp (i := 5) (j := 10) (by kernel_rfl) rfl rfl rfl rfl ?_ ?_
        ·refine aR rfl (am (i := 0) bi rfl rfl rfl rfl) ?_;show AI _ _ _ _ _ _ #[true, true, true, true, true, true, false, true, true, false, false, false] _;refine zk 6 rfl (bn rfl rfl g42) ?_;show AI _ _ _ _ _ _ #[true, true, true, true, true, true, true, true, true, false, false, false] _;refine zk 9 rfl (bn rfl rfl g43) ?_;show AI _ _ _ _ _ _ #[true, true, true, true, true, true, true, true, true, true, false, false] _;refine aV (i := 10) (by kernel_rfl) rfl rfl <| ci (aw (i := 1) (c := slE _ _ _) (by kernel_rfl) rfl rfl rfl rfl (ai rfl)) ?_;show AI _ _ _ _ _ _ #[true, true, true, true, true, true, true, true, true, true, true, false] _;refine aV (i := 11) (by kernel_rfl) rfl rfl <| ci (aw (i := 0) (c := .v _) (by kernel_rfl) rfl rfl rfl rfl (ai rfl)) ?_;show AI _ _ _ _ _ _ #[true, true, true, true, true, true, true, true, true, true, true, true] _;refine bz rfl ?_;obtain rfl := ap H;exact ⟨rfl, rfl, t50, aG [0, 0, 0] rfl⟩
        ·refine ci (aw (i := 1) (c := slE _ _ _) (by kernel_rfl) rfl rfl rfl rfl (ai rfl)) ?_;show AI _ _ _ _ _ _ #[true, true, true, true, true, false, false, true, true, false, true, false] _;refine aV (i := 5) (by kernel_rfl) rfl rfl <| aR rfl (am (i := 0) bi rfl rfl rfl rfl) ?_;show AI _ _ _ _ _ _ #[true, true, true, true, true, true, false, true, true, false, true, false] _;refine zk 6 rfl (bn rfl rfl g42) ?_;show AI _ _ _ _ _ _ #[true, true, true, true, true, true, true, true, true, false, true, false] _;refine zk 9 rfl (bn rfl rfl g43) ?_;show AI _ _ _ _ _ _ #[true, true, true, true, true, true, true, true, true, true, true, false] _;refine aV (i := 11) (by kernel_rfl) rfl rfl <| ci (aw (i := 0) (c := .v _) (by kernel_rfl) rfl rfl rfl rfl (ai rfl)) ?_;show AI _ _ _ _ _ _ #[true, true, true, true, true, true, true, true, true, true, true, true] _;refine bz rfl ?_;obtain rfl := ap H;exact ⟨rfl, rfl, t50, aG [0, 0, 0] rfl⟩
       ·refine aR rfl (am (i := 0) bi rfl rfl rfl rfl) ?_;show AI _ _ _ _ _ _ #[true, true, true, true, false, true, false, true, true, false, false, false] _;refine zk 6 rfl (bn rfl rfl g42) ?_;show AI _ _ _ _ _ _ #[true, true, true, true, false, true, true, true, true, false, false, false] _;refine zk 9 rfl (bn rfl rfl g43) ?_;show AI _ _ _ _ _ _ #[true, true, true, true, false, true, true, true, true, true, false, false] _;refine aV (i := 4) (by kernel_rfl) rfl rfl <| bW rfl (br (bytes := 1) 2 ab ac rfl (by kernel_rfl) rfl rfl rfl rfl g39 e41) ?_;rintro _ _ ⟨t51, rfl, rfl⟩;show AI _ _ _ _ _ _ #[true, true, true, true, true, true, true, true, true, true, false, false] _;refine aV (i := 10) (by kernel_rfl) rfl rfl <| ci (aw (i := 1) (c := slE _ _ _) (by kernel_rfl) rfl rfl rfl rfl (ai rfl)) ?_;show AI _ _ _ _ _ _ #[true, true, true, true, true, true, true, true, true, true, true, false] _;refine aV (i := 11) (by kernel_rfl) rfl rfl <| ci (aw (i := 0) (c := .v _) (by kernel_rfl) rfl rfl rfl rfl (ai rfl)) ?_;show AI _ _ _ _ _ _ #[true, true, true, true, true, true, true, true, true, true, true, true] _;refine bz rfl ?_;obtain rfl := ap H;exact ⟨rfl, rfl, t51, aG [0, 0, 0] rfl⟩
      ·refine aR rfl (am (i := 0) bi rfl rfl rfl rfl) ?_;show AI _ _ _ _ _ _ #[true, true, false, true, false, true, false, true, true, false, false, false] _;refine zk 6 rfl (bn rfl rfl g42) ?_;show AI _ _ _ _ _ _ #[true, true, false, true, false, true, true, true, true, false, false, false] _;refine zk 9 rfl (bn rfl rfl g43) ?_;show AI _ _ _ _ _ _ #[true, true, false, true, false, true, true, true, true, true, false, false] _;refine aV (i := 2) (by kernel_rfl) rfl rfl <| bW rfl (cy (E := Enc.byte) (bytes := 1) 2 ab ab rfl (by kernel_rfl) rfl rfl rfl rfl g35 e37) ?_;rintro _ _ ⟨t52, rfl, rfl⟩;show AI _ _ _ _ _ _ #[true, true, true, true, false, true, true, true, true, true, false, false] _;refine aV (i := 4) (by kernel_rfl) rfl rfl <| bW rfl (br (bytes := 1) 2 ab ac rfl (by kernel_rfl) rfl rfl rfl rfl g39 e41) ?_;rintro _ _ ⟨t53, rfl, rfl⟩;show AI _ _ _ _ _ _ #[true, true, true, true, true, true, true, true, true, true, false, false] _;refine aV (i := 10) (by kernel_rfl) rfl rfl <| ci (aw (i := 1) (c := slE _ _ _) (by kernel_rfl) rfl rfl rfl rfl (ai rfl)) ?_;show AI _ _ _ _ _ _ #[true, true, true, true, true, true, true, true, true, true, true, false] _;refine aV (i := 11) (by kernel_rfl) rfl rfl <| ci (aw (i := 0) (c := .v _) (by kernel_rfl) rfl rfl rfl rfl (ai rfl)) ?_;show AI _ _ _ _ _ _ #[true, true, true, true, true, true, true, true, true, true, true, true] _
       refine bz rfl ?_;obtain rfl := ap H;exact ⟨rfl, rfl, t53, aG [0, 0, 0] rfl⟩
     ·refine aR rfl (am (i := 0) bi rfl rfl rfl rfl) ?_;show AI _ _ _ _ _ _ #[false, true, false, true, false, true, false, true, true, false, false, false] _;refine zk 6 rfl (bn rfl rfl g42) ?_;show AI _ _ _ _ _ _ #[false, true, false, true, false, true, true, true, true, false, false, false] _;refine zk 9 rfl (bn rfl rfl g43) ?_;show AI _ _ _ _ _ _ #[false, true, false, true, false, true, true, true, true, true, false, false] _;refine aV (i := 0) (by kernel_rfl) rfl rfl <| aR rfl (am (i := 1) ab rfl rfl rfl rfl) ?_;show AI _ _ _ _ _ _ #[true, true, false, true, false, true, true, true, true, true, false, false] _;refine aV (i := 2) (by kernel_rfl) rfl rfl <| bW rfl (cy (E := Enc.byte) (bytes := 1) 2 ab ab rfl (by kernel_rfl) rfl rfl rfl rfl g35 e37) ?_;rintro _ _ ⟨t54, rfl, rfl⟩;show AI _ _ _ _ _ _ #[true, true, true, true, false, true, true, true, true, true, false, false] _;refine aV (i := 4) (by kernel_rfl) rfl rfl <| bW rfl (br (bytes := 1) 2 ab ac rfl (by kernel_rfl) rfl rfl rfl rfl g39 e41) ?_;rintro _ _ ⟨t55, rfl, rfl⟩;show AI _ _ _ _ _ _ #[true, true, true, true, true, true, true, true, true, true, false, false] _;refine aV (i := 10) (by kernel_rfl) rfl rfl <| ci (aw (i := 1) (c := slE _ _ _) (by kernel_rfl) rfl rfl rfl rfl (ai rfl)) ?_;show AI _ _ _ _ _ _ #[true, true, true, true, true, true, true, true, true, true, true, false] _
      refine aV (i := 11) (by kernel_rfl) rfl rfl <| ci (aw (i := 0) (c := .v _) (by kernel_rfl) rfl rfl rfl rfl (ai rfl)) ?_;show AI _ _ _ _ _ _ #[true, true, true, true, true, true, true, true, true, true, true, true] _;refine bz rfl ?_;obtain rfl := ap H;exact ⟨rfl, rfl, t55, aG [0, 0, 0] rfl⟩
    ·refine aR rfl (am (i := 0) bi rfl rfl rfl rfl) ?_;show AI _ _ _ _ _ _ #[false, false, false, true, false, true, false, true, true, false, false, false] _;refine zk 6 rfl (bn rfl rfl g42) ?_;show AI _ _ _ _ _ _ #[false, false, false, true, false, true, true, true, true, false, false, false] _;refine zk 9 rfl (bn rfl rfl g43) ?_;show AI _ _ _ _ _ _ #[false, false, false, true, false, true, true, true, true, true, false, false] _;refine dp (i := 0) (j := 1) (by kernel_rfl) rfl rfl rfl rfl ?_ ?_
     ·refine aR rfl (am (i := 1) ab rfl rfl rfl rfl) ?_;show AI _ _ _ _ _ _ #[true, false, false, true, false, true, true, true, true, true, false, false] _;refine aV (i := 1) (by kernel_rfl) rfl rfl <| aR rfl (bI (E := Enc.byte) (bytes := 1) (xs := [.const _]) (l := ([32] : List UInt8)) ab (by kernel_rfl) rfl rfl (by decide) rfl rfl) ?_;show AI _ _ _ _ _ _ #[true, true, false, true, false, true, true, true, true, true, false, false] _;refine aV (i := 2) (by kernel_rfl) rfl rfl <| bW rfl (cy (E := Enc.byte) (bytes := 1) 2 ab ab rfl (by kernel_rfl) rfl rfl rfl rfl g35 e37) ?_;rintro _ _ ⟨t56, rfl, rfl⟩;show AI _ _ _ _ _ _ #[true, true, true, true, false, true, true, true, true, true, false, false] _;refine aV (i := 4) (by kernel_rfl) rfl rfl <| bW rfl (br (bytes := 1) 2 ab ac rfl (by kernel_rfl) rfl rfl rfl rfl g39 e41) ?_;rintro _ _ ⟨t57, rfl, rfl⟩;show AI _ _ _ _ _ _ #[true, true, true, true, true, true, true, true, true, true, false, false] _;refine aV (i := 10) (by kernel_rfl) rfl rfl <| ci (aw (i := 1) (c := slE _ _ _) (by kernel_rfl) rfl rfl rfl rfl (ai rfl)) ?_;show AI _ _ _ _ _ _ #[true, true, true, true, true, true, true, true, true, true, true, false] _;refine aV (i := 11) (by kernel_rfl) rfl rfl <| ci (aw (i := 0) (c := .v _) (by kernel_rfl) rfl rfl rfl rfl (ai rfl)) ?_
      show AI _ _ _ _ _ _ #[true, true, true, true, true, true, true, true, true, true, true, true] _;refine bz rfl ?_;obtain rfl := ap H;exact ⟨rfl, rfl, t57, aG [0, 0, 0] rfl⟩
     ·refine aR rfl (bI (E := Enc.byte) (bytes := 1) (xs := [.const _]) (l := ([32] : List UInt8)) ab (by kernel_rfl) rfl rfl (by decide) rfl rfl) ?_;show AI _ _ _ _ _ _ #[false, true, false, true, false, true, true, true, true, true, false, false] _;refine aV (i := 0) (by kernel_rfl) rfl rfl <| aR rfl (am (i := 1) ab rfl rfl rfl rfl) ?_;show AI _ _ _ _ _ _ #[true, true, false, true, false, true, true, true, true, true, false, false] _;refine aV (i := 2) (by kernel_rfl) rfl rfl <| bW rfl (cy (E := Enc.byte) (bytes := 1) 2 ab ab rfl (by kernel_rfl) rfl rfl rfl rfl g35 e37) ?_;rintro _ _ ⟨t58, rfl, rfl⟩;show AI _ _ _ _ _ _ #[true, true, true, true, false, true, true, true, true, true, false, false] _;refine aV (i := 4) (by kernel_rfl) rfl rfl <| bW rfl (br (bytes := 1) 2 ab ac rfl (by kernel_rfl) rfl rfl rfl rfl g39 e41) ?_;rintro _ _ ⟨t59, rfl, rfl⟩;show AI _ _ _ _ _ _ #[true, true, true, true, true, true, true, true, true, true, false, false] _;refine aV (i := 10) (by kernel_rfl) rfl rfl <| ci (aw (i := 1) (c := slE _ _ _) (by kernel_rfl) rfl rfl rfl rfl (ai rfl)) ?_;show AI _ _ _ _ _ _ #[true, true, true, true, true, true, true, true, true, true, true, false] _;refine aV (i := 11) (by kernel_rfl) rfl rfl <| ci (aw (i := 0) (c := .v _) (by kernel_rfl) rfl rfl rfl rfl (ai rfl)) ?_
      show AI _ _ _ _ _ _ #[true, true, true, true, true, true, true, true, true, true, true, true] _;refine bz rfl ?_;obtain rfl := ap H;exact ⟨rfl, rfl, t59, aG [0, 0, 0] rfl⟩
   rintro o64 t63;exact Exists.intro (o64, x60.2, t63) ⟨H, aO [3, 3, 0] (.cons (.refl _) (.nil _)) rfl⟩
  rintro ⟨t65, y66, t67⟩ H;replace H : ip y66 = some (r3, r4) := H
  unfold ip at H
  refine af ?_;obtain ⟨g70, H⟩ := ax H;obtain ⟨x71, e72, H⟩ := bf H;refine aa ?_;show AR _ _ _ _ _ [0, 1, 2, 3] _;refine zR rfl (am (i := 0) ab rfl rfl rfl rfl) <| zX rfl (br (bytes := 1) 1 ab ac rfl (by kernel_rfl) rfl rfl rfl rfl g70 e72) ?_;rintro _ _ ⟨t69, rfl, rfl⟩;refine zS rfl (aB (av := slE _ _ _) rfl) <| za rfl <| ag <| aI ?_;obtain ⟨rfl, rfl⟩ := cN H;exact Exists.intro _ (And.intro (Unmark.at 2 rfl (.nil _)) (Exists.intro _ (Exists.intro _ ⟨bb rfl (.tok _ _ _) (.refl _), aG [] rfl, rfl, rfl⟩)))
end Go.Proofs.YtjegcifofddgbaaGreatDoor
namespace Go.Pv
def gA (y25 : List (List UInt8)) : Option ((List (List UInt8)) × Int) :=
some (y25, 0)
def jK (F : Nat) (a1 : List ((List UInt8) × List UInt8)) (rec9 : ((List (List UInt8)) × Int) → Option ((List (List UInt8)) × Int)) (y6 : List (List UInt8)) (y8 : Int) : Option ((List (List UInt8)) × Int) :=
bif decide (y8 < (a1.length : Int)) then
  grd (ct y8 a1.length) <|
  lt (at_ a1 y8) fun x13 =>
  ff (nN F x13.1 x13.2) fun x16 x17 =>
  bif !decide (x17 = 0) then
    some ([], x17)
  else
    grd (bq (y6.length + ([x16] : List (List UInt8)).length)) <|
    lt (y6 ++ ([x16] : List (List UInt8))) fun x22 =>
    grd (okI (y8 + 1)) <|
    rec9 (x22, y8 + 1)
else
  gA y6
def jJ (F : Nat) (a1 : List ((List UInt8) × List UInt8)) (n : Nat) : ((List (List UInt8)) × Int) → Option ((List (List UInt8)) × Int) :=
  loop (fun rec x => jK F a1 rec x.1 x.2) n
def mD (F : Nat) (a1 : List ((List UInt8) × List UInt8)) : Option ((List (List UInt8)) × Int) :=
jJ F a1 F ([], 0)
def jV (F : Nat) (a1 : List ((List UInt8) × List UInt8)) : Option ((List UInt8) × Int) :=
bif decide (50 < (a1.length : Int)) then
  some ([], 4)
else
  ff (mD F a1) fun x6 x7 =>
  bif !decide (x7 = 0) then
    some ([], x7)
  else
    grd (pd x6) <|
    lt (List.flatten x6) fun x11 =>
    grd (bq (x11.length + ([13, 10] : List UInt8).length)) <|
    lt (x11 ++ ([13, 10] : List UInt8)) fun x16 =>
    some (x16, 0)
end Go.Pv
namespace Go.Proofs.YtjegcifofddgbaaGreatDoor
open Go.RowKit Go.Av Go.Pv
theorem pG : ∀ (args : Array Value) (w : World), (callFunc 78 args).run Tryz.prog w = .ok (.enter 78 args) w := fun _ _ => by kernel_rfl
theorem uE : ∀ (args : Array Value) (w : World), (callFunc 79 args).run Tryz.prog w = .ok (.enter 79 args) w := fun _ _ => by kernel_rfl
theorem pF : ∀ (args : Array Value) (w : World), (callFunc 80 args).run Tryz.prog w = .ok (.enter 80 args) w := fun _ _ => by kernel_rfl
abbrev _root_.Go.Av.dL := @Tryz.underlying36
abbrev _root_.Go.Av.bD := @Tryz.underlying44
set_option maxRecDepth 100000 in
set_option maxHeartbeats 1000000 in
theorem mU (F : Nat) (a1 : List ((List UInt8) × List UInt8)) (q2 : Option Nat) (r3 : List (List UInt8)) (r4 : Int) (H : mD F a1 = some (r3, r4)) : ACalls Tryz.prog 78 [slE (aX Enc.str Enc.str) a1 q2, .v (.func (.func 79) #[] #[])] [] (Ret (.tup [slE (Enc.sl Enc.byte) r3 none, i64 r4]) []) := by
 unfold mD at H
 refine au Tryz.func78 rfl rfl ?_;show AW _ _ 32 _ _ _;refine af <| aa ?_;show AR _ _ _ _ _ [0, 1] _;refine za rfl <| za rfl <| ag <| af <| aa ?_;show AR _ _ _ _ _ [0] _;refine za rfl <| ag ?_
 refine eh 6 1 32 rfl fun t5 => ?_
 show AW _ _ _ _ _ ⟨(6, slE (Enc.sl Enc.byte) [] (some t5)) :: _, _, _⟩;refine bj (X := (List (List UInt8)) × Nat) (fun (y25, t26) => ⟨[(6, slE (Enc.sl Enc.byte) y25 (some t26))], [], [.tok t26 32]⟩) (fun (y25, t26) => gA y25 = some (r3, r4)) ?_ ?_
 ·refine af <| aa ?_;show AR _ _ _ _ _ [0, 1, 2] _;refine zS rfl (aj (av := slE _ _ _) rfl) <| zS rfl (aQ dL rfl) <| zm rfl <| ag <| aN <| cd (X := Nat × (List (List UInt8)) × Nat × Int) (fun (n10, y6, t7, y8) => ⟨[(1, .v (.func (.func 79) #[] #[])), (6, slE (Enc.sl Enc.byte) y6 (some t7)), (11, slE (aX Enc.str Enc.str) a1 q2), (12, i64 (a1.length : Int)), (13, i64 y8)], [], [.tok t7 32]⟩) (fun (n10, y6, t7, y8) => jJ F a1 n10 (y6, y8) = some (r3, r4)) (fun (n10, y6, t7, y8) => n10) (F, [], t5, 0) H (aO [0] (.cons (.refl _) (.cons (.refl _) (.cons (.refl _) (.cons (.refl _) (.cons (.refl _) (.nil _)))))) rfl) ?_;rintro ⟨n10, y6, t7, y8⟩ H;obtain ⟨n10, rfl, H⟩ := cG H;replace H : jK F a1 (jJ F a1 n10) y6 y8 = some (r3, r4) := H
  unfold jK at H
  refine af <| aa ?_;show AR _ _ _ _ _ [0] _;refine zS rfl (bx rfl rfl) <| ag <| af <| az rfl (fun c11 => ?_) (fun c11 => ?_)
  ·replace H := aZ c11 H;refine aC <| af <| aN <| af ?_;obtain ⟨g12, H⟩ := ax H;obtain ⟨x13, e14, H⟩ := bf H;refine aa ?_;show AR _ _ _ _ _ [0, 1, 2, 3] _;refine zS rfl (co (E := (aX Enc.str Enc.str)) dL (by kernel_rfl) rfl rfl g12 e14) <| zS rfl (eu Tryz.underlying40 rfl (n := 2) (by kernel_rfl) rfl (ai rfl)) <| zX rfl (dx (zs := [.string ⟨#[]⟩, .string ⟨#[]⟩]) (by kernel_rfl)) ?_;rintro _ _ ⟨o15, rfl, rfl⟩;refine s0 rfl rfl (cV (i := 0) (vs := [S x13.1, S x13.2]) (by kernel_rfl) rfl rfl (by simp [cH, slE]) rfl (ai rfl)) <| AR.freezeCp 8 0 rfl rfl ?_;show AR _ _ _ _ _ _ ⟨_, _, [.tok t7 32]⟩;refine ag <| af ?_;obtain ⟨x16, x17, e18, H⟩ := cA H;refine aa ?_;show AR _ _ _ _ _ [0, 1, 2, 3, 4, 5, 6, 7] _;refine zm rfl <| zS rfl (eu Tryz.underlying40 rfl (n := 2) (by kernel_rfl) rfl (ai rfl)) <| ao rfl rfl (AO.callFp rfl (.inr ⟨rfl, rfl, rfl⟩) uE rfl (ss F x13.1 x13.2 x16 x17 e18) ?_);refine zS rfl (aj (av := .tup _) rfl) <| zS rfl (aA (av := slE _ _ _) rfl rfl) <| zS rfl (aA (av := .v _) rfl rfl) <| zS rfl (aB (av := slE _ _ _) rfl) <| za rfl <| ag <| af <| af <| aa ?_;show AR _ _ _ _ _ [0, 1] _;refine zm rfl <| zS rfl (cO rfl rfl) <| ag <| az rfl (fun c19 => ?_) (fun c19 => ?_)
   ·replace H := aZ c19 H;refine af <| aa ?_;show AR _ _ _ _ _ [0, 1, 2] _;refine zm rfl <| za rfl <| za rfl <| ag <| aI ?_;obtain ⟨rfl, rfl⟩ := cN H;exact And.intro rfl (Exists.intro _ (Exists.intro _ ⟨bb rfl (.nil _) (.refl _), aG [] rfl, rfl, rfl⟩))
   ·replace H := ba c19 H;refine aC ?_;obtain ⟨g21, H⟩ := ax H;obtain ⟨x22, e23, H⟩ := bf H;refine aa ?_;show AR _ _ _ _ _ [0, 1, 2, 3, 4] _;refine zS rfl (aj (av := slE _ _ _) rfl) <| zS rfl (aj (av := slE _ _ _) rfl) <| zR rfl (bI (E := (Enc.sl Enc.byte)) (bytes := 24) (xs := [.tmp 27]) (l := ([x16] : List (List UInt8))) bD (by kernel_rfl) rfl rfl (by decide) rfl rfl) <| zX rfl (cy (E := (Enc.sl Enc.byte)) (bytes := 24) 0 bD bD rfl (by kernel_rfl) rfl rfl rfl rfl g21 e23) ?_;rintro _ _ ⟨t20, rfl, rfl⟩;refine zS rfl (aB (av := slE _ _ _) rfl) <| ag ?_;obtain ⟨g24, H⟩ := ax H;refine aa ?_;show AR _ _ _ _ _ [0, 1] _;refine zS rfl (bn rfl rfl g24) <| zm rfl <| ag ?_;exact Exists.intro (n10, x22, t20, y8 + 1) ⟨H, Nat.lt_succ_self _, aO [0] (.cons (.refl _) (.cons (.refl _) (.cons (.refl _) (.cons (.refl _) (.cons (.refl _) (.nil _)))))) rfl⟩
  ·replace H := ba c11 H;refine bR ?_;exact Exists.intro (y6, t7) ⟨H, aO [0] (.cons (.refl _) (.nil _)) rfl⟩
 rintro ⟨y25, t26⟩ H;replace H : gA y25 = some (r3, r4) := H
 unfold gA at H
 refine af <| aa ?_;show AR _ _ _ _ _ [0, 1, 2] _;refine zS rfl (aj (av := slE _ _ _) rfl) <| zS rfl (aB (av := slE _ _ _) rfl) <| za rfl <| ag <| aI ?_;obtain ⟨rfl, rfl⟩ := cN H;exact And.intro rfl (Exists.intro _ (Exists.intro _ ⟨bb rfl (.tok _ _ _) (.refl _), aG [] rfl, rfl, rfl⟩))
set_option maxRecDepth 100000 in
set_option maxHeartbeats 1000000 in
theorem ue (F : Nat) (a1 : List ((List UInt8) × List UInt8)) (q2 : Option Nat) (r3 : List UInt8) (r4 : Int) (H : jV F a1 = some (r3, r4)) : ACalls Tryz.prog 30 [slE (aX Enc.str Enc.str) a1 q2] [] (Ret (.tup [slE Enc.byte r3 none, i64 r4]) []) := by
 unfold jV at H
 refine au Tryz.func30 rfl rfl ?_;show AW _ _ 20 _ _ _;refine af <| aa ?_;show AR _ _ _ _ _ [0, 1] _;refine za rfl <| za rfl <| ag <| af <| af <| aa ?_;show AR _ _ _ _ _ [0, 1, 2] _;refine zS rfl (aj (av := slE _ _ _) rfl) <| zS rfl (aQ dL rfl) <| zS rfl (cP rfl rfl) <| ag <| az rfl (fun c5 => ?_) (fun c5 => ?_)
 ·replace H := aZ c5 H;refine af <| aa ?_;show AR _ _ _ _ _ [0, 1] _;refine za rfl <| za rfl <| ag <| aI ?_;obtain ⟨rfl, rfl⟩ := cN H;exact And.intro rfl (Exists.intro _ (Exists.intro _ ⟨bb rfl (.nil _) (.refl _), aG [] rfl, rfl, rfl⟩))
 ·replace H := ba c5 H;refine aC <| af ?_;obtain ⟨x6, x7, e8, H⟩ := cA H;refine aa ?_;show AR _ _ _ _ _ [0, 1, 2, 3, 4, 5, 6] _;refine zS rfl (aj (av := slE _ _ _) rfl) <| ao rfl rfl (aE rfl pG rfl (mU F a1 q2 x6 x7 e8) ?_);refine zS rfl (aj (av := .tup _) rfl) <| zS rfl (aA (av := slE _ _ _) rfl rfl) <| zS rfl (aA (av := .v _) rfl rfl) <| zS rfl (aB (av := slE _ _ _) rfl) <| za rfl <| ag <| af <| af <| aa ?_;show AR _ _ _ _ _ [0, 1] _;refine zm rfl <| zS rfl (cO rfl rfl) <| ag <| az rfl (fun c9 => ?_) (fun c9 => ?_)
  ·replace H := aZ c9 H;refine af <| aa ?_;show AR _ _ _ _ _ [0, 1, 2] _;refine zm rfl <| za rfl <| za rfl <| ag <| aI ?_;obtain ⟨rfl, rfl⟩ := cN H;exact And.intro rfl (Exists.intro _ (Exists.intro _ ⟨bb rfl (.nil _) (.refl _), aG [] rfl, rfl, rfl⟩))
  ·replace H := ba c9 H;refine aC <| af ?_;obtain ⟨g10, H⟩ := ax H;obtain ⟨x11, e12, H⟩ := bf H;obtain ⟨g15, H⟩ := ax H;obtain ⟨x16, e17, H⟩ := bf H;refine aa ?_;show AR _ _ _ _ _ [0, 1, 2, 3, 4] _;refine zS rfl (aj (av := slE _ _ _) rfl) <| ao rfl rfl (bC [] rfl pF rfl (kU x6 none g10) rfl (fun c A' h => by obtain ⟨_, h, _⟩ := h; cases h) ?_)
   rintro av A' ⟨t13, h, rfl⟩; cases h; rw [e12]
   refine zX rfl (lZ (bytes := 1) 0 ab ac rfl (by kernel_rfl) rfl rfl rfl rfl g15 e17) ?_;rintro _ _ ⟨t14, rfl, rfl⟩;refine zS rfl (aB (av := slE _ _ _) rfl) <| za rfl <| ag <| aI ?_;obtain ⟨rfl, rfl⟩ := cN H;exact And.intro rfl (Exists.intro _ (Exists.intro _ ⟨bb rfl (.tok _ _ _) (.refl _), aG [] rfl, rfl, rfl⟩))
set_option maxRecDepth 100000 in
set_option maxHeartbeats 1000000 in
theorem su (F : Nat) (a1 : List ((List UInt8) × List UInt8)) (q2 : Option Nat) (r3 : List UInt8) (r4 : Int) (H : jV F a1 = some (r3, r4)) : ACalls Tryz.prog 30 [slE (aX Enc.str Enc.str) a1 q2] [] (fun e A' => ∃ tr0 cr0, e = .ret (.tup [slE Enc.byte r3 (some tr0), i64 r4]) ∧ A' = [cr0] ∧ (cr0 = .tokw tr0 ∨ cr0 = .tok tr0 5)) := by
 unfold jV at H
 refine au Tryz.func30 rfl rfl ?_;show AW _ _ 20 _ _ _;refine af <| aa ?_;show AR _ _ _ _ _ [0, 1] _;refine za rfl <| za rfl <| ag <| af <| af <| aa ?_;show AR _ _ _ _ _ [0, 1, 2] _;refine zS rfl (aj (av := slE _ _ _) rfl) <| zS rfl (aQ dL rfl) <| zS rfl (cP rfl rfl) <| ag <| az rfl (fun c5 => ?_) (fun c5 => ?_)
 ·replace H := aZ c5 H;refine af <| aa ?_;show AR _ _ _ _ _ [0, 1] _;refine za rfl <| za rfl <| ag ?_
  refine eh 2 1 5 rfl fun t6 => ?_
  refine aI ?_;obtain ⟨rfl, rfl⟩ := cN H;exact And.intro rfl (Exists.intro _ (Exists.intro _ ⟨bb rfl (.refl _) (.refl _), aG [0] rfl, t6, _, rfl, rfl, .inr rfl⟩))
 ·replace H := ba c5 H;refine aC <| af ?_;obtain ⟨x7, x8, e9, H⟩ := cA H;refine aa ?_;show AR _ _ _ _ _ [0, 1, 2, 3, 4, 5, 6] _;refine zS rfl (aj (av := slE _ _ _) rfl) <| ao rfl rfl (aE rfl pG rfl (mU F a1 q2 x7 x8 e9) ?_);refine zS rfl (aj (av := .tup _) rfl) <| zS rfl (aA (av := slE _ _ _) rfl rfl) <| zS rfl (aA (av := .v _) rfl rfl) <| zS rfl (aB (av := slE _ _ _) rfl) <| za rfl <| ag <| af <| af <| aa ?_;show AR _ _ _ _ _ [0, 1] _;refine zm rfl <| zS rfl (cO rfl rfl) <| ag <| az rfl (fun c10 => ?_) (fun c10 => ?_)
  ·replace H := aZ c10 H;refine af <| aa ?_;show AR _ _ _ _ _ [0, 1, 2] _;refine zm rfl <| za rfl <| za rfl <| ag ?_
   refine eh 2 1 5 rfl fun t11 => ?_
   refine aI ?_;obtain ⟨rfl, rfl⟩ := cN H;exact And.intro rfl (Exists.intro _ (Exists.intro _ ⟨bb rfl (.refl _) (.refl _), aG [0] rfl, t11, _, rfl, rfl, .inr rfl⟩))
  ·replace H := ba c10 H;refine aC <| af ?_;obtain ⟨g12, H⟩ := ax H;obtain ⟨x13, e14, H⟩ := bf H;obtain ⟨g17, H⟩ := ax H;obtain ⟨x18, e19, H⟩ := bf H;refine aa ?_;show AR _ _ _ _ _ [0, 1, 2, 3, 4] _;refine zS rfl (aj (av := slE _ _ _) rfl) <| ao rfl rfl (bC [] rfl pF rfl (kU x7 none g12) rfl (fun c A' h => by obtain ⟨_, h, _⟩ := h; cases h) ?_)
   rintro av A' ⟨t15, h, rfl⟩; cases h; rw [e14]
   refine zX rfl (lZ (bytes := 1) 0 ab ac rfl (by kernel_rfl) rfl rfl rfl rfl g17 e19) ?_;rintro _ _ ⟨t16, rfl, rfl⟩;refine zS rfl (aB (av := slE _ _ _) rfl) <| za rfl <| ag <| aI ?_;obtain ⟨rfl, rfl⟩ := cN H;exact And.intro rfl (Exists.intro _ (Exists.intro _ ⟨bb rfl (.refl _) (.refl _), aG [0] rfl, t16, _, rfl, rfl, .inl rfl⟩))
end Go.Proofs.YtjegcifofddgbaaGreatDoor
namespace Go.Pv
def tG : List UInt8 := [97, 98, 99, 100, 101, 102, 103, 104, 105, 106, 107, 108, 109, 110, 111, 112, 113, 114, 115, 116, 117, 118, 119, 120, 121, 122, 48, 49, 50, 51, 52, 53, 54, 55, 56, 57, 47, 45, 61, 59, 32]
def ni : List UInt8 := [67, 111, 110, 116, 101, 110, 116, 45, 84, 114, 97, 110, 115, 102, 101, 114, 45, 69, 110, 99, 111, 100, 105, 110, 103]
def nI (F : Nat) (a1 : List UInt8) (a4 : List UInt8) : Option Bool :=
grd (bq a4.length) <|
grd (okS a1.length) <|
grd (decide (2 ≤ a4.length)) <|
grd (okS a4.length) <|
lt (Go.Lib.contains a1 a4) fun x11 =>
some x11
def fL : Option Int :=
some (-1)
def iH (F : Nat) (a1 : List (List UInt8)) (a4 : List UInt8) (rec7 : Int → Option Int) (y6 : Int) : Option Int :=
bif decide (y6 < (a1.length : Int)) then
  grd (ct y6 a1.length) <|
  lt (at_ a1 y6) fun x11 =>
  bnd (nI F x11 a4) fun x13 =>
  bif x13 then
    some y6
  else
    grd (okI (y6 + 1)) <|
    rec7 (y6 + 1)
else
  fL
def iG (F : Nat) (a1 : List (List UInt8)) (a4 : List UInt8) (n : Nat) : Int → Option Int :=
  loop (fun rec x => iH F a1 a4 rec x) n
def lf (F : Nat) (a1 : List (List UInt8)) (a4 : List UInt8) : Option Int :=
iG F a1 a4 F 0
def iJ (F : Nat) (a1 : List (List UInt8)) (a4 : List UInt8) : Option Bool :=
bnd (lf F a1 a4) fun x6 =>
some (decide (0 ≤ x6))
def gj (F : Nat) (a1 : List (List UInt8)) (rec5 : Int → Option ((List UInt8))) (y4 : Int) : Option ((List UInt8)) :=
grd (okI y4) <|
lt (Go.Lib.itoa y4) fun x8 =>
grd (bq (([61, 95] : List UInt8).length + x8.length)) <|
lt (([61, 95] : List UInt8) ++ x8) fun x11 =>
bnd (iJ F a1 x11) fun x14 =>
bif !x14 then
  some x11
else
  grd (okI (y4 + 1)) <|
  rec5 (y4 + 1)
def gi (F : Nat) (a1 : List (List UInt8)) (n : Nat) : Int → Option ((List UInt8)) :=
  loop (fun rec x => gj F a1 rec x) n
def jD (F : Nat) (a1 : List (List UInt8)) : Option ((List UInt8)) :=
gi F a1 F 0
def ic (a1 : List UInt8) : Option Bool :=
fZ ((!decide (a1 = ([] : List UInt8))) && (decide ((a1.length : Int) ≤ 60))) (okS a1.length) <|
lt (Go.Lib.trimB a1 32) fun x18 =>
fZ (((!decide (a1 = ([] : List UInt8))) && (decide ((a1.length : Int) ≤ 60))) && (decide (x18 = a1))) (okS a1.length) <|
lt (Go.Lib.contains a1 ([32, 32] : List UInt8)) fun x22 =>
some ((((!decide (a1 = ([] : List UInt8))) && (decide ((a1.length : Int) ≤ 60))) && (decide (x18 = a1))) && (!x22))
def jZ (a1 : List UInt8) (rec4 : Int → Option Bool) (y3 : Int) : Option Bool :=
bif decide (y3 < (a1.length : Int)) then
  grd (ct y3 a1.length) <|
  lt (at_ a1 y3) fun x8 =>
  lt (Go.Lib.indexByte tG x8) fun x10 =>
  bif decide (x10 < 0) then
    some false
  else
    grd (okI (y3 + 1)) <|
    rec4 (y3 + 1)
else
  ic a1
def jY (a1 : List UInt8) (n : Nat) : Int → Option Bool :=
  loop (fun rec x => jZ a1 rec x) n
def nH (F : Nat) (a1 : List UInt8) : Option Bool :=
jY a1 F 0
def nG (F : Nat) (a1 : List UInt8) : Option Bool :=
bnd (nH F a1) fun x3 =>
some (!x3)
def fK : Option Int :=
some (-1)
def iE (F : Nat) (a1 : List (List UInt8)) (rec5 : Int → Option Int) (y4 : Int) : Option Int :=
bif decide (y4 < (a1.length : Int)) then
  grd (ct y4 a1.length) <|
  lt (at_ a1 y4) fun x9 =>
  bnd (nG F x9) fun x11 =>
  bif x11 then
    some y4
  else
    grd (okI (y4 + 1)) <|
    rec5 (y4 + 1)
else
  fK
def iD (F : Nat) (a1 : List (List UInt8)) (n : Nat) : Int → Option Int :=
  loop (fun rec x => iE F a1 rec x) n
def ld (F : Nat) (a1 : List (List UInt8)) : Option Int :=
iD F a1 F 0
def iI (F : Nat) (a1 : List (List UInt8)) : Option Bool :=
bnd (ld F a1) fun x4 =>
some (decide (0 ≤ x4))
def jo (a6 : List UInt8) (x10 : List UInt8) (y24 : List UInt8) : Option ((List UInt8)) :=
grd (bq (y24.length + x10.length)) <|
lt (y24 ++ x10) fun x29 =>
grd (bq (x29.length + a6.length)) <|
lt (x29 ++ a6) fun x33 =>
grd (bq (x33.length + ([13, 10] : List UInt8).length)) <|
lt (x33 ++ ([13, 10] : List UInt8)) fun x37 =>
some x37
def pU (F : Nat) (a2 : List UInt8) (a4 : List UInt8) (a5 : List UInt8) (a6 : List UInt8) : Option ((List UInt8)) :=
ff (jV F ([(([67, 111, 110, 116, 101, 110, 116, 45, 84, 121, 112, 101] : List UInt8), a5), (ni, ([113, 117, 111, 116, 101, 100, 45, 112, 114, 105, 110, 116, 97, 98, 108, 101] : List UInt8))] : List ((List UInt8) × List UInt8))) fun x10 x11 =>
grd (bq (([45, 45] : List UInt8).length + a4.length)) <|
lt (([45, 45] : List UInt8) ++ a4) fun x14 =>
grd (bq (x14.length + ([13, 10] : List UInt8).length)) <|
lt (x14 ++ ([13, 10] : List UInt8)) fun x17 =>
grd (bq (a2.length + x17.length)) <|
lt (a2 ++ x17) fun x21 =>
jo a6 x10 x21
def ig (x34 : List UInt8) (y54 : List UInt8) : Option ((List UInt8) × (List UInt8) × Int) :=
grd (bq (([45, 45] : List UInt8).length + x34.length)) <|
lt (([45, 45] : List UInt8) ++ x34) fun x58 =>
grd (bq (x58.length + ([45, 45] : List UInt8).length)) <|
lt (x58 ++ ([45, 45] : List UInt8)) fun x61 =>
grd (bq (x61.length + ([13, 10] : List UInt8).length)) <|
lt (x61 ++ ([13, 10] : List UInt8)) fun x64 =>
grd (bq (y54.length + x64.length)) <|
lt (y54 ++ x64) fun x68 =>
some (x68, x34, 0)
def kd (F : Nat) (a1 : List (List UInt8)) (y31 : List (List UInt8)) (x34 : List UInt8) (rec41 : (Int × (List UInt8)) → Option ((List UInt8) × (List UInt8) × Int)) (y38 : Int) (y39 : List UInt8) : Option ((List UInt8) × (List UInt8) × Int) :=
bif decide (y38 < (y31.length : Int)) then
  grd (ct y38 y31.length) <|
  lt (at_ y31 y38) fun x45 =>
  grd (ct y38 a1.length) <|
  lt (at_ a1 y38) fun x48 =>
  bnd (pU F y39 x34 x48 x45) fun x50 =>
  grd (okI (y38 + 1)) <|
  rec41 (y38 + 1, x50)
else
  ig x34 y39
def kb (F : Nat) (a1 : List (List UInt8)) (y31 : List (List UInt8)) (x34 : List UInt8) (n : Nat) : (Int × (List UInt8)) → Option ((List UInt8) × (List UInt8) × Int) :=
  loop (fun rec x => kd F a1 y31 x34 rec x.1 x.2) n
def ie (F : Nat) (a1 : List (List UInt8)) (y31 : List (List UInt8)) : Option ((List UInt8) × (List UInt8) × Int) :=
bnd (jD F y31) fun x34 =>
kb F a1 y31 x34 F (0, [])
def kc (F : Nat) (a1 : List (List UInt8)) (a3 : List (List UInt8)) (rec18 : ((List (List UInt8)) × Int) → Option ((List UInt8) × (List UInt8) × Int)) (y15 : List (List UInt8)) (y17 : Int) : Option ((List UInt8) × (List UInt8) × Int) :=
bif decide (y17 < (a3.length : Int)) then
  grd (ct y17 a3.length) <|
  lt (at_ a3 y17) fun x22 =>
  bnd (nE F x22) fun x24 =>
  grd (bq (y15.length + ([x24] : List (List UInt8)).length)) <|
  lt (y15 ++ ([x24] : List (List UInt8))) fun x28 =>
  grd (okI (y17 + 1)) <|
  rec18 (x28, y17 + 1)
else
  ie F a1 y15
def ka (F : Nat) (a1 : List (List UInt8)) (a3 : List (List UInt8)) (n : Nat) : ((List (List UInt8)) × Int) → Option ((List UInt8) × (List UInt8) × Int) :=
  loop (fun rec x => kc F a1 a3 rec x.1 x.2) n
def nJ (F : Nat) (a1 : List (List UInt8)) (a3 : List (List UInt8)) : Option ((List UInt8) × (List UInt8) × Int) :=
jO (!(((!decide ((a1.length : Int) = (a3.length : Int))) || (decide ((a3.length : Int) = 0))) || (decide (8 < (a3.length : Int))))) (iI F a1) fun x11 =>
bif (((!decide ((a1.length : Int) = (a3.length : Int))) || (decide ((a3.length : Int) = 0))) || (decide (8 < (a3.length : Int)))) || x11 then
  some ([], ([] : List UInt8), 1)
else
  ka F a1 a3 F ([], 0)
end Go.Pv
namespace Go.Proofs.YtjegcifofddgbaaGreatDoor
open Go.RowKit Go.Av Go.Pv
theorem uS : ∀ (args : Array Value) (w : World), (callFunc 30 args).run Tryz.prog w = .ok (.enter 30 args) w := fun _ _ => by kernel_rfl
theorem uR : ∀ (args : Array Value) (w : World), (callFunc 58 args).run Tryz.prog w = .ok (.enter 58 args) w := fun _ _ => by kernel_rfl
theorem uQ : ∀ (args : Array Value) (w : World), (callFunc 64 args).run Tryz.prog w = .ok (.enter 64 args) w := fun _ _ => by kernel_rfl
theorem uP : ∀ (args : Array Value) (w : World), (callFunc 65 args).run Tryz.prog w = .ok (.enter 65 args) w := fun _ _ => by kernel_rfl
theorem uK : ∀ (args : Array Value) (w : World), (callFunc 72 args).run Tryz.prog w = .ok (.enter 72 args) w := fun _ _ => by kernel_rfl
theorem uJ : ∀ (args : Array Value) (w : World), (callFunc 73 args).run Tryz.prog w = .ok (.enter 73 args) w := fun _ _ => by kernel_rfl
theorem uI : ∀ (args : Array Value) (w : World), (callFunc 74 args).run Tryz.prog w = .ok (.enter 74 args) w := fun _ _ => by kernel_rfl
theorem uH : ∀ (args : Array Value) (w : World), (callFunc 75 args).run Tryz.prog w = .ok (.enter 75 args) w := fun _ _ => by kernel_rfl
theorem uG : ∀ (args : Array Value) (w : World), (callFunc 76 args).run Tryz.prog w = .ok (.enter 76 args) w := fun _ _ => by kernel_rfl
theorem uF : ∀ (args : Array Value) (w : World), (callFunc 77 args).run Tryz.prog w = .ok (.enter 77 args) w := fun _ _ => by kernel_rfl
theorem tv : ∀ (args : Array Value) (w : World), (callFunc 122 args).run Tryz.prog w = .ok (.enter 122 args) w := fun _ _ => by kernel_rfl
theorem tt : ∀ (args : Array Value) (w : World), (callFunc 123 args).run Tryz.prog w = .ok (.enter 123 args) w := fun _ _ => by kernel_rfl
theorem tr : ∀ (args : Array Value) (w : World), (callFunc 126 args).run Tryz.prog w = .ok (.enter 126 args) w := fun _ _ => by kernel_rfl
theorem tq : ∀ (args : Array Value) (w : World), (callFunc 127 args).run Tryz.prog w = .ok (.enter 127 args) w := fun _ _ => by kernel_rfl
theorem tp : ∀ (args : Array Value) (w : World), (callFunc 128 args).run Tryz.prog w = .ok (.enter 128 args) w := fun _ _ => by kernel_rfl
theorem tk : ∀ (args : Array Value) (w : World), (callFunc 178 args).run Tryz.prog w = .ok (.enter 178 args) w := fun _ _ => by kernel_rfl
set_option maxRecDepth 100000 in
set_option maxHeartbeats 1000000 in
theorem so (F : Nat) (a1 : List UInt8) (q2 : Option Nat) (o3 : Nat) (a4 : List UInt8) (r5 : Bool) (H : nI F a1 a4 = some r5) : ACalls Tryz.prog 127 [slE Enc.byte a1 q2, .pt o3 0] [.obj o3 [S a4]] (fun e A' => e = .ret (B r5) ∧ A' = [.obj o3 [S a4]]) := by
 unfold nI at H
 refine au Tryz.func127 rfl rfl ?_;show AW _ _ 8 _ _ _;refine af <| aa ?_;show AR _ _ _ _ _ [0] _;refine za rfl <| ag <| af ?_;obtain ⟨g6, H⟩ := ax H;obtain ⟨g8, H⟩ := ax H;obtain ⟨g9, H⟩ := ax H;obtain ⟨g10, H⟩ := ax H;obtain ⟨x11, e12, H⟩ := bf H;refine aa ?_;show AR _ _ _ _ _ [0, 1, 2, 3, 4] _;refine zS rfl (aj (av := slE _ _ _) rfl) <| zR rfl (am (i := 0) ac rfl rfl rfl rfl) <| zX rfl (cm (bytes := 1) ac ab aY rfl g6) ?_;rintro _ _ ⟨t7, rfl, rfl⟩;refine ao rfl rfl (aE rfl tp rfl (show ACalls _ _ _ [] (Ret (B x11) []) from by subst e12; exact mS a1 a4 q2 (some t7) (gc g8) (of_decide_eq_true g9) (gc g10)) ?_);refine za rfl <| ag <| aI ?_;obtain rfl := ap H;exact And.intro rfl (Exists.intro _ (Exists.intro _ ⟨aH rfl (.refl _), aG [1] rfl, rfl, rfl⟩))
set_option maxRecDepth 100000 in
set_option maxHeartbeats 1000000 in
theorem qm (F : Nat) (a1 : List (List UInt8)) (q2 : Option Nat) (o3 : Nat) (a4 : List UInt8) (r5 : Int) (H : lf F a1 a4 = some r5) : ACalls Tryz.prog 178 [slE (Enc.sl Enc.byte) a1 q2, .fn (.func 127) [] [.pt o3 0]] [.obj o3 [S a4]] (fun e A' => e = .ret (i64 r5) ∧ A' = [.obj o3 [S a4]]) := by
 unfold lf at H
 refine au Tryz.func178 rfl rfl ?_;show AW _ _ 19 _ _ _;refine af <| aa ?_;show AR _ _ _ _ _ [0] _;refine za rfl <| ag <| bj (X := Unit) (fun _ => ⟨[], [], [.obj o3 [S a4]]⟩) (fun _ => fL = some r5) ?_ ?_
 ·refine af <| aa ?_;show AR _ _ _ _ _ [0, 1, 2] _;refine zS rfl (aj (av := slE _ _ _) rfl) <| zS rfl (aQ bD rfl) <| zm rfl <| ag <| aN <| cd (X := Nat × Int) (fun (n8, y6) => ⟨[(0, slE (Enc.sl Enc.byte) a1 q2), (1, .fn (.func 127) [] [.pt o3 0]), (7, i64 (a1.length : Int)), (8, i64 y6)], [], [.obj o3 [S a4]]⟩) (fun (n8, y6) => iG F a1 a4 n8 y6 = some r5) (fun (n8, y6) => n8) (F, 0) H (aO [0] (.cons (.refl _) (.cons (.refl _) (.cons (.refl _) (.cons (.refl _) (.nil _))))) rfl) ?_;rintro ⟨n8, y6⟩ H;obtain ⟨n8, rfl, H⟩ := cG H;replace H : iH F a1 a4 (iG F a1 a4 n8) y6 = some r5 := H
  unfold iH at H
  refine af <| aa ?_;show AR _ _ _ _ _ [0] _;refine zS rfl (bx rfl rfl) <| ag <| af <| az rfl (fun c9 => ?_) (fun c9 => ?_)
  ·replace H := aZ c9 H;refine aC <| af <| aN <| af <| aa ?_;show AR _ _ _ _ _ [0, 1] _;refine zm rfl <| za rfl <| ag <| af ?_;obtain ⟨g10, H⟩ := ax H;obtain ⟨x11, e12, H⟩ := bf H;obtain ⟨x13, e14, H⟩ := bL H;refine aa ?_;show AR _ _ _ _ _ [0, 1, 2, 3, 4, 5] _;refine zS rfl (aj (av := .fn _ _ _) rfl) <| zS rfl (aj (av := slE _ _ _) rfl) <| zm rfl <| zS rfl (co (E := (Enc.sl Enc.byte)) bD (by kernel_rfl) rfl rfl g10 e12) <| zS rfl (aJ ab rfl rfl) <| ao rfl rfl (AO.callFAt [0] rfl (.inl rfl) tq rfl (so F x11 none o3 a4 x13 e14) rfl (fun c A' h => by cases h.1) ?_)
   rintro av A' ⟨h, rfl⟩; cases h
   refine ag <| az rfl (fun c15 => ?_) (fun c15 => ?_)
   ·replace H := aZ c15 H;refine af <| aa ?_;show AR _ _ _ _ _ [0, 1] _;refine zm rfl <| za rfl <| ag <| aI ?_;obtain rfl := ap H;exact And.intro rfl (Exists.intro _ (Exists.intro _ ⟨aH rfl (.refl _), aG [0] rfl, rfl, rfl⟩))
   ·replace H := ba c15 H;refine aC ?_;obtain ⟨g16, H⟩ := ax H;refine aa ?_;show AR _ _ _ _ _ [0, 1] _;refine zS rfl (bn rfl rfl g16) <| zm rfl <| ag ?_;exact Exists.intro (n8, y6 + 1) ⟨H, Nat.lt_succ_self _, aO [0] (.cons (.refl _) (.cons (.refl _) (.cons (.refl _) (.cons (.refl _) (.nil _))))) rfl⟩
  ·replace H := ba c9 H;refine bR ?_;exact Exists.intro () ⟨H, aO [0] (.nil _) rfl⟩
 rintro _ H;replace H : fL = some r5 := H
 unfold fL at H
 refine af <| aa ?_;show AR _ _ _ _ _ [0] _;refine za rfl <| ag <| aI ?_;obtain rfl := ap H;exact And.intro rfl (Exists.intro _ (Exists.intro _ ⟨aH rfl (.refl _), aG [0] rfl, rfl, rfl⟩))
set_option maxRecDepth 100000 in
set_option maxHeartbeats 1000000 in
theorem nz (F : Nat) (a1 : List (List UInt8)) (q2 : Option Nat) (o3 : Nat) (a4 : List UInt8) (r5 : Bool) (H : iJ F a1 a4 = some r5) : ACalls Tryz.prog 126 [slE (Enc.sl Enc.byte) a1 q2, .fn (.func 127) [] [.pt o3 0]] [.obj o3 [S a4]] (fun e A' => e = .ret (B r5) ∧ A' = [.obj o3 [S a4]]) := by
 unfold iJ at H
 refine au Tryz.func126 rfl rfl ?_;show AW _ _ 9 _ _ _;refine af <| aa ?_;show AR _ _ _ _ _ [0] _;refine za rfl <| ag <| af ?_;obtain ⟨x6, e7, H⟩ := bL H;refine aa ?_;show AR _ _ _ _ _ [0, 1, 2, 3, 4] _;refine zS rfl (aj (av := slE _ _ _) rfl) <| zS rfl (aj (av := .fn _ _ _) rfl) <| ao rfl rfl (bC [0] rfl tk rfl (qm F a1 q2 o3 a4 x6 e7) rfl (fun c A' h => by cases h.1) ?_)
 rintro av A' ⟨h, rfl⟩; cases h
 refine zS rfl (dc rfl rfl) <| za rfl <| ag <| aI ?_;obtain rfl := ap H;exact And.intro rfl (Exists.intro _ (Exists.intro _ ⟨aH rfl (.refl _), aG [0] rfl, rfl, rfl⟩))
set_option maxRecDepth 100000 in
set_option maxHeartbeats 1000000 in
theorem oO (F : Nat) (a1 : List (List UInt8)) (q2 : Option Nat) (r3 : List UInt8) (H : jD F a1 = some r3) : ACalls Tryz.prog 76 [slE (Enc.sl Enc.byte) a1 q2] [] (Ret (S r3) []) := by
 unfold jD at H
 refine au Tryz.func76 rfl rfl ?_;show AW _ _ 15 _ _ _;refine af <| aa ?_;show AR _ _ _ _ _ [0] _;refine za rfl <| ag <| af <| aa ?_;show AR _ _ _ _ _ [0] _;refine za rfl <| ag <| aN <| cd (X := Nat × Int) (fun (n6, y4) => ⟨[(0, slE (Enc.sl Enc.byte) a1 q2), (3, i64 y4)], [], []⟩) (fun (n6, y4) => gi F a1 n6 y4 = some r3) (fun (n6, y4) => n6) (F, 0) H (aO [] (.cons (.refl _) (.cons (.refl _) (.nil _))) rfl) ?_;rintro ⟨n6, y4⟩ H;obtain ⟨n6, rfl, H⟩ := cG H;replace H : gj F a1 (gi F a1 n6) y4 = some r3 := H
 unfold gj at H
 refine af <| aN <| af ?_;obtain ⟨g7, H⟩ := ax H;obtain ⟨x8, e9, H⟩ := bf H;obtain ⟨g10, H⟩ := ax H;obtain ⟨x11, e12, H⟩ := bf H;refine aa ?_;show AR _ _ _ _ _ [0, 1, 2, 3, 4] _;refine zm rfl <| ao rfl rfl (aE rfl uR rfl (show ACalls _ _ _ [] (Ret (S x8) []) from by subst e9; exact gH y4 (mL g7)) ?_);refine zS rfl (bV rfl rfl g10 e12) <| zX rfl (dx (zs := [.string ⟨#[]⟩]) (by kernel_rfl)) ?_;rintro _ _ ⟨o13, rfl, rfl⟩;refine s0 rfl rfl (aw (i := 0) (c := .v _) (by kernel_rfl) rfl rfl rfl rfl (ai rfl)) <| ag <| af ?_;obtain ⟨x14, e15, H⟩ := bL H;refine aa ?_;show AR _ _ _ _ _ [0, 1, 2, 3] _;refine zS rfl (aj (av := slE _ _ _) rfl) <| zS rfl (ii rfl rfl) <| ao rfl rfl (bC [0] rfl tr rfl (nz F a1 q2 o13 x11 x14 e15) rfl (fun c A' h => by cases h.1) ?_)
 rintro av A' ⟨h, rfl⟩; cases h
 refine zS rfl (cr rfl) <| ag <| az rfl (fun c16 => ?_) (fun c16 => ?_)
 ·replace H := aZ c16 H;refine af <| aa ?_;show AR _ _ _ _ _ [0, 1] _;refine zR rfl (am (i := 0) ac rfl rfl rfl rfl) <| za rfl <| ag <| aI ?_;obtain rfl := ap H;exact And.intro rfl (Exists.intro _ (Exists.intro _ ⟨aH rfl (.refl _), aG [] rfl, rfl, rfl⟩))
 ·replace H := ba c16 H;refine aC ?_;obtain ⟨g17, H⟩ := ax H;refine aa ?_;show AR _ _ _ _ _ [0, 1, 2] _;refine zm rfl <| zS rfl (bn rfl rfl g17) <| za rfl <| ag ?_;exact Exists.intro (n6, y4 + 1) ⟨H, Nat.lt_succ_self _, aO [] (.cons (.refl _) (.cons (.refl _) (.nil _))) rfl⟩
set_option maxRecDepth 100000 in
set_option maxHeartbeats 1000000 in
theorem sn (F : Nat) (a1 : List UInt8) (r2 : Bool) (H : nH F a1 = some r2) : ACalls Tryz.prog 74 [S a1] [] (Ret (B r2) []) := by
 unfold nH at H
 refine au Tryz.func74 rfl rfl ?_;show AW _ _ 33 _ _ _;refine af <| aa ?_;show AR _ _ _ _ _ [0] _;refine za rfl <| ag <| bj (X := Unit) (fun _ => ⟨[(0, S a1)], [], []⟩) (fun _ => ic a1 = some r2) ?_ ?_
 ·refine af <| aa ?_;show AR _ _ _ _ _ [0, 1, 2] _;refine zm rfl <| zS rfl (aW ac rfl) <| zm rfl <| ag <| aN <| cd (X := Nat × Int) (fun (n5, y3) => ⟨[(0, S a1), (5, i64 (a1.length : Int)), (6, i64 y3)], [], []⟩) (fun (n5, y3) => jY a1 n5 y3 = some r2) (fun (n5, y3) => n5) (F, 0) H (aO [] (.cons (.refl _) (.cons (.refl _) (.cons (.refl _) (.nil _)))) rfl) ?_;rintro ⟨n5, y3⟩ H;obtain ⟨n5, rfl, H⟩ := cG H;replace H : jZ a1 (jY a1 n5) y3 = some r2 := H
  unfold jZ at H
  refine af <| aa ?_;show AR _ _ _ _ _ [0] _;refine zS rfl (bx rfl rfl) <| ag <| af <| az rfl (fun c6 => ?_) (fun c6 => ?_)
  ·replace H := aZ c6 H;refine aC <| af <| aN <| af <| aa ?_;show AR _ _ _ _ _ [0, 1] _;refine zm rfl <| za rfl <| ag <| af ?_;obtain ⟨g7, H⟩ := ax H;obtain ⟨x8, e9, H⟩ := bf H;obtain ⟨x10, e11, H⟩ := bf H;refine aa ?_;show AR _ _ _ _ _ [0, 1, 2, 3, 4] _;refine zm rfl <| zm rfl <| zS rfl (bg ac rfl rfl g7 e9) <| ao rfl rfl (aE rfl uQ rfl (show ACalls _ _ _ [] (Ret (i64 x10) []) from by subst e11; exact df tG x8) ?_);refine zS rfl (bx rfl rfl) <| ag <| az rfl (fun c12 => ?_) (fun c12 => ?_)
   ·replace H := aZ c12 H;refine af <| aa ?_;show AR _ _ _ _ _ [0] _;refine za rfl <| ag <| aI ?_;obtain rfl := ap H;exact And.intro rfl (Exists.intro _ (Exists.intro _ ⟨aH rfl (.refl _), aG [] rfl, rfl, rfl⟩))
   ·replace H := ba c12 H;refine aC ?_;obtain ⟨g13, H⟩ := ax H;refine aa ?_;show AR _ _ _ _ _ [0, 1] _;refine zS rfl (bn rfl rfl g13) <| zm rfl <| ag ?_;exact Exists.intro (n5, y3 + 1) ⟨H, Nat.lt_succ_self _, aO [] (.cons (.refl _) (.cons (.refl _) (.cons (.refl _) (.nil _)))) rfl⟩
  ·replace H := ba c6 H;refine bR ?_;exact Exists.intro () ⟨H, aO [] (.cons (.refl _) (.nil _)) rfl⟩
 rintro _ H;replace H : ic a1 = some r2 := H
 unfold ic at H
 refine af ?_;obtain ⟨g17, H⟩ := dg H;obtain ⟨x18, e19, H⟩ := bf H;obtain ⟨g21, H⟩ := dg H;obtain ⟨x22, e23, H⟩ := bf H;refine aa ?_;show AR _ _ _ _ _ [0, 1, 2, 3, 4, 5, 6, 7, 8, 9, 10, 11, 12, 13, 14, 15, 16, 17, 18] _;refine zm rfl <| zS rfl (gd rfl rfl) <| zm rfl <| aU (l := [7, 8, 9, 10, 11, 12, 13, 14, 15, 16, 17, 18]) 21 (B ((!decide (a1 = ([] : List UInt8))) && (decide ((a1.length : Int) ≤ 60)))) (fun K => ?_) ?_
 ·rcases ak (!decide (a1 = ([] : List UInt8))) with h15 | h15
  ·refine zM h15 rfl <| zU h15 rfl (aW ac rfl) <| zU h15 rfl (de rfl rfl) <| zS rfl (aF (av := .v _) rfl h15 rfl) ?_;exact K _ 3 _ (ay (cb h15)) rfl rfl
  ·refine zF h15 rfl <| zF h15 rfl <| zF h15 rfl <| zS rfl (aD (av := .v _) rfl h15 rfl) ?_;exact K _ 3 _ (ay (cc h15)) rfl rfl
 refine zm rfl <| aU (l := [13, 14, 15, 16, 17, 18]) 27 (B (((!decide (a1 = ([] : List UInt8))) && (decide ((a1.length : Int) ≤ 60))) && (decide (x18 = a1)))) (fun K => ?_) ?_
 ·rcases ak ((!decide (a1 = ([] : List UInt8))) && (decide ((a1.length : Int) ≤ 60))) with h16 | h16
  ·refine zM h16 rfl <| zT h16 rfl (aE rfl tt rfl (show ACalls _ _ _ [] (Ret (S x18) []) from by subst e19; exact qN a1 32 (by decide) (gc (g17 h16))) ?_);refine zM h16 rfl <| zU h16 rfl (eB rfl rfl) <| zS rfl (aF (av := .v _) rfl h16 rfl) ?_;exact K _ 4 _ (ay (cb h16)) rfl rfl
  ·refine zF h16 rfl <| zF h16 rfl <| zF h16 rfl <| zF h16 rfl <| zS rfl (aD (av := .v _) rfl h16 rfl) ?_;exact K _ 4 _ (ay (cc h16)) rfl rfl
 refine zm rfl <| aU (l := [18]) 32 (B ((((!decide (a1 = ([] : List UInt8))) && (decide ((a1.length : Int) ≤ 60))) && (decide (x18 = a1))) && (!x22))) (fun K => ?_) ?_
 ·rcases ak (((!decide (a1 = ([] : List UInt8))) && (decide ((a1.length : Int) ≤ 60))) && (decide (x18 = a1))) with h20 | h20
  ·refine zM h20 rfl <| zT h20 rfl (aE rfl uP rfl (show ACalls _ _ _ [] (Ret (B x22) []) from by subst e23; exact ik a1 ([32, 32] : List UInt8) (gc (g21 h20))) ?_);refine zU h20 rfl (cr rfl) <| zS rfl (aF (av := .v _) rfl h20 rfl) ?_;exact K _ 3 _ (ay (cb h20)) rfl rfl
  ·refine zF h20 rfl <| zF h20 rfl <| zF h20 rfl <| zS rfl (aD (av := .v _) rfl h20 rfl) ?_;exact K _ 3 _ (ay (cc h20)) rfl rfl
 refine za rfl <| ag <| aI ?_;obtain rfl := ap H;exact And.intro rfl (Exists.intro _ (Exists.intro _ ⟨aH rfl (.refl _), aG [] rfl, rfl, rfl⟩))
set_option maxRecDepth 100000 in
set_option maxHeartbeats 1000000 in
theorem sm (F : Nat) (a1 : List UInt8) (r2 : Bool) (H : nG F a1 = some r2) : ACalls Tryz.prog 73 [S a1] [] (Ret (B r2) []) := by
 unfold nG at H
 refine au Tryz.func73 rfl rfl ?_;show AW _ _ 6 _ _ _;refine af <| aa ?_;show AR _ _ _ _ _ [0] _;refine za rfl <| ag <| af ?_;obtain ⟨x3, e4, H⟩ := bL H;refine aa ?_;show AR _ _ _ _ _ [0, 1, 2, 3] _;refine zm rfl <| ao rfl rfl (aE rfl uI rfl (sn F a1 x3 e4) ?_);refine zS rfl (cr rfl) <| za rfl <| ag <| aI ?_;obtain rfl := ap H;exact And.intro rfl (Exists.intro _ (Exists.intro _ ⟨aH rfl (.refl _), aG [] rfl, rfl, rfl⟩))
set_option maxRecDepth 100000 in
set_option maxHeartbeats 1000000 in
theorem ql (F : Nat) (a1 : List (List UInt8)) (q2 : Option Nat) (r3 : Int) (H : ld F a1 = some r3) : ACalls Tryz.prog 122 [slE Enc.str a1 q2, .v (.func (.func 73) #[] #[])] [] (Ret (i64 r3) []) := by
 unfold ld at H
 refine au Tryz.func122 rfl rfl ?_;show AW _ _ 19 _ _ _;refine af <| aa ?_;show AR _ _ _ _ _ [0] _;refine za rfl <| ag <| bj (X := Unit) (fun _ => ⟨[], [], []⟩) (fun _ => fK = some r3) ?_ ?_
 ·refine af <| aa ?_;show AR _ _ _ _ _ [0, 1, 2] _;refine zS rfl (aj (av := slE _ _ _) rfl) <| zS rfl (aQ an rfl) <| zm rfl <| ag <| aN <| cd (X := Nat × Int) (fun (n6, y4) => ⟨[(0, slE Enc.str a1 q2), (1, .v (.func (.func 73) #[] #[])), (7, i64 (a1.length : Int)), (8, i64 y4)], [], []⟩) (fun (n6, y4) => iD F a1 n6 y4 = some r3) (fun (n6, y4) => n6) (F, 0) H (aO [] (.cons (.refl _) (.cons (.refl _) (.cons (.refl _) (.cons (.refl _) (.nil _))))) rfl) ?_;rintro ⟨n6, y4⟩ H;obtain ⟨n6, rfl, H⟩ := cG H;replace H : iE F a1 (iD F a1 n6) y4 = some r3 := H
  unfold iE at H
  refine af <| aa ?_;show AR _ _ _ _ _ [0] _;refine zS rfl (bx rfl rfl) <| ag <| af <| az rfl (fun c7 => ?_) (fun c7 => ?_)
  ·replace H := aZ c7 H;refine aC <| af <| aN <| af <| aa ?_;show AR _ _ _ _ _ [0, 1] _;refine zm rfl <| za rfl <| ag <| af ?_;obtain ⟨g8, H⟩ := ax H;obtain ⟨x9, e10, H⟩ := bf H;obtain ⟨x11, e12, H⟩ := bL H;refine aa ?_;show AR _ _ _ _ _ [0, 1, 2, 3, 4, 5] _;refine zm rfl <| zS rfl (aj (av := slE _ _ _) rfl) <| zm rfl <| zS rfl (co (E := Enc.str) an (by kernel_rfl) rfl rfl g8 e10) <| zS rfl (aJ ac rfl rfl) <| ao rfl rfl (AO.callFp rfl (.inr ⟨rfl, rfl, rfl⟩) uJ rfl (sm F x9 x11 e12) ?_);refine ag <| az rfl (fun c13 => ?_) (fun c13 => ?_)
   ·replace H := aZ c13 H;refine af <| aa ?_;show AR _ _ _ _ _ [0, 1] _;refine zm rfl <| za rfl <| ag <| aI ?_;obtain rfl := ap H;exact And.intro rfl (Exists.intro _ (Exists.intro _ ⟨aH rfl (.refl _), aG [] rfl, rfl, rfl⟩))
   ·replace H := ba c13 H;refine aC ?_;obtain ⟨g14, H⟩ := ax H;refine aa ?_;show AR _ _ _ _ _ [0, 1] _;refine zS rfl (bn rfl rfl g14) <| zm rfl <| ag ?_;exact Exists.intro (n6, y4 + 1) ⟨H, Nat.lt_succ_self _, aO [] (.cons (.refl _) (.cons (.refl _) (.cons (.refl _) (.cons (.refl _) (.nil _))))) rfl⟩
  ·replace H := ba c7 H;refine bR ?_;exact Exists.intro () ⟨H, aO [] (.nil _) rfl⟩
 rintro _ H;replace H : fK = some r3 := H
 unfold fK at H
 refine af <| aa ?_;show AR _ _ _ _ _ [0] _;refine za rfl <| ag <| aI ?_;obtain rfl := ap H;exact And.intro rfl (Exists.intro _ (Exists.intro _ ⟨aH rfl (.refl _), aG [] rfl, rfl, rfl⟩))
set_option maxRecDepth 100000 in
set_option maxHeartbeats 1000000 in
theorem ny (F : Nat) (a1 : List (List UInt8)) (q2 : Option Nat) (r3 : Bool) (H : iI F a1 = some r3) : ACalls Tryz.prog 72 [slE Enc.str a1 q2, .v (.func (.func 73) #[] #[])] [] (Ret (B r3) []) := by
 unfold iI at H
 refine au Tryz.func72 rfl rfl ?_;show AW _ _ 9 _ _ _;refine af <| aa ?_;show AR _ _ _ _ _ [0] _;refine za rfl <| ag <| af ?_;obtain ⟨x4, e5, H⟩ := bL H;refine aa ?_;show AR _ _ _ _ _ [0, 1, 2, 3, 4] _;refine zS rfl (aj (av := slE _ _ _) rfl) <| zm rfl <| ao rfl rfl (aE rfl tv rfl (ql F a1 q2 x4 e5) ?_);refine zS rfl (dc rfl rfl) <| za rfl <| ag <| aI ?_;obtain rfl := ap H;exact And.intro rfl (Exists.intro _ (Exists.intro _ ⟨aH rfl (.refl _), aG [] rfl, rfl, rfl⟩))
set_option maxRecDepth 100000 in
set_option maxHeartbeats 1000000 in
theorem ud (F : Nat) (o1 : Nat) (a2 : List UInt8) (t3 : Nat) (a4 : List UInt8) (a5 : List UInt8) (a6 : List UInt8) (q7 : Option Nat) (r8 : List UInt8) (H : pU F a2 a4 a5 a6 = some r8) : ACalls Tryz.prog 77 [.pt o1 0, S a5, slE Enc.byte a6 q7] [.obj o1 [slE Enc.byte a2 (some t3), S a4], .tok t3 5] (fun e A' => e = .ret (.tup []) ∧ ∃ t9, A' = [.obj o1 [slE Enc.byte r8 (some t9), S a4], .tok t9 5]) := by
 unfold pU at H
 refine au Tryz.func77 rfl rfl ?_;show AW _ _ 42 _ _ _;refine af ?_;obtain ⟨x10, x11, e12, H⟩ := cA H;refine aa ?_;show AR _ _ _ _ _ [0, 1, 2, 3, 4, 5, 6, 7, 8, 9] _;refine zm rfl <| zS rfl (dh (zs := [.string ⟨#[]⟩, .string ⟨#[]⟩]) (ps := [(0, 1), (1, 1)]) (cs := [S ([67, 111, 110, 116, 101, 110, 116, 45, 84, 121, 112, 101] : List UInt8), S a5]) (by kernel_rfl) rfl rfl) <| zS rfl (dh (zs := [.string ⟨#[]⟩, .string ⟨#[]⟩]) (ps := [(0, 1), (1, 1)]) (cs := [S ni, S ([113, 117, 111, 116, 101, 100, 45, 112, 114, 105, 110, 116, 97, 98, 108, 101] : List UInt8)]) (by kernel_rfl) rfl rfl) <| zR rfl (kg (E := (aX Enc.str Enc.str)) (bytes := 32) (zs := [.string ⟨#[]⟩, .string ⟨#[]⟩]) (l := ([(([67, 111, 110, 116, 101, 110, 116, 45, 84, 121, 112, 101] : List UInt8), a5), (ni, ([113, 117, 111, 116, 101, 100, 45, 112, 114, 105, 110, 116, 97, 98, 108, 101] : List UInt8))] : List ((List UInt8) × List UInt8))) dL (by kernel_rfl) (by kernel_rfl) rfl rfl rfl rfl rfl) <| ao rfl rfl (aE rfl uS rfl (ue F ([(([67, 111, 110, 116, 101, 110, 116, 45, 84, 121, 112, 101] : List UInt8), a5), (ni, ([113, 117, 111, 116, 101, 100, 45, 112, 114, 105, 110, 116, 97, 98, 108, 101] : List UInt8))] : List ((List UInt8) × List UInt8)) none x10 x11 e12) ?_)
 refine zS rfl (aj (av := .tup _) rfl) <| zS rfl (aA (av := slE _ _ _) rfl rfl) <| zS rfl (aA (av := .v _) rfl rfl) <| zS rfl (aB (av := slE _ _ _) rfl) <| za rfl <| ag <| bj (X := (List UInt8) × Nat) (fun (y24, t25) => ⟨[(0, .pt o1 0), (2, slE Enc.byte a6 q7), (6, slE Enc.byte x10 none)], [], [.obj o1 [slE Enc.byte y24 (some t25), S a4], .tok t25 5]⟩) (fun (y24, t25) => jo a6 x10 y24 = some r8) ?_ ?_
 ·obtain ⟨g13, H⟩ := ax H;obtain ⟨x14, e15, H⟩ := bf H;obtain ⟨g16, H⟩ := ax H;obtain ⟨x17, e18, H⟩ := bf H;obtain ⟨g20, H⟩ := ax H;obtain ⟨x21, e22, H⟩ := bf H;refine bu (by kernel_rfl) ?_;show AI _ _ _ _ _ 15 (Array.replicate 15 false) _;refine zk 0 rfl (aj (av := .pt _ _) rfl) ?_;show AI _ _ _ _ _ _ #[true, false, false, false, false, false, false, false, false, false, false, false, false, false, false] _;refine zk 1 rfl (aj (av := .pt _ _) rfl) ?_;show AI _ _ _ _ _ _ #[true, true, false, false, false, false, false, false, false, false, false, false, false, false, false] _;refine zk 2 rfl (aq rfl) ?_;show AI _ _ _ _ _ _ #[true, true, true, false, false, false, false, false, false, false, false, false, false, false, false] _;refine zk 3 rfl (al (n := 0) (by kernel_rfl) rfl) ?_;show AI _ _ _ _ _ _ #[true, true, true, true, false, false, false, false, false, false, false, false, false, false, false] _;refine zk 5 rfl (aj (av := .pt _ _) rfl) ?_;show AI _ _ _ _ _ _ #[true, true, true, true, false, true, false, false, false, false, false, false, false, false, false] _;refine zk 6 rfl (aq rfl) ?_;show AI _ _ _ _ _ _ #[true, true, true, true, false, true, true, false, false, false, false, false, false, false, false] _;refine zk 7 rfl (al (n := 1) (by kernel_rfl) rfl) ?_;show AI _ _ _ _ _ _ #[true, true, true, true, false, true, true, true, false, false, false, false, false, false, false] _;refine dp (i := 4) (j := 8) (by kernel_rfl) rfl rfl rfl rfl ?_ ?_
  ·refine aR rfl (am (i := 0) ab rfl rfl rfl rfl) ?_;show AI _ _ _ _ _ _ #[true, true, true, true, true, true, true, true, false, false, false, false, false, false, false] _;refine aV (i := 8) (by kernel_rfl) rfl rfl <| aR rfl (am (i := 0) ac rfl rfl rfl rfl) ?_;show AI _ _ _ _ _ _ #[true, true, true, true, true, true, true, true, true, false, false, false, false, false, false] _;refine zk 9 rfl (bV rfl rfl g13 e15) ?_;show AI _ _ _ _ _ _ #[true, true, true, true, true, true, true, true, true, true, false, false, false, false, false] _;refine zk 10 rfl (bV rfl rfl g16 e18) ?_;show AI _ _ _ _ _ _ #[true, true, true, true, true, true, true, true, true, true, true, false, false, false, false] _;refine aV (i := 11) (by kernel_rfl) rfl rfl <| bW rfl (br (bytes := 1) 1 ab ac rfl (by kernel_rfl) rfl rfl rfl rfl g20 e22) ?_;rintro _ _ ⟨t19, rfl, rfl⟩;show AI _ _ _ _ _ _ #[true, true, true, true, true, true, true, true, true, true, true, true, false, false, false] _;refine zk 12 rfl (aq rfl) ?_;show AI _ _ _ _ _ _ #[true, true, true, true, true, true, true, true, true, true, true, true, true, false, false] _;refine zk 13 rfl (al (n := 0) (by kernel_rfl) rfl) ?_;show AI _ _ _ _ _ _ #[true, true, true, true, true, true, true, true, true, true, true, true, true, true, false] _;refine aV (i := 14) (by kernel_rfl) rfl rfl <| ci (aw (i := 0) (c := slE _ _ _) (by kernel_rfl) rfl rfl rfl rfl (ai rfl)) ?_
   show AI _ _ _ _ _ _ #[true, true, true, true, true, true, true, true, true, true, true, true, true, true, true] _;refine bz rfl ?_;exact Exists.intro (x21, t19) ⟨H, aO [0, 0] (.cons (.refl _) (.cons (.refl _) (.cons (.refl _) (.nil _)))) rfl⟩
  ·refine aR rfl (am (i := 0) ac rfl rfl rfl rfl) ?_;show AI _ _ _ _ _ _ #[true, true, true, true, false, true, true, true, true, false, false, false, false, false, false] _;refine zk 9 rfl (bV rfl rfl g13 e15) ?_;show AI _ _ _ _ _ _ #[true, true, true, true, false, true, true, true, true, true, false, false, false, false, false] _;refine zk 10 rfl (bV rfl rfl g16 e18) ?_;show AI _ _ _ _ _ _ #[true, true, true, true, false, true, true, true, true, true, true, false, false, false, false] _;refine aV (i := 4) (by kernel_rfl) rfl rfl <| aR rfl (am (i := 0) ab rfl rfl rfl rfl) ?_;show AI _ _ _ _ _ _ #[true, true, true, true, true, true, true, true, true, true, true, false, false, false, false] _;refine aV (i := 11) (by kernel_rfl) rfl rfl <| bW rfl (br (bytes := 1) 1 ab ac rfl (by kernel_rfl) rfl rfl rfl rfl g20 e22) ?_;rintro _ _ ⟨t23, rfl, rfl⟩;show AI _ _ _ _ _ _ #[true, true, true, true, true, true, true, true, true, true, true, true, false, false, false] _;refine zk 12 rfl (aq rfl) ?_;show AI _ _ _ _ _ _ #[true, true, true, true, true, true, true, true, true, true, true, true, true, false, false] _;refine zk 13 rfl (al (n := 0) (by kernel_rfl) rfl) ?_;show AI _ _ _ _ _ _ #[true, true, true, true, true, true, true, true, true, true, true, true, true, true, false] _;refine aV (i := 14) (by kernel_rfl) rfl rfl <| ci (aw (i := 0) (c := slE _ _ _) (by kernel_rfl) rfl rfl rfl rfl (ai rfl)) ?_
   show AI _ _ _ _ _ _ #[true, true, true, true, true, true, true, true, true, true, true, true, true, true, true] _;refine bz rfl ?_;exact Exists.intro (x21, t23) ⟨H, aO [0, 0] (.cons (.refl _) (.cons (.refl _) (.cons (.refl _) (.nil _)))) rfl⟩
 rintro ⟨y24, t25⟩ H;replace H : jo a6 x10 y24 = some r8 := H
 unfold jo at H
 obtain ⟨g28, H⟩ := ax H;obtain ⟨x29, e30, H⟩ := bf H;obtain ⟨g32, H⟩ := ax H;obtain ⟨x33, e34, H⟩ := bf H;obtain ⟨g36, H⟩ := ax H;obtain ⟨x37, e38, H⟩ := bf H;refine aa ?_;show AR _ _ _ _ _ [0, 1, 2, 3, 4, 5, 6, 7, 8, 9, 10, 11, 12] _;refine zS rfl (aj (av := .pt _ _) rfl) <| zS rfl (aj (av := .pt _ _) rfl) <| zS rfl (aq rfl) <| zS rfl (al (n := 0) (by kernel_rfl) rfl) <| zR rfl (am (i := 0) ab rfl rfl rfl rfl) <| zS rfl (aj (av := slE _ _ _) rfl) <| zX rfl (cy (E := Enc.byte) (bytes := 1) 1 ab ab rfl (by kernel_rfl) rfl rfl rfl rfl g28 e30) ?_;rintro _ _ ⟨t27, rfl, rfl⟩;refine zS rfl (aj (av := slE _ _ _) rfl) <| zX rfl (cy (E := Enc.byte) (bytes := 1) 1 ab ab rfl (by kernel_rfl) rfl rfl rfl rfl g32 e34) ?_;rintro _ _ ⟨t31, rfl, rfl⟩;refine zX rfl (br (bytes := 1) 1 ab ac rfl (by kernel_rfl) rfl rfl rfl rfl g36 e38) ?_;rintro _ _ ⟨t35, rfl, rfl⟩;refine zS rfl (aq rfl) <| zS rfl (al (n := 0) (by kernel_rfl) rfl) <| s0 rfl rfl (aw (i := 0) (c := slE _ _ _) (by kernel_rfl) rfl rfl rfl rfl (ai rfl)) <| ag ?_;obtain rfl := ap H;exact And.intro rfl (Exists.intro _ (Exists.intro _ ⟨bZ rfl, aG [0, 0] rfl, rfl, t35, rfl⟩))
set_option maxRecDepth 100000 in
set_option maxHeartbeats 1000000 in
theorem sp (F : Nat) (a1 : List (List UInt8)) (q2 : Option Nat) (a3 : List (List UInt8)) (q4 : Option Nat) (r5 : List UInt8) (r6 : List UInt8) (r7 : Int) (H : nJ F a1 a3 = some (r5, r6, r7)) : ACalls Tryz.prog 29 [slE Enc.str a1 q2, slE (Enc.sl Enc.byte) a3 q4] [] (Ret (.tup [slE Enc.byte r5 none, S r6, i64 r7]) []) := by
 unfold nJ at H
 refine au Tryz.func29 rfl rfl ?_;show AW _ _ 82 _ _ _;refine af <| aa ?_;show AR _ _ _ _ _ [0, 1, 2] _;refine za rfl <| za rfl <| za rfl <| ag <| af <| af ?_;obtain ⟨x11, e12, H⟩ := eG H;refine aa ?_;show AR _ _ _ _ _ [0, 1, 2, 3, 4, 5, 6, 7, 8, 9, 10, 11, 12, 13, 14, 15, 16, 17, 18] _;refine zS rfl (aj (av := slE _ _ _) rfl) <| zS rfl (aQ an rfl) <| zS rfl (aj (av := slE _ _ _) rfl) <| zS rfl (aQ bD rfl) <| zS rfl (cO rfl rfl) <| zm rfl <| aU (l := [10, 11, 12, 13, 14, 15, 16, 17, 18]) 23 (B ((!decide ((a1.length : Int) = (a3.length : Int))) || (decide ((a3.length : Int) = 0)))) (fun K => ?_) ?_
 ·rcases ak (!decide ((a1.length : Int) = (a3.length : Int))) with h8 | h8
  ·refine zF h8 rfl <| zF h8 rfl <| zF h8 rfl <| zS rfl (aF (av := .v _) rfl h8 rfl) ?_;exact K _ 3 _ (ay (fc h8)) rfl rfl
  ·refine zU h8 rfl (aj (av := slE _ _ _) rfl) <| zU h8 rfl (aQ bD rfl) <| zU h8 rfl (cl rfl rfl) <| zS rfl (aD (av := .v _) rfl h8 rfl) ?_;exact K _ 3 _ (ay (fe h8)) rfl rfl
 refine zm rfl <| aU (l := [15, 16, 17, 18]) 28 (B (((!decide ((a1.length : Int) = (a3.length : Int))) || (decide ((a3.length : Int) = 0))) || (decide (8 < (a3.length : Int))))) (fun K => ?_) ?_
 ·rcases ak ((!decide ((a1.length : Int) = (a3.length : Int))) || (decide ((a3.length : Int) = 0))) with h9 | h9
  ·refine zF h9 rfl <| zF h9 rfl <| zF h9 rfl <| zS rfl (aF (av := .v _) rfl h9 rfl) ?_;exact K _ 3 _ (ay (fc h9)) rfl rfl
  ·refine zU h9 rfl (aj (av := slE _ _ _) rfl) <| zU h9 rfl (aQ bD rfl) <| zU h9 rfl (cP rfl rfl) <| zS rfl (aD (av := .v _) rfl h9 rfl) ?_;exact K _ 3 _ (ay (fe h9)) rfl rfl
 refine zm rfl <| aU (l := []) 32 (B ((((!decide ((a1.length : Int) = (a3.length : Int))) || (decide ((a3.length : Int) = 0))) || (decide (8 < (a3.length : Int)))) || x11)) (fun K => ?_) ?_
 ·rcases ak (((!decide ((a1.length : Int) = (a3.length : Int))) || (decide ((a3.length : Int) = 0))) || (decide (8 < (a3.length : Int)))) with h10 | h10
  ·refine zF h10 rfl <| zF h10 rfl <| zS rfl (aF (av := .v _) rfl h10 rfl) ?_;exact K _ 2 _ (ay (fc h10)) rfl rfl
  ·refine zU h10 rfl (aj (av := slE _ _ _) rfl) <| zT h10 rfl (aE rfl uK rfl (ny F a1 q2 x11 (e12 (nf h10))) ?_);refine zS rfl (aD (av := .v _) rfl h10 rfl) ?_;exact K _ 2 _ (ay (fe h10)) rfl rfl
 refine ag <| az rfl (fun c13 => ?_) (fun c13 => ?_)
 ·replace H := aZ c13 H;refine af <| aa ?_;show AR _ _ _ _ _ [0, 1, 2] _;refine za rfl <| za rfl <| za rfl <| ag <| aI ?_;obtain ⟨rfl, rfl, rfl⟩ := oZ H;exact And.intro rfl (Exists.intro _ (Exists.intro _ ⟨cR rfl (.nil _) (.refl _) (.refl _), aG [] rfl, rfl, rfl⟩))
 ·replace H := ba c13 H;refine aC <| af <| aa ?_;show AR _ _ _ _ _ [0] _;refine za rfl <| ag ?_
  refine eh 7 1 32 rfl fun t14 => ?_
  show AW _ _ _ _ _ ⟨(7, slE (Enc.sl Enc.byte) [] (some t14)) :: _, _, _⟩;refine bj (X := (List (List UInt8)) × Nat) (fun (y31, t32) => ⟨[(0, slE Enc.str a1 q2), (7, slE (Enc.sl Enc.byte) y31 (some t32))], [], [.tok t32 32]⟩) (fun (y31, t32) => ie F a1 y31 = some (r5, r6, r7)) ?_ ?_
  ·refine af <| aa ?_;show AR _ _ _ _ _ [0, 1, 2] _;refine zS rfl (aj (av := slE _ _ _) rfl) <| zS rfl (aQ bD rfl) <| zm rfl <| ag <| aN <| cd (X := Nat × (List (List UInt8)) × Nat × Int) (fun (n19, y15, t16, y17) => ⟨[(0, slE Enc.str a1 q2), (7, slE (Enc.sl Enc.byte) y15 (some t16)), (33, slE (Enc.sl Enc.byte) a3 q4), (34, i64 (a3.length : Int)), (35, i64 y17)], [], [.tok t16 32]⟩) (fun (n19, y15, t16, y17) => ka F a1 a3 n19 (y15, y17) = some (r5, r6, r7)) (fun (n19, y15, t16, y17) => n19) (F, [], t14, 0) H (aO [0] (.cons (.refl _) (.cons (.refl _) (.cons (.refl _) (.cons (.refl _) (.cons (.refl _) (.nil _)))))) rfl) ?_;rintro ⟨n19, y15, t16, y17⟩ H;obtain ⟨n19, rfl, H⟩ := cG H;replace H : kc F a1 a3 (ka F a1 a3 n19) y15 y17 = some (r5, r6, r7) := H
   unfold kc at H
   refine af <| aa ?_;show AR _ _ _ _ _ [0] _;refine zS rfl (bx rfl rfl) <| ag <| af <| az rfl (fun c20 => ?_) (fun c20 => ?_)
   ·replace H := aZ c20 H;refine aC <| af <| aN <| af ?_;obtain ⟨g21, H⟩ := ax H;obtain ⟨x22, e23, H⟩ := bf H;refine aa ?_;show AR _ _ _ _ _ [0, 1, 2] _;refine zS rfl (co (E := (Enc.sl Enc.byte)) bD (by kernel_rfl) rfl rfl g21 e23) <| zS rfl (aJ ab rfl rfl) <| zS rfl (aB (av := slE _ _ _) rfl) <| ag ?_;obtain ⟨x24, e25, H⟩ := bL H;obtain ⟨g27, H⟩ := ax H;obtain ⟨x28, e29, H⟩ := bf H;refine aa ?_;show AR _ _ _ _ _ [0, 1, 2, 3, 4, 5] _;refine zS rfl (aj (av := slE _ _ _) rfl) <| zS rfl (aj (av := slE _ _ _) rfl) <| ao rfl rfl (aE rfl uH rfl (sk F x22 none x24 e25) ?_);refine zR rfl (bI (E := (Enc.sl Enc.byte)) (bytes := 24) (xs := [.tmp 41]) (l := ([x24] : List (List UInt8))) bD (by kernel_rfl) rfl rfl (by decide) rfl rfl) <| zX rfl (cy (E := (Enc.sl Enc.byte)) (bytes := 24) 0 bD bD rfl (by kernel_rfl) rfl rfl rfl rfl g27 e29) ?_;rintro _ _ ⟨t26, rfl, rfl⟩;refine zS rfl (aB (av := slE _ _ _) rfl) <| ag ?_;obtain ⟨g30, H⟩ := ax H;refine aa ?_;show AR _ _ _ _ _ [0, 1] _;refine zS rfl (bn rfl rfl g30) <| zm rfl <| ag ?_;exact Exists.intro (n19, x28, t26, y17 + 1) ⟨H, Nat.lt_succ_self _, aO [0] (.cons (.refl _) (.cons (.refl _) (.cons (.refl _) (.cons (.refl _) (.cons (.refl _) (.nil _)))))) rfl⟩
   ·replace H := ba c20 H;refine bR ?_;exact Exists.intro (y15, t16) ⟨H, aO [0] (.cons (.refl _) (.cons (.refl _) (.nil _))) rfl⟩
  rintro ⟨y31, t32⟩ H;replace H : ie F a1 y31 = some (r5, r6, r7) := H
  unfold ie at H
  refine af ?_;obtain ⟨x34, e35, H⟩ := bL H;refine aa ?_;show AR _ _ _ _ _ [0, 1, 2, 3, 4] _;refine zS rfl (aj (av := slE _ _ _) rfl) <| ao rfl rfl (aE rfl uG rfl (oO F y31 (some t32) x34 e35) ?_);refine zS rfl (dh (zs := [.slice none 0 0, .string ⟨#[]⟩]) (ps := [(0, 1), (1, 1)]) (cs := [ah, S x34]) (by kernel_rfl) rfl rfl) <| zX rfl (pb rfl (.inr ⟨_, rfl⟩)) ?_;rintro _ _ ⟨o36, rfl, rfl⟩;refine zS rfl (aB (av := .pt _ _) rfl) <| ag ?_
  refine dP 0 0 1 5 rfl rfl fun t37 => ?_
  show AW _ _ _ _ _ ⟨_, _, [.tok t37 5, .obj o36 [slE Enc.byte [] (some t37), S x34], .tok t32 32]⟩;refine af <| aa ?_;show AR _ _ _ _ _ [0, 1, 2] _;refine zS rfl (aj (av := .pt _ _) rfl) <| zS rfl (ii rfl rfl) <| zS rfl (aB (av := .fn _ _ _) rfl) <| ag <| bj (X := (List UInt8) × Nat) (fun (y54, t55) => ⟨[(10, .pt o36 0)], [], [.obj o36 [slE Enc.byte y54 (some t55), S x34], .tok t55 5]⟩) (fun (y54, t55) => ig x34 y54 = some (r5, r6, r7)) ?_ ?_
  ·refine af <| aa ?_;show AR _ _ _ _ _ [0, 1, 2] _;refine zS rfl (aj (av := slE _ _ _) rfl) <| zS rfl (aQ bD rfl) <| zm rfl <| ag <| aN <| cd (X := Nat × Int × (List UInt8) × Nat) (fun (n42, y38, y39, t40) => ⟨[(0, slE Enc.str a1 q2), (10, .pt o36 0), (11, .fn (.func 77) [.pt o36 0] []), (51, slE (Enc.sl Enc.byte) y31 (some t32)), (52, i64 (y31.length : Int)), (53, i64 y38)], [], [.obj o36 [slE Enc.byte y39 (some t40), S x34], .tok t32 32, .tok t40 5]⟩) (fun (n42, y38, y39, t40) => kb F a1 y31 x34 n42 (y38, y39) = some (r5, r6, r7)) (fun (n42, y38, y39, t40) => n42) (F, 0, [], t37) H (aO [1, 1, 0] (.cons (.refl _) (.cons (.refl _) (.cons (.refl _) (.cons (.refl _) (.cons (.refl _) (.cons (.refl _) (.nil _))))))) rfl) ?_;rintro ⟨n42, y38, y39, t40⟩ H;obtain ⟨n42, rfl, H⟩ := cG H;replace H : kd F a1 y31 x34 (kb F a1 y31 x34 n42) y38 y39 = some (r5, r6, r7) := H
   unfold kd at H
   refine af <| aa ?_;show AR _ _ _ _ _ [0] _;refine zS rfl (bx rfl rfl) <| ag <| af <| az rfl (fun c43 => ?_) (fun c43 => ?_)
   ·replace H := aZ c43 H;refine aC <| af <| aN <| af ?_;obtain ⟨g44, H⟩ := ax H;obtain ⟨x45, e46, H⟩ := bf H;refine aa ?_;show AR _ _ _ _ _ [0, 1, 2, 3, 4] _;refine zm rfl <| zS rfl (co (E := (Enc.sl Enc.byte)) bD (by kernel_rfl) rfl rfl g44 e46) <| zS rfl (aJ ab rfl rfl) <| za rfl <| zS rfl (aB (av := slE _ _ _) rfl) <| ag ?_;obtain ⟨g47, H⟩ := ax H;obtain ⟨x48, e49, H⟩ := bf H;obtain ⟨x50, e51, H⟩ := bL H;refine aa ?_;show AR _ _ _ _ _ [0, 1, 2, 3, 4, 5, 6] _;refine zS rfl (aj (av := .fn _ _ _) rfl) <| zS rfl (aj (av := slE _ _ _) rfl) <| zm rfl <| zS rfl (co (E := Enc.str) an (by kernel_rfl) rfl rfl g47 e49) <| zS rfl (aJ ac rfl rfl) <| zS rfl (aj (av := slE _ _ _) rfl) <| ao rfl rfl (AO.callFAt [0, 1] rfl (.inl rfl) uF rfl (ud F o36 y39 t40 x34 x48 x45 none x50 e51) rfl (fun c A' h => by cases h.1) ?_)
    rintro av A' ⟨h, t52, rfl⟩; cases h
    refine ag ?_;obtain ⟨g53, H⟩ := ax H;refine aa ?_;show AR _ _ _ _ _ [0, 1] _;refine zS rfl (bn rfl rfl g53) <| zm rfl <| ag ?_;exact Exists.intro (n42, y38 + 1, x50, t52) ⟨H, Nat.lt_succ_self _, aO [0, 1, 0] (.cons (.refl _) (.cons (.refl _) (.cons (.refl _) (.cons (.refl _) (.cons (.refl _) (.cons (.refl _) (.nil _))))))) rfl⟩
   ·replace H := ba c43 H;refine bR ?_;exact Exists.intro (y39, t40) ⟨H, aO [0, 1] (.cons (.refl _) (.nil _)) rfl⟩
  rintro ⟨y54, t55⟩ H;replace H : ig x34 y54 = some (r5, r6, r7) := H
  unfold ig at H
  refine af ?_;obtain ⟨g57, H⟩ := ax H;obtain ⟨x58, e59, H⟩ := bf H;obtain ⟨g60, H⟩ := ax H;obtain ⟨x61, e62, H⟩ := bf H;obtain ⟨g63, H⟩ := ax H;obtain ⟨x64, e65, H⟩ := bf H;obtain ⟨g67, H⟩ := ax H;obtain ⟨x68, e69, H⟩ := bf H;refine bu (by kernel_rfl) ?_;show AI _ _ _ _ _ 19 (Array.replicate 19 false) _;refine zk 0 rfl (aj (av := .pt _ _) rfl) ?_;show AI _ _ _ _ _ _ #[true, false, false, false, false, false, false, false, false, false, false, false, false, false, false, false, false, false, false] _;refine zk 1 rfl (aq rfl) ?_;show AI _ _ _ _ _ _ #[true, true, false, false, false, false, false, false, false, false, false, false, false, false, false, false, false, false, false] _;refine zk 2 rfl (al (n := 0) (by kernel_rfl) rfl) ?_;show AI _ _ _ _ _ _ #[true, true, true, false, false, false, false, false, false, false, false, false, false, false, false, false, false, false, false] _;refine zk 4 rfl (aj (av := .pt _ _) rfl) ?_;show AI _ _ _ _ _ _ #[true, true, true, false, true, false, false, false, false, false, false, false, false, false, false, false, false, false, false] _;refine zk 5 rfl (aq rfl) ?_;show AI _ _ _ _ _ _ #[true, true, true, false, true, true, false, false, false, false, false, false, false, false, false, false, false, false, false] _;refine zk 6 rfl (al (n := 1) (by kernel_rfl) rfl) ?_;show AI _ _ _ _ _ _ #[true, true, true, false, true, true, true, false, false, false, false, false, false, false, false, false, false, false, false] _
  refine zk 12 rfl (aj (av := .pt _ _) rfl) ?_;show AI _ _ _ _ _ _ #[true, true, true, false, true, true, true, false, false, false, false, false, true, false, false, false, false, false, false] _;refine zk 13 rfl (aq rfl) ?_;show AI _ _ _ _ _ _ #[true, true, true, false, true, true, true, false, false, false, false, false, true, true, false, false, false, false, false] _;refine zk 14 rfl (al (n := 1) (by kernel_rfl) rfl) ?_;show AI _ _ _ _ _ _ #[true, true, true, false, true, true, true, false, false, false, false, false, true, true, true, false, false, false, false] _;refine tW (i := 3) (j := 7) (l := 15) (by kernel_rfl) rfl rfl rfl rfl rfl rfl ?_ ?_ ?_
  ·refine aR rfl (am (i := 0) ab rfl rfl rfl rfl) ?_;show AI _ _ _ _ _ _ #[true, true, true, true, true, true, true, false, false, false, false, false, true, true, true, false, false, false, false] _;refine dp (i := 7) (j := 15) (by kernel_rfl) rfl rfl rfl rfl ?_ ?_
   ·refine aR rfl (am (i := 0) ac rfl rfl rfl rfl) ?_;show AI _ _ _ _ _ _ #[true, true, true, true, true, true, true, true, false, false, false, false, true, true, true, false, false, false, false] _;refine zk 8 rfl (bV rfl rfl g57 e59) ?_;show AI _ _ _ _ _ _ #[true, true, true, true, true, true, true, true, true, false, false, false, true, true, true, false, false, false, false] _;refine zk 9 rfl (bV rfl rfl g60 e62) ?_;show AI _ _ _ _ _ _ #[true, true, true, true, true, true, true, true, true, true, false, false, true, true, true, false, false, false, false] _;refine zk 10 rfl (bV rfl rfl g63 e65) ?_;show AI _ _ _ _ _ _ #[true, true, true, true, true, true, true, true, true, true, true, false, true, true, true, false, false, false, false] _;refine dp (i := 11) (j := 15) (by kernel_rfl) rfl rfl rfl rfl ?_ ?_
    ·refine bW rfl (br (bytes := 1) 1 ab ac rfl (by kernel_rfl) rfl rfl rfl rfl g67 e69) ?_;rintro _ _ ⟨t66, rfl, rfl⟩;show AI _ _ _ _ _ _ #[true, true, true, true, true, true, true, true, true, true, true, true, true, true, true, false, false, false, false] _;refine zk 16 rfl (aB (av := slE _ _ _) rfl) ?_;show AI _ _ _ _ _ _ #[true, true, true, true, true, true, true, true, true, true, true, true, true, true, true, false, true, false, false] _;refine aV (i := 15) (by kernel_rfl) rfl rfl <| aR rfl (am (i := 0) ac rfl rfl rfl rfl) ?_;show AI _ _ _ _ _ _ #[true, true, true, true, true, true, true, true, true, true, true, true, true, true, true, true, true, false, false] _;refine zk 17 rfl (asg rfl) ?_;show AI _ _ _ _ _ _ #[true, true, true, true, true, true, true, true, true, true, true, true, true, true, true, true, true, true, false] _;refine zk 18 rfl (asg rfl) ?_;show AI _ _ _ _ _ _ #[true, true, true, true, true, true, true, true, true, true, true, true, true, true, true, true, true, true, true] _;refine bz rfl <| aI ?_;obtain ⟨rfl, rfl, rfl⟩ := oZ H;exact And.intro rfl (Exists.intro _ (Exists.intro _ ⟨cR rfl (.tok _ _ _) (.refl _) (.refl _), aG [] rfl, rfl, rfl⟩))
    ·refine aR rfl (am (i := 0) ac rfl rfl rfl rfl) ?_;show AI _ _ _ _ _ _ #[true, true, true, true, true, true, true, true, true, true, true, false, true, true, true, true, false, false, false] _;refine aV (i := 11) (by kernel_rfl) rfl rfl <| bW rfl (br (bytes := 1) 1 ab ac rfl (by kernel_rfl) rfl rfl rfl rfl g67 e69) ?_;rintro _ _ ⟨t70, rfl, rfl⟩;show AI _ _ _ _ _ _ #[true, true, true, true, true, true, true, true, true, true, true, true, true, true, true, true, false, false, false] _;refine zk 16 rfl (aB (av := slE _ _ _) rfl) ?_;show AI _ _ _ _ _ _ #[true, true, true, true, true, true, true, true, true, true, true, true, true, true, true, true, true, false, false] _;refine zk 17 rfl (asg rfl) ?_;show AI _ _ _ _ _ _ #[true, true, true, true, true, true, true, true, true, true, true, true, true, true, true, true, true, true, false] _;refine zk 18 rfl (asg rfl) ?_;show AI _ _ _ _ _ _ #[true, true, true, true, true, true, true, true, true, true, true, true, true, true, true, true, true, true, true] _;refine bz rfl <| aI ?_;obtain ⟨rfl, rfl, rfl⟩ := oZ H;exact And.intro rfl (Exists.intro _ (Exists.intro _ ⟨cR rfl (.tok _ _ _) (.refl _) (.refl _), aG [] rfl, rfl, rfl⟩))
   ·refine aR rfl (am (i := 0) ac rfl rfl rfl rfl) ?_;show AI _ _ _ _ _ _ #[true, true, true, true, true, true, true, false, false, false, false, false, true, true, true, true, false, false, false] _;refine aV (i := 7) (by kernel_rfl) rfl rfl <| aR rfl (am (i := 0) ac rfl rfl rfl rfl) ?_;show AI _ _ _ _ _ _ #[true, true, true, true, true, true, true, true, false, false, false, false, true, true, true, true, false, false, false] _;refine zk 8 rfl (bV rfl rfl g57 e59) ?_;show AI _ _ _ _ _ _ #[true, true, true, true, true, true, true, true, true, false, false, false, true, true, true, true, false, false, false] _;refine zk 9 rfl (bV rfl rfl g60 e62) ?_;show AI _ _ _ _ _ _ #[true, true, true, true, true, true, true, true, true, true, false, false, true, true, true, true, false, false, false] _;refine zk 10 rfl (bV rfl rfl g63 e65) ?_;show AI _ _ _ _ _ _ #[true, true, true, true, true, true, true, true, true, true, true, false, true, true, true, true, false, false, false] _;refine aV (i := 11) (by kernel_rfl) rfl rfl <| bW rfl (br (bytes := 1) 1 ab ac rfl (by kernel_rfl) rfl rfl rfl rfl g67 e69) ?_;rintro _ _ ⟨t71, rfl, rfl⟩;show AI _ _ _ _ _ _ #[true, true, true, true, true, true, true, true, true, true, true, true, true, true, true, true, false, false, false] _;refine zk 16 rfl (aB (av := slE _ _ _) rfl) ?_;show AI _ _ _ _ _ _ #[true, true, true, true, true, true, true, true, true, true, true, true, true, true, true, true, true, false, false] _
    refine zk 17 rfl (asg rfl) ?_;show AI _ _ _ _ _ _ #[true, true, true, true, true, true, true, true, true, true, true, true, true, true, true, true, true, true, false] _;refine zk 18 rfl (asg rfl) ?_;show AI _ _ _ _ _ _ #[true, true, true, true, true, true, true, true, true, true, true, true, true, true, true, true, true, true, true] _;refine bz rfl <| aI ?_;obtain ⟨rfl, rfl, rfl⟩ := oZ H;exact And.intro rfl (Exists.intro _ (Exists.intro _ ⟨cR rfl (.tok _ _ _) (.refl _) (.refl _), aG [] rfl, rfl, rfl⟩))
  ·refine aR rfl (am (i := 0) ac rfl rfl rfl rfl) ?_;show AI _ _ _ _ _ _ #[true, true, true, false, true, true, true, true, false, false, false, false, true, true, true, false, false, false, false] _;refine zk 8 rfl (bV rfl rfl g57 e59) ?_;show AI _ _ _ _ _ _ #[true, true, true, false, true, true, true, true, true, false, false, false, true, true, true, false, false, false, false] _;refine zk 9 rfl (bV rfl rfl g60 e62) ?_;show AI _ _ _ _ _ _ #[true, true, true, false, true, true, true, true, true, true, false, false, true, true, true, false, false, false, false] _;refine zk 10 rfl (bV rfl rfl g63 e65) ?_;show AI _ _ _ _ _ _ #[true, true, true, false, true, true, true, true, true, true, true, false, true, true, true, false, false, false, false] _;refine dp (i := 3) (j := 15) (by kernel_rfl) rfl rfl rfl rfl ?_ ?_
   ·refine aR rfl (am (i := 0) ab rfl rfl rfl rfl) ?_;show AI _ _ _ _ _ _ #[true, true, true, true, true, true, true, true, true, true, true, false, true, true, true, false, false, false, false] _;refine dp (i := 11) (j := 15) (by kernel_rfl) rfl rfl rfl rfl ?_ ?_
    ·refine bW rfl (br (bytes := 1) 1 ab ac rfl (by kernel_rfl) rfl rfl rfl rfl g67 e69) ?_;rintro _ _ ⟨t72, rfl, rfl⟩;show AI _ _ _ _ _ _ #[true, true, true, true, true, true, true, true, true, true, true, true, true, true, true, false, false, false, false] _;refine zk 16 rfl (aB (av := slE _ _ _) rfl) ?_;show AI _ _ _ _ _ _ #[true, true, true, true, true, true, true, true, true, true, true, true, true, true, true, false, true, false, false] _;refine aV (i := 15) (by kernel_rfl) rfl rfl <| aR rfl (am (i := 0) ac rfl rfl rfl rfl) ?_;show AI _ _ _ _ _ _ #[true, true, true, true, true, true, true, true, true, true, true, true, true, true, true, true, true, false, false] _;refine zk 17 rfl (asg rfl) ?_;show AI _ _ _ _ _ _ #[true, true, true, true, true, true, true, true, true, true, true, true, true, true, true, true, true, true, false] _;refine zk 18 rfl (asg rfl) ?_;show AI _ _ _ _ _ _ #[true, true, true, true, true, true, true, true, true, true, true, true, true, true, true, true, true, true, true] _;refine bz rfl <| aI ?_;obtain ⟨rfl, rfl, rfl⟩ := oZ H;exact And.intro rfl (Exists.intro _ (Exists.intro _ ⟨cR rfl (.tok _ _ _) (.refl _) (.refl _), aG [] rfl, rfl, rfl⟩))
    ·refine aR rfl (am (i := 0) ac rfl rfl rfl rfl) ?_;show AI _ _ _ _ _ _ #[true, true, true, true, true, true, true, true, true, true, true, false, true, true, true, true, false, false, false] _;refine aV (i := 11) (by kernel_rfl) rfl rfl <| bW rfl (br (bytes := 1) 1 ab ac rfl (by kernel_rfl) rfl rfl rfl rfl g67 e69) ?_;rintro _ _ ⟨t73, rfl, rfl⟩;show AI _ _ _ _ _ _ #[true, true, true, true, true, true, true, true, true, true, true, true, true, true, true, true, false, false, false] _;refine zk 16 rfl (aB (av := slE _ _ _) rfl) ?_;show AI _ _ _ _ _ _ #[true, true, true, true, true, true, true, true, true, true, true, true, true, true, true, true, true, false, false] _;refine zk 17 rfl (asg rfl) ?_;show AI _ _ _ _ _ _ #[true, true, true, true, true, true, true, true, true, true, true, true, true, true, true, true, true, true, false] _;refine zk 18 rfl (asg rfl) ?_;show AI _ _ _ _ _ _ #[true, true, true, true, true, true, true, true, true, true, true, true, true, true, true, true, true, true, true] _;refine bz rfl <| aI ?_;obtain ⟨rfl, rfl, rfl⟩ := oZ H;exact And.intro rfl (Exists.intro _ (Exists.intro _ ⟨cR rfl (.tok _ _ _) (.refl _) (.refl _), aG [] rfl, rfl, rfl⟩))
   ·refine aR rfl (am (i := 0) ac rfl rfl rfl rfl) ?_;show AI _ _ _ _ _ _ #[true, true, true, false, true, true, true, true, true, true, true, false, true, true, true, true, false, false, false] _;refine aV (i := 3) (by kernel_rfl) rfl rfl <| aR rfl (am (i := 0) ab rfl rfl rfl rfl) ?_;show AI _ _ _ _ _ _ #[true, true, true, true, true, true, true, true, true, true, true, false, true, true, true, true, false, false, false] _;refine aV (i := 11) (by kernel_rfl) rfl rfl <| bW rfl (br (bytes := 1) 1 ab ac rfl (by kernel_rfl) rfl rfl rfl rfl g67 e69) ?_;rintro _ _ ⟨t74, rfl, rfl⟩;show AI _ _ _ _ _ _ #[true, true, true, true, true, true, true, true, true, true, true, true, true, true, true, true, false, false, false] _;refine zk 16 rfl (aB (av := slE _ _ _) rfl) ?_;show AI _ _ _ _ _ _ #[true, true, true, true, true, true, true, true, true, true, true, true, true, true, true, true, true, false, false] _;refine zk 17 rfl (asg rfl) ?_;show AI _ _ _ _ _ _ #[true, true, true, true, true, true, true, true, true, true, true, true, true, true, true, true, true, true, false] _;refine zk 18 rfl (asg rfl) ?_;show AI _ _ _ _ _ _ #[true, true, true, true, true, true, true, true, true, true, true, true, true, true, true, true, true, true, true] _;refine bz rfl <| aI ?_;obtain ⟨rfl, rfl, rfl⟩ := oZ H;exact And.intro rfl (Exists.intro _ (Exists.intro _ ⟨cR rfl (.tok _ _ _) (.refl _) (.refl _), aG [] rfl, rfl, rfl⟩))
  ·refine aR rfl (am (i := 0) ac rfl rfl rfl rfl) ?_;show AI _ _ _ _ _ _ #[true, true, true, false, true, true, true, false, false, false, false, false, true, true, true, true, false, false, false] _;refine dp (i := 3) (j := 7) (by kernel_rfl) rfl rfl rfl rfl ?_ ?_
   ·refine aR rfl (am (i := 0) ab rfl rfl rfl rfl) ?_;show AI _ _ _ _ _ _ #[true, true, true, true, true, true, true, false, false, false, false, false, true, true, true, true, false, false, false] _;refine aV (i := 7) (by kernel_rfl) rfl rfl <| aR rfl (am (i := 0) ac rfl rfl rfl rfl) ?_;show AI _ _ _ _ _ _ #[true, true, true, true, true, true, true, true, false, false, false, false, true, true, true, true, false, false, false] _;refine zk 8 rfl (bV rfl rfl g57 e59) ?_;show AI _ _ _ _ _ _ #[true, true, true, true, true, true, true, true, true, false, false, false, true, true, true, true, false, false, false] _;refine zk 9 rfl (bV rfl rfl g60 e62) ?_;show AI _ _ _ _ _ _ #[true, true, true, true, true, true, true, true, true, true, false, false, true, true, true, true, false, false, false] _;refine zk 10 rfl (bV rfl rfl g63 e65) ?_;show AI _ _ _ _ _ _ #[true, true, true, true, true, true, true, true, true, true, true, false, true, true, true, true, false, false, false] _;refine aV (i := 11) (by kernel_rfl) rfl rfl <| bW rfl (br (bytes := 1) 1 ab ac rfl (by kernel_rfl) rfl rfl rfl rfl g67 e69) ?_;rintro _ _ ⟨t75, rfl, rfl⟩;show AI _ _ _ _ _ _ #[true, true, true, true, true, true, true, true, true, true, true, true, true, true, true, true, false, false, false] _;refine zk 16 rfl (aB (av := slE _ _ _) rfl) ?_;show AI _ _ _ _ _ _ #[true, true, true, true, true, true, true, true, true, true, true, true, true, true, true, true, true, false, false] _
    refine zk 17 rfl (asg rfl) ?_;show AI _ _ _ _ _ _ #[true, true, true, true, true, true, true, true, true, true, true, true, true, true, true, true, true, true, false] _;refine zk 18 rfl (asg rfl) ?_;show AI _ _ _ _ _ _ #[true, true, true, true, true, true, true, true, true, true, true, true, true, true, true, true, true, true, true] _;refine bz rfl <| aI ?_;obtain ⟨rfl, rfl, rfl⟩ := oZ H;exact And.intro rfl (Exists.intro _ (Exists.intro _ ⟨cR rfl (.tok _ _ _) (.refl _) (.refl _), aG [] rfl, rfl, rfl⟩))
   ·refine aR rfl (am (i := 0) ac rfl rfl rfl rfl) ?_;show AI _ _ _ _ _ _ #[true, true, true, false, true, true, true, true, false, false, false, false, true, true, true, true, false, false, false] _;refine zk 8 rfl (bV rfl rfl g57 e59) ?_;show AI _ _ _ _ _ _ #[true, true, true, false, true, true, true, true, true, false, false, false, true, true, true, true, false, false, false] _;refine zk 9 rfl (bV rfl rfl g60 e62) ?_;show AI _ _ _ _ _ _ #[true, true, true, false, true, true, true, true, true, true, false, false, true, true, true, true, false, false, false] _;refine zk 10 rfl (bV rfl rfl g63 e65) ?_;show AI _ _ _ _ _ _ #[true, true, true, false, true, true, true, true, true, true, true, false, true, true, true, true, false, false, false] _;refine aV (i := 3) (by kernel_rfl) rfl rfl <| aR rfl (am (i := 0) ab rfl rfl rfl rfl) ?_;show AI _ _ _ _ _ _ #[true, true, true, true, true, true, true, true, true, true, true, false, true, true, true, true, false, false, false] _;refine aV (i := 11) (by kernel_rfl) rfl rfl <| bW rfl (br (bytes := 1) 1 ab ac rfl (by kernel_rfl) rfl rfl rfl rfl g67 e69) ?_;rintro _ _ ⟨t76, rfl, rfl⟩;show AI _ _ _ _ _ _ #[true, true, true, true, true, true, true, true, true, true, true, true, true, true, true, true, false, false, false] _;refine zk 16 rfl (aB (av := slE _ _ _) rfl) ?_;show AI _ _ _ _ _ _ #[true, true, true, true, true, true, true, true, true, true, true, true, true, true, true, true, true, false, false] _
    refine zk 17 rfl (asg rfl) ?_;show AI _ _ _ _ _ _ #[true, true, true, true, true, true, true, true, true, true, true, true, true, true, true, true, true, true, false] _;refine zk 18 rfl (asg rfl) ?_;show AI _ _ _ _ _ _ #[true, true, true, true, true, true, true, true, true, true, true, true, true, true, true, true, true, true, true] _;refine bz rfl <| aI ?_;obtain ⟨rfl, rfl, rfl⟩ := oZ H;exact And.intro rfl (Exists.intro _ (Exists.intro _ ⟨cR rfl (.tok _ _ _) (.refl _) (.refl _), aG [] rfl, rfl, rfl⟩))
end Go.Proofs.YtjegcifofddgbaaGreatDoor
namespace Go.Pv
def rZ : List UInt8 := [116, 101, 120, 116, 47, 112, 108, 97, 105, 110, 59, 32, 99, 104, 97, 114, 115, 101, 116, 61, 117, 116, 102, 45, 56]
def rY : List UInt8 := [116, 101, 120, 116, 47, 104, 116, 109, 108, 59, 32, 99, 104, 97, 114, 115, 101, 116, 61, 117, 116, 102, 45, 56]
def digb_k3 : List UInt8 := [109, 117, 108, 116, 105, 112, 97, 114, 116, 47, 97, 108, 116, 101, 114, 110, 97, 116, 105, 118, 101, 59, 32, 98, 111, 117, 110, 100, 97, 114, 121, 61, 34]
def lm (F : Nat) (a1 : Int) (a2 : Int) : Option ((List UInt8)) :=
grd (okI a1) <|
lt (Go.Lib.itoa a1) fun x5 =>
grd (bq (([68, 105, 103, 101, 115, 116, 32] : List UInt8).length + x5.length)) <|
lt (([68, 105, 103, 101, 115, 116, 32] : List UInt8) ++ x5) fun x8 =>
grd (bq (x8.length + ([58, 32] : List UInt8).length)) <|
lt (x8 ++ ([58, 32] : List UInt8)) fun x11 =>
grd (okI a2) <|
lt (Go.Lib.itoa a2) fun x14 =>
grd (bq (x11.length + x14.length)) <|
lt (x11 ++ x14) fun x17 =>
bif decide (a2 = 1) then
  grd (bq (x17.length + ([32, 101, 110, 116, 114, 121] : List UInt8).length)) <|
  lt (x17 ++ ([32, 101, 110, 116, 114, 121] : List UInt8)) fun x21 =>
  some x21
else
  grd (bq (x17.length + ([32, 101, 110, 116, 114, 105, 101, 115] : List UInt8).length)) <|
  lt (x17 ++ ([32, 101, 110, 116, 114, 105, 101, 115] : List UInt8)) fun x24 =>
  some x24
def nZ (F : Nat) (a1 : List UInt8) (a2 : Int) (a3 : Int) (a4 : Int) (a5 : Int) (a6 : List (Int × Int × (List UInt8) × (List UInt8) × (List UInt8) × (List UInt8) × Int)) : Option ((List UInt8) × Int) :=
ff (gW F a2 a3) fun x10 x11 =>
bif !decide (x11 = 0) then
  some ([], x11)
else
  bnd (lr F a1) fun x14 =>
  bif !x14 then
    some ([], 1)
  else
    bif decide ((a6.length : Int) = 0) then
      some ([], 3)
    else
      ff (mm F a4 a5) fun x18 x19 =>
      bif !decide (x19 = 0) then
        some ([], x19)
      else
        bnd (nq F a6) fun x22 =>
        grd (bq x22.length) <|
        bnd (nr F a6) fun x26 =>
        grd (bq x26.length) <|
        bnd3 (nJ F ([rZ, rY] : List (List UInt8)) ([x22, x26] : List (List UInt8))) fun x30 x31 x32 =>
        bif !decide (x32 = 0) then
          some ([], x32)
        else
          bnd (lm F a3 (a6.length : Int)) fun x35 =>
          grd (bq (digb_k3.length + x31.length)) <|
          lt (digb_k3 ++ x31) fun x38 =>
          grd (bq (x38.length + ([34] : List UInt8).length)) <|
          lt (x38 ++ ([34] : List UInt8)) fun x41 =>
          ff (jV F ([(([70, 114, 111, 109] : List UInt8), ([100, 105, 103, 101, 115, 116, 64, 109, 97, 105, 108, 99, 111, 97, 99, 104] : List UInt8)), (([84, 111] : List UInt8), a1), (([83, 117, 98, 106, 101, 99, 116] : List UInt8), x35), (([68, 97, 116, 101] : List UInt8), x18), (([77, 101, 115, 115, 97, 103, 101, 45, 73, 68] : List UInt8), x10), (([77, 73, 77, 69, 45, 86, 101, 114, 115, 105, 111, 110] : List UInt8), ([49, 46, 48] : List UInt8)), (([67, 111, 110, 116, 101, 110, 116, 45, 84, 121, 112, 101] : List UInt8), x41)] : List ((List UInt8) × List UInt8))) fun x43 x44 =>
          grd (bq (x43.length + x30.length)) <|
          lt (x43 ++ x30) fun x50 =>
          some (x50, x44)
end Go.Pv
namespace Go.Proofs.YtjegcifofddgbaaGreatDoor
open Go.RowKit Go.Av Go.Pv
theorem wM : ∀ (args : Array Value) (w : World), (callFunc 11 args).run Tryz.prog w = .ok (.enter 11 args) w := fun _ _ => by kernel_rfl
theorem wI : ∀ (args : Array Value) (w : World), (callFunc 17 args).run Tryz.prog w = .ok (.enter 17 args) w := fun _ _ => by kernel_rfl
theorem wE : ∀ (args : Array Value) (w : World), (callFunc 21 args).run Tryz.prog w = .ok (.enter 21 args) w := fun _ _ => by kernel_rfl
theorem wr : ∀ (args : Array Value) (w : World), (callFunc 27 args).run Tryz.prog w = .ok (.enter 27 args) w := fun _ _ => by kernel_rfl
theorem wq : ∀ (args : Array Value) (w : World), (callFunc 28 args).run Tryz.prog w = .ok (.enter 28 args) w := fun _ _ => by kernel_rfl
theorem wp : ∀ (args : Array Value) (w : World), (callFunc 29 args).run Tryz.prog w = .ok (.enter 29 args) w := fun _ _ => by kernel_rfl
theorem wo : ∀ (args : Array Value) (w : World), (callFunc 30 args).run Tryz.prog w = .ok (.enter 30 args) w := fun _ _ => by kernel_rfl
theorem wn : ∀ (args : Array Value) (w : World), (callFunc 31 args).run Tryz.prog w = .ok (.enter 31 args) w := fun _ _ => by kernel_rfl
theorem qZ : ∀ (args : Array Value) (w : World), (callFunc 58 args).run Tryz.prog w = .ok (.enter 58 args) w := fun _ _ => by kernel_rfl
set_option maxRecDepth 100000 in
set_option maxHeartbeats 1000000 in
theorem qr (F : Nat) (a1 : Int) (a2 : Int) (r3 : List UInt8) (H : lm F a1 a2 = some r3) : ACalls Tryz.prog 31 [i64 a1, i64 a2] [] (Ret (S r3) []) := by
 unfold lm at H
 refine au Tryz.func31 rfl rfl ?_;show AW _ _ 19 _ _ _;refine af <| aa ?_;show AR _ _ _ _ _ [0] _;refine za rfl <| ag <| af ?_;obtain ⟨g4, H⟩ := ax H;obtain ⟨x5, e6, H⟩ := bf H;obtain ⟨g7, H⟩ := ax H;obtain ⟨x8, e9, H⟩ := bf H;obtain ⟨g10, H⟩ := ax H;obtain ⟨x11, e12, H⟩ := bf H;obtain ⟨g13, H⟩ := ax H;obtain ⟨x14, e15, H⟩ := bf H;obtain ⟨g16, H⟩ := ax H;obtain ⟨x17, e18, H⟩ := bf H;refine aa ?_;show AR _ _ _ _ _ [0, 1, 2, 3, 4, 5, 6, 7] _;refine zm rfl <| ao rfl rfl (aE rfl qZ rfl (show ACalls _ _ _ [] (Ret (S x5) []) from by subst e6; exact gH a1 (mL g4)) ?_);refine zS rfl (bV rfl rfl g7 e9) <| zS rfl (bV rfl rfl g10 e12) <| zm rfl <| ao rfl rfl (aE rfl qZ rfl (show ACalls _ _ _ [] (Ret (S x14) []) from by subst e15; exact gH a2 (mL g13)) ?_);refine zS rfl (bV rfl rfl g16 e18) <| za rfl <| ag <| af <| af <| aa ?_;show AR _ _ _ _ _ [0, 1] _;refine zm rfl <| zS rfl (cl rfl rfl) <| ag <| az rfl (fun c19 => ?_) (fun c19 => ?_)
 ·replace H := aZ c19 H;refine af ?_;obtain ⟨g20, H⟩ := ax H;obtain ⟨x21, e22, H⟩ := bf H;refine aa ?_;show AR _ _ _ _ _ [0, 1, 2] _;refine zm rfl <| zS rfl (bV rfl rfl g20 e22) <| za rfl <| ag <| aI ?_;obtain rfl := ap H;exact And.intro rfl (Exists.intro _ (Exists.intro _ ⟨aH rfl (.refl _), aG [] rfl, rfl, rfl⟩))
 ·replace H := ba c19 H;refine aC <| af ?_;obtain ⟨g23, H⟩ := ax H;obtain ⟨x24, e25, H⟩ := bf H;refine aa ?_;show AR _ _ _ _ _ [0, 1, 2] _;refine zm rfl <| zS rfl (bV rfl rfl g23 e25) <| za rfl <| ag <| aI ?_;obtain rfl := ap H;exact And.intro rfl (Exists.intro _ (Exists.intro _ ⟨aH rfl (.refl _), aG [] rfl, rfl, rfl⟩))
set_option maxRecDepth 100000 in
set_option maxHeartbeats 1000000 in
theorem sB (F : Nat) (a1 : List UInt8) (a2 : Int) (a3 : Int) (a4 : Int) (a5 : Int) (a6 : List (Int × Int × (List UInt8) × (List UInt8) × (List UInt8) × (List UInt8) × Int)) (q7 : Option Nat) (r8 : List UInt8) (r9 : Int) (H : nZ F a1 a2 a3 a4 a5 a6 = some (r8, r9)) : ACalls Tryz.prog 13 [S a1, i64 a2, i64 a3, i64 a4, i64 a5, slE (aX Enc.int (aX Enc.int (aX Enc.str (aX Enc.str (aX Enc.str (aX Enc.str Enc.int)))))) a6 q7] [] (Ret (.tup [slE Enc.byte r8 none, i64 r9]) []) := by
 unfold nZ at H
 refine au Tryz.func13 rfl rfl ?_;show AW _ _ 89 _ _ _;refine af <| aa ?_;show AR _ _ _ _ _ [0, 1] _;refine za rfl <| za rfl <| ag <| af ?_;obtain ⟨x10, x11, e12, H⟩ := cA H;refine aa ?_;show AR _ _ _ _ _ [0, 1, 2, 3, 4, 5, 6, 7] _;refine zm rfl <| zm rfl <| ao rfl rfl (aE rfl wE rfl (ng F a2 a3 x10 x11 e12) ?_);refine zS rfl (aj (av := .tup _) rfl) <| zS rfl (aA (av := .v _) rfl rfl) <| zS rfl (aA (av := .v _) rfl rfl) <| za rfl <| za rfl <| ag <| af <| aN <| af <| aa ?_;show AR _ _ _ _ _ [0, 1, 2] _;refine zm rfl <| zS rfl (cO rfl rfl) <| za rfl <| ag <| az rfl (fun c13 => ?_) (fun c13 => ?_)
 ·replace H := aZ c13 H;refine af <| aa ?_;show AR _ _ _ _ _ [0, 1, 2] _;refine zm rfl <| za rfl <| za rfl <| ag <| aI ?_;obtain ⟨rfl, rfl⟩ := cN H;exact And.intro rfl (Exists.intro _ (Exists.intro _ ⟨bb rfl (.nil _) (.refl _), aG [] rfl, rfl, rfl⟩))
 ·replace H := ba c13 H;refine af ?_;obtain ⟨x14, e15, H⟩ := bL H;refine aa ?_;show AR _ _ _ _ _ [0, 1, 2, 3] _;refine zm rfl <| ao rfl rfl (aE rfl wr rfl (qs F a1 x14 e15) ?_);refine zS rfl (cr rfl) <| za rfl <| ag <| az rfl (fun c16 => ?_) (fun c16 => ?_)
  ·replace H := aZ c16 H;refine af <| aa ?_;show AR _ _ _ _ _ [0, 1] _;refine za rfl <| za rfl <| ag <| aI ?_;obtain ⟨rfl, rfl⟩ := cN H;exact And.intro rfl (Exists.intro _ (Exists.intro _ ⟨bb rfl (.nil _) (.refl _), aG [] rfl, rfl, rfl⟩))
  ·replace H := ba c16 H;refine af <| aa ?_;show AR _ _ _ _ _ [0, 1, 2, 3] _;refine zS rfl (aj (av := slE _ _ _) rfl) <| zS rfl (aQ dj rfl) <| zS rfl (cl rfl rfl) <| za rfl <| ag <| az rfl (fun c17 => ?_) (fun c17 => ?_)
   ·replace H := aZ c17 H;refine af <| aa ?_;show AR _ _ _ _ _ [0, 1] _;refine za rfl <| za rfl <| ag <| aI ?_;obtain ⟨rfl, rfl⟩ := cN H;exact And.intro rfl (Exists.intro _ (Exists.intro _ ⟨bb rfl (.nil _) (.refl _), aG [] rfl, rfl, rfl⟩))
   ·replace H := ba c17 H;refine aC <| af ?_;obtain ⟨x18, x19, e20, H⟩ := cA H;refine aa ?_;show AR _ _ _ _ _ [0, 1, 2, 3, 4, 5, 6, 7] _;refine zm rfl <| zm rfl <| ao rfl rfl (aE rfl wq rfl (rz F a4 a5 x18 x19 e20) ?_);refine zS rfl (aj (av := .tup _) rfl) <| zS rfl (aA (av := .v _) rfl rfl) <| zS rfl (aA (av := .v _) rfl rfl) <| za rfl <| za rfl <| ag <| af <| af <| aa ?_;show AR _ _ _ _ _ [0, 1] _;refine zm rfl <| zS rfl (cO rfl rfl) <| ag <| az rfl (fun c21 => ?_) (fun c21 => ?_)
    ·replace H := aZ c21 H;refine af <| aa ?_;show AR _ _ _ _ _ [0, 1, 2] _;refine zm rfl <| za rfl <| za rfl <| ag <| aI ?_;obtain ⟨rfl, rfl⟩ := cN H;exact And.intro rfl (Exists.intro _ (Exists.intro _ ⟨bb rfl (.nil _) (.refl _), aG [] rfl, rfl, rfl⟩))
    ·replace H := ba c21 H;refine aC <| af ?_;obtain ⟨x22, e23, H⟩ := bL H;obtain ⟨g24, H⟩ := ax H;obtain ⟨x26, e27, H⟩ := bL H;obtain ⟨g28, H⟩ := ax H;obtain ⟨x30, x31, x32, e33, H⟩ := sg H;refine aa ?_;show AR _ _ _ _ _ [0, 1, 2, 3, 4, 5, 6, 7, 8, 9, 10, 11, 12, 13, 14, 15] _;refine zR rfl (bI (E := Enc.str) (bytes := 16) (xs := [.const _, .const _]) (l := ([rZ, rY] : List (List UInt8))) an (by kernel_rfl) rfl rfl (by decide) rfl rfl) <| zS rfl (aj (av := slE _ _ _) rfl) <| ao rfl rfl (aE rfl wI rfl (pz F a6 q7 x22 e23) ?_);refine zX rfl (cm (bytes := 1) ac ab aY rfl g24) ?_;rintro _ _ ⟨t25, rfl, rfl⟩;refine zS rfl (aj (av := slE _ _ _) rfl) <| ao rfl rfl (aE rfl wM rfl (pA F a6 q7 x26 e27) ?_);refine zX rfl (cm (bytes := 1) ac ab aY rfl g28) ?_;rintro _ _ ⟨t29, rfl, rfl⟩;refine zR rfl (rr 51 (.tok _ _ _) <| rr 54 (.tok _ _ _) <| bI (E := (Enc.sl Enc.byte)) (bytes := 24) (xs := [.tmp 51, .tmp 54]) (l := ([x22, x26] : List (List UInt8))) bD (by kernel_rfl) rfl rfl (by decide) rfl rfl) <| ao rfl rfl (aE rfl wp rfl (sp F ([rZ, rY] : List (List UInt8)) none ([x22, x26] : List (List UInt8)) none x30 x31 x32 e33) ?_)
     refine zS rfl (aj (av := .tup _) rfl) <| zS rfl (aA (av := slE _ _ _) rfl rfl) <| zS rfl (aA (av := .v _) rfl rfl) <| zS rfl (aA (av := .v _) rfl rfl) <| zS rfl (aB (av := slE _ _ _) rfl) <| za rfl <| za rfl <| ag <| af <| af <| aa ?_;show AR _ _ _ _ _ [0, 1] _;refine zm rfl <| zS rfl (cO rfl rfl) <| ag <| az rfl (fun c34 => ?_) (fun c34 => ?_)
     ·replace H := aZ c34 H;refine af <| aa ?_;show AR _ _ _ _ _ [0, 1, 2] _;refine zm rfl <| za rfl <| za rfl <| ag <| aI ?_;obtain ⟨rfl, rfl⟩ := cN H;exact And.intro rfl (Exists.intro _ (Exists.intro _ ⟨bb rfl (.nil _) (.refl _), aG [] rfl, rfl, rfl⟩))
     ·replace H := ba c34 H;refine aC <| af ?_;obtain ⟨x35, e36, H⟩ := bL H;obtain ⟨g37, H⟩ := ax H;obtain ⟨x38, e39, H⟩ := bf H;obtain ⟨g40, H⟩ := ax H;obtain ⟨x41, e42, H⟩ := bf H;obtain ⟨x43, x44, e45, H⟩ := cA H;refine aa ?_;show AR _ _ _ _ _ [0, 1, 2, 3, 4, 5, 6, 7, 8, 9, 10, 11, 12, 13, 14, 15, 16, 17, 18, 19, 20, 21, 22, 23] _;refine zS rfl (dh (zs := [.string ⟨#[]⟩, .string ⟨#[]⟩]) (ps := [(0, 1), (1, 1)]) (cs := [S ([70, 114, 111, 109] : List UInt8), S ([100, 105, 103, 101, 115, 116, 64, 109, 97, 105, 108, 99, 111, 97, 99, 104] : List UInt8)]) (by kernel_rfl) rfl rfl) <| zm rfl <| zS rfl (dh (zs := [.string ⟨#[]⟩, .string ⟨#[]⟩]) (ps := [(0, 1), (1, 1)]) (cs := [S ([84, 111] : List UInt8), S a1]) (by kernel_rfl) rfl rfl) <| zm rfl <| zS rfl (aj (av := slE _ _ _) rfl) <| zS rfl (aQ dj rfl) <| ao rfl rfl (aE rfl wn rfl (qr F a3 (a6.length : Int) x35 e36) ?_)
      refine zS rfl (dh (zs := [.string ⟨#[]⟩, .string ⟨#[]⟩]) (ps := [(0, 1), (1, 1)]) (cs := [S ([83, 117, 98, 106, 101, 99, 116] : List UInt8), S x35]) (by kernel_rfl) rfl rfl) <| zm rfl <| zS rfl (dh (zs := [.string ⟨#[]⟩, .string ⟨#[]⟩]) (ps := [(0, 1), (1, 1)]) (cs := [S ([68, 97, 116, 101] : List UInt8), S x18]) (by kernel_rfl) rfl rfl) <| zm rfl <| zS rfl (dh (zs := [.string ⟨#[]⟩, .string ⟨#[]⟩]) (ps := [(0, 1), (1, 1)]) (cs := [S ([77, 101, 115, 115, 97, 103, 101, 45, 73, 68] : List UInt8), S x10]) (by kernel_rfl) rfl rfl) <| zS rfl (dh (zs := [.string ⟨#[]⟩, .string ⟨#[]⟩]) (ps := [(0, 1), (1, 1)]) (cs := [S ([77, 73, 77, 69, 45, 86, 101, 114, 115, 105, 111, 110] : List UInt8), S ([49, 46, 48] : List UInt8)]) (by kernel_rfl) rfl rfl) <| zm rfl <| zS rfl (bV rfl rfl g37 e39) <| zS rfl (bV rfl rfl g40 e42) <| zS rfl (dh (zs := [.string ⟨#[]⟩, .string ⟨#[]⟩]) (ps := [(0, 1), (1, 1)]) (cs := [S ([67, 111, 110, 116, 101, 110, 116, 45, 84, 121, 112, 101] : List UInt8), S x41]) (by kernel_rfl) rfl rfl) <| zR rfl (kg (E := (aX Enc.str Enc.str)) (bytes := 32) (zs := [.string ⟨#[]⟩, .string ⟨#[]⟩]) (l := ([(([70, 114, 111, 109] : List UInt8), ([100, 105, 103, 101, 115, 116, 64, 109, 97, 105, 108, 99, 111, 97, 99, 104] : List UInt8)), (([84, 111] : List UInt8), a1), (([83, 117, 98, 106, 101, 99, 116] : List UInt8), x35), (([68, 97, 116, 101] : List UInt8), x18), (([77, 101, 115, 115, 97, 103, 101, 45, 73, 68] : List UInt8), x10), (([77, 73, 77, 69, 45, 86, 101, 114, 115, 105, 111, 110] : List UInt8), ([49, 46, 48] : List UInt8)), (([67, 111, 110, 116, 101, 110, 116, 45, 84, 121, 112, 101] : List UInt8), x41)] : List ((List UInt8) × List UInt8))) dL (by kernel_rfl) (by kernel_rfl) rfl rfl rfl rfl rfl) <| ao rfl rfl (bC [] rfl wo rfl (su F ([(([70, 114, 111, 109] : List UInt8), ([100, 105, 103, 101, 115, 116, 64, 109, 97, 105, 108, 99, 111, 97, 99, 104] : List UInt8)), (([84, 111] : List UInt8), a1), (([83, 117, 98, 106, 101, 99, 116] : List UInt8), x35), (([68, 97, 116, 101] : List UInt8), x18), (([77, 101, 115, 115, 97, 103, 101, 45, 73, 68] : List UInt8), x10), (([77, 73, 77, 69, 45, 86, 101, 114, 115, 105, 111, 110] : List UInt8), ([49, 46, 48] : List UInt8)), (([67, 111, 110, 116, 101, 110, 116, 45, 84, 121, 112, 101] : List UInt8), x41)] : List ((List UInt8) × List UInt8)) none x43 x44 e45) rfl (fun c A' h => by obtain ⟨_, _, h, _⟩ := h; cases h) ?_)
      rintro av A' ⟨t46, c47, h, rfl, hc47⟩; cases h
      refine zS rfl (aj (av := .tup _) rfl) <| zS rfl (aA (av := slE _ _ _) rfl rfl) <| zS rfl (aA (av := .v _) rfl rfl) <| zS rfl (aB (av := slE _ _ _) rfl) <| za rfl <| ag <| af ?_;obtain ⟨g49, H⟩ := ax H;obtain ⟨x50, e51, H⟩ := bf H;refine aa ?_;show AR _ _ _ _ _ [0, 1, 2, 3, 4, 5] _;refine zS rfl (aj (av := slE _ _ _) rfl) <| zS rfl (aj (av := slE _ _ _) rfl) <| zX rfl (vX (E := Enc.byte) (bytes := 1) 0 hc47 ab ab rfl (by kernel_rfl) rfl rfl rfl rfl g49 e51) ?_;rintro _ _ ⟨t48, c52, hc52, rfl, rfl⟩;refine zm rfl <| zS rfl (aB (av := slE _ _ _) rfl) <| za rfl <| ag <| aI ?_;obtain ⟨rfl, rfl⟩ := cN H;exact And.intro rfl (Exists.intro _ (Exists.intro _ ⟨bb rfl (.tok _ _ _) (.refl _), aG [] rfl, rfl, rfl⟩))
end Go.Proofs.YtjegcifofddgbaaGreatDoor
namespace Go.Pv
def vA : List UInt8 := [60, 117, 108, 62, 10, 60, 108, 105, 62, 60, 97, 32, 104, 114, 101, 102, 61, 34, 117, 34, 62, 84, 60, 47, 97, 62, 60, 47, 108, 105, 62, 10, 60, 47, 117, 108, 62, 10]
def gI (F : Nat) : Option Bool :=
ff (gW F 3 12) fun x2 x3 =>
bnd3 (eX F ([60, 49, 50, 46, 51, 64, 109, 97, 105, 108, 99, 111, 97, 99, 104, 62] : List UInt8)) fun x5 x6 x7 =>
ff (nZ F ([97, 64, 98] : List UInt8) 1 1 0 0 ([(0, 0, (([] : List UInt8), ([84] : List UInt8), ([117] : List UInt8), ([60, 112, 62, 120] : List UInt8), 0))] : List (Int × Int × (List UInt8) × (List UInt8) × (List UInt8) × (List UInt8) × Int))) fun x9 x10 =>
jO ((((((decide (x3 = 0)) && (decide (x7 = 0))) && (decide (x10 = 0))) && (decide (x2 = ([60, 49, 50, 46, 51, 64, 109, 97, 105, 108, 99, 111, 97, 99, 104, 62] : List UInt8)))) && (decide (x5 = 3))) && (decide (x6 = 12))) (nq F ([(0, 0, (([] : List UInt8), ([84] : List UInt8), ([117] : List UInt8), ([60, 112, 62, 120] : List UInt8), 0))] : List (Int × Int × (List UInt8) × (List UInt8) × (List UInt8) × (List UInt8) × Int))) fun x18 =>
jO (((((((decide (x3 = 0)) && (decide (x7 = 0))) && (decide (x10 = 0))) && (decide (x2 = ([60, 49, 50, 46, 51, 64, 109, 97, 105, 108, 99, 111, 97, 99, 104, 62] : List UInt8)))) && (decide (x5 = 3))) && (decide (x6 = 12))) && (decide (x18 = ([84, 10, 117, 10, 120, 10, 10] : List UInt8)))) (nr F ([(0, 0, (([] : List UInt8), ([84] : List UInt8), ([117] : List UInt8), ([60, 112, 62, 120] : List UInt8), 0))] : List (Int × Int × (List UInt8) × (List UInt8) × (List UInt8) × (List UInt8) × Int))) fun x21 =>
some ((((((((decide (x3 = 0)) && (decide (x7 = 0))) && (decide (x10 = 0))) && (decide (x2 = ([60, 49, 50, 46, 51, 64, 109, 97, 105, 108, 99, 111, 97, 99, 104, 62] : List UInt8)))) && (decide (x5 = 3))) && (decide (x6 = 12))) && (decide (x18 = ([84, 10, 117, 10, 120, 10, 10] : List UInt8)))) && (decide (x21 = vA)))
end Go.Pv
namespace Go.Proofs.YtjegcifofddgbaaGreatDoor
open Go.RowKit Go.Av Go.Pv
theorem wL : ∀ (args : Array Value) (w : World), (callFunc 11 args).run Tryz.prog w = .ok (.enter 11 args) w := fun _ _ => by kernel_rfl
theorem wK : ∀ (args : Array Value) (w : World), (callFunc 13 args).run Tryz.prog w = .ok (.enter 13 args) w := fun _ _ => by kernel_rfl
theorem wJ : ∀ (args : Array Value) (w : World), (callFunc 15 args).run Tryz.prog w = .ok (.enter 15 args) w := fun _ _ => by kernel_rfl
theorem wH : ∀ (args : Array Value) (w : World), (callFunc 17 args).run Tryz.prog w = .ok (.enter 17 args) w := fun _ _ => by kernel_rfl
theorem wD : ∀ (args : Array Value) (w : World), (callFunc 21 args).run Tryz.prog w = .ok (.enter 21 args) w := fun _ _ => by kernel_rfl
set_option maxRecDepth 100000 in
set_option maxHeartbeats 1000000 in
theorem qn (F : Nat) (r1 : Bool) (H : gI F = some r1) : ACalls Tryz.prog 9 [] [] (Ret (B r1) []) := by
 unfold gI at H
 refine au Tryz.func9 rfl rfl ?_;show AW _ _ 58 _ _ _;refine af <| aa ?_;show AR _ _ _ _ _ [0] _;refine za rfl <| ag <| af ?_;obtain ⟨x2, x3, e4, H⟩ := cA H;refine aa ?_;show AR _ _ _ _ _ [0, 1, 2, 3, 4, 5] _;refine ao rfl rfl (aE rfl wD rfl (ng F 3 12 x2 x3 e4) ?_);refine zS rfl (aj (av := .tup _) rfl) <| zS rfl (aA (av := .v _) rfl rfl) <| zS rfl (aA (av := .v _) rfl rfl) <| za rfl <| za rfl <| ag <| af ?_;obtain ⟨x5, x6, x7, e8, H⟩ := sg H;refine aa ?_;show AR _ _ _ _ _ [0, 1, 2, 3, 4, 5, 6, 7] _;refine ao rfl rfl (aE rfl wJ rfl (og F ([60, 49, 50, 46, 51, 64, 109, 97, 105, 108, 99, 111, 97, 99, 104, 62] : List UInt8) x5 x6 x7 e8) ?_);refine zS rfl (aj (av := .tup _) rfl) <| zS rfl (aA (av := .v _) rfl rfl) <| zS rfl (aA (av := .v _) rfl rfl) <| zS rfl (aA (av := .v _) rfl rfl) <| za rfl <| za rfl <| za rfl <| ag <| af <| aa ?_;show AR _ _ _ _ _ [0, 1, 2, 3] _
 refine zS rfl (dh (zs := [.string ⟨#[]⟩, .string ⟨#[]⟩, .string ⟨#[]⟩, .string ⟨#[]⟩, .int .i64 0]) (ps := [(0, 1), (1, 1), (2, 1), (3, 1), (4, 1)]) (cs := [S ([] : List UInt8), S ([84] : List UInt8), S ([117] : List UInt8), S ([60, 112, 62, 120] : List UInt8), i64 0]) (by kernel_rfl) rfl rfl) <| zS rfl (dh (zs := [.int .i64 0, .int .i64 0, .string ⟨#[]⟩, .string ⟨#[]⟩, .string ⟨#[]⟩, .string ⟨#[]⟩, .int .i64 0]) (ps := [(0, 1), (1, 1), (2, 5)]) (cs := [i64 0, i64 0, S ([] : List UInt8), S ([84] : List UInt8), S ([117] : List UInt8), S ([60, 112, 62, 120] : List UInt8), i64 0]) (by kernel_rfl) rfl rfl) <| zR rfl (kg (E := (aX Enc.int (aX Enc.int (aX Enc.str (aX Enc.str (aX Enc.str (aX Enc.str Enc.int))))))) (bytes := 88) (zs := [.int .i64 0, .int .i64 0, .string ⟨#[]⟩, .string ⟨#[]⟩, .string ⟨#[]⟩, .string ⟨#[]⟩, .int .i64 0]) (l := ([(0, 0, (([] : List UInt8), ([84] : List UInt8), ([117] : List UInt8), ([60, 112, 62, 120] : List UInt8), 0))] : List (Int × Int × (List UInt8) × (List UInt8) × (List UInt8) × (List UInt8) × Int))) dj (by kernel_rfl) (by kernel_rfl) rfl rfl rfl rfl rfl) <| zS rfl (aB (av := slE _ _ _) rfl) <| ag <| af ?_;obtain ⟨x9, x10, e11, H⟩ := cA H;refine aa ?_;show AR _ _ _ _ _ [0, 1, 2, 3, 4, 5, 6] _
 refine zS rfl (aj (av := slE _ _ _) rfl) <| ao rfl rfl (aE rfl wK rfl (sB F ([97, 64, 98] : List UInt8) 1 1 0 0 ([(0, 0, (([] : List UInt8), ([84] : List UInt8), ([117] : List UInt8), ([60, 112, 62, 120] : List UInt8), 0))] : List (Int × Int × (List UInt8) × (List UInt8) × (List UInt8) × (List UInt8) × Int)) none x9 x10 e11) ?_);refine zS rfl (aj (av := .tup _) rfl) <| zS rfl (aA (av := slE _ _ _) rfl rfl) <| zS rfl (aA (av := .v _) rfl rfl) <| zS rfl (aB (av := slE _ _ _) rfl) <| za rfl <| ag <| af ?_;obtain ⟨x18, e19, H⟩ := eG H;obtain ⟨x21, e22, H⟩ := eG H;refine aa ?_;show AR _ _ _ _ _ [0, 1, 2, 3, 4, 5, 6, 7, 8, 9, 10, 11, 12, 13, 14, 15, 16, 17, 18, 19, 20, 21, 22, 23, 24, 25, 26, 27, 28, 29, 30, 31, 32] _;refine zm rfl <| zS rfl (cl rfl rfl) <| zm rfl <| aU (l := [6, 7, 8, 9, 10, 11, 12, 13, 14, 15, 16, 17, 18, 19, 20, 21, 22, 23, 24, 25, 26, 27, 28, 29, 30, 31, 32]) 31 (B ((decide (x3 = 0)) && (decide (x7 = 0)))) (fun K => ?_) ?_
 ·rcases ak (decide (x3 = 0)) with h12 | h12
  ·refine zM h12 rfl <| zU h12 rfl (cl rfl rfl) <| zS rfl (aF (av := .v _) rfl h12 rfl) ?_;exact K _ 2 _ (ay (cb h12)) rfl rfl
  ·refine zF h12 rfl <| zF h12 rfl <| zS rfl (aD (av := .v _) rfl h12 rfl) ?_;exact K _ 2 _ (ay (cc h12)) rfl rfl
 refine zm rfl <| aU (l := [10, 11, 12, 13, 14, 15, 16, 17, 18, 19, 20, 21, 22, 23, 24, 25, 26, 27, 28, 29, 30, 31, 32]) 35 (B (((decide (x3 = 0)) && (decide (x7 = 0))) && (decide (x10 = 0)))) (fun K => ?_) ?_
 ·rcases ak ((decide (x3 = 0)) && (decide (x7 = 0))) with h13 | h13
  ·refine zM h13 rfl <| zU h13 rfl (cl rfl rfl) <| zS rfl (aF (av := .v _) rfl h13 rfl) ?_;exact K _ 2 _ (ay (cb h13)) rfl rfl
  ·refine zF h13 rfl <| zF h13 rfl <| zS rfl (aD (av := .v _) rfl h13 rfl) ?_;exact K _ 2 _ (ay (cc h13)) rfl rfl
 refine zm rfl <| aU (l := [14, 15, 16, 17, 18, 19, 20, 21, 22, 23, 24, 25, 26, 27, 28, 29, 30, 31, 32]) 39 (B ((((decide (x3 = 0)) && (decide (x7 = 0))) && (decide (x10 = 0))) && (decide (x2 = ([60, 49, 50, 46, 51, 64, 109, 97, 105, 108, 99, 111, 97, 99, 104, 62] : List UInt8))))) (fun K => ?_) ?_
 ·rcases ak (((decide (x3 = 0)) && (decide (x7 = 0))) && (decide (x10 = 0))) with h14 | h14
  ·refine zM h14 rfl <| zU h14 rfl (eB rfl rfl) <| zS rfl (aF (av := .v _) rfl h14 rfl) ?_;exact K _ 2 _ (ay (cb h14)) rfl rfl
  ·refine zF h14 rfl <| zF h14 rfl <| zS rfl (aD (av := .v _) rfl h14 rfl) ?_;exact K _ 2 _ (ay (cc h14)) rfl rfl
 refine zm rfl <| aU (l := [18, 19, 20, 21, 22, 23, 24, 25, 26, 27, 28, 29, 30, 31, 32]) 43 (B (((((decide (x3 = 0)) && (decide (x7 = 0))) && (decide (x10 = 0))) && (decide (x2 = ([60, 49, 50, 46, 51, 64, 109, 97, 105, 108, 99, 111, 97, 99, 104, 62] : List UInt8)))) && (decide (x5 = 3)))) (fun K => ?_) ?_
 ·rcases ak ((((decide (x3 = 0)) && (decide (x7 = 0))) && (decide (x10 = 0))) && (decide (x2 = ([60, 49, 50, 46, 51, 64, 109, 97, 105, 108, 99, 111, 97, 99, 104, 62] : List UInt8)))) with h15 | h15
  ·refine zM h15 rfl <| zU h15 rfl (cl rfl rfl) <| zS rfl (aF (av := .v _) rfl h15 rfl) ?_;exact K _ 2 _ (ay (cb h15)) rfl rfl
  ·refine zF h15 rfl <| zF h15 rfl <| zS rfl (aD (av := .v _) rfl h15 rfl) ?_;exact K _ 2 _ (ay (cc h15)) rfl rfl
 refine zm rfl <| aU (l := [22, 23, 24, 25, 26, 27, 28, 29, 30, 31, 32]) 47 (B ((((((decide (x3 = 0)) && (decide (x7 = 0))) && (decide (x10 = 0))) && (decide (x2 = ([60, 49, 50, 46, 51, 64, 109, 97, 105, 108, 99, 111, 97, 99, 104, 62] : List UInt8)))) && (decide (x5 = 3))) && (decide (x6 = 12)))) (fun K => ?_) ?_
 ·rcases ak (((((decide (x3 = 0)) && (decide (x7 = 0))) && (decide (x10 = 0))) && (decide (x2 = ([60, 49, 50, 46, 51, 64, 109, 97, 105, 108, 99, 111, 97, 99, 104, 62] : List UInt8)))) && (decide (x5 = 3))) with h16 | h16
  ·refine zM h16 rfl <| zU h16 rfl (cl rfl rfl) <| zS rfl (aF (av := .v _) rfl h16 rfl) ?_;exact K _ 2 _ (ay (cb h16)) rfl rfl
  ·refine zF h16 rfl <| zF h16 rfl <| zS rfl (aD (av := .v _) rfl h16 rfl) ?_;exact K _ 2 _ (ay (cc h16)) rfl rfl
 refine zm rfl <| aU (l := [27, 28, 29, 30, 31, 32]) 52 (B (((((((decide (x3 = 0)) && (decide (x7 = 0))) && (decide (x10 = 0))) && (decide (x2 = ([60, 49, 50, 46, 51, 64, 109, 97, 105, 108, 99, 111, 97, 99, 104, 62] : List UInt8)))) && (decide (x5 = 3))) && (decide (x6 = 12))) && (decide (x18 = ([84, 10, 117, 10, 120, 10, 10] : List UInt8))))) (fun K => ?_) ?_
 ·rcases ak ((((((decide (x3 = 0)) && (decide (x7 = 0))) && (decide (x10 = 0))) && (decide (x2 = ([60, 49, 50, 46, 51, 64, 109, 97, 105, 108, 99, 111, 97, 99, 104, 62] : List UInt8)))) && (decide (x5 = 3))) && (decide (x6 = 12))) with h17 | h17
  ·refine zU h17 rfl (aj (av := slE _ _ _) rfl) <| zT h17 rfl (aE rfl wH rfl (pz F ([(0, 0, (([] : List UInt8), ([84] : List UInt8), ([117] : List UInt8), ([60, 112, 62, 120] : List UInt8), 0))] : List (Int × Int × (List UInt8) × (List UInt8) × (List UInt8) × (List UInt8) × Int)) none x18 (e19 h17)) ?_);refine zU h17 rfl (eB rfl rfl) <| zS rfl (aF (av := .v _) rfl h17 rfl) ?_;exact K _ 3 _ (ay (cb h17)) rfl rfl
  ·refine zF h17 rfl <| zF h17 rfl <| zF h17 rfl <| zS rfl (aD (av := .v _) rfl h17 rfl) ?_;exact K _ 3 _ (ay (cc h17)) rfl rfl
 refine zm rfl <| aU (l := [32]) 57 (B ((((((((decide (x3 = 0)) && (decide (x7 = 0))) && (decide (x10 = 0))) && (decide (x2 = ([60, 49, 50, 46, 51, 64, 109, 97, 105, 108, 99, 111, 97, 99, 104, 62] : List UInt8)))) && (decide (x5 = 3))) && (decide (x6 = 12))) && (decide (x18 = ([84, 10, 117, 10, 120, 10, 10] : List UInt8)))) && (decide (x21 = vA)))) (fun K => ?_) ?_
 ·rcases ak (((((((decide (x3 = 0)) && (decide (x7 = 0))) && (decide (x10 = 0))) && (decide (x2 = ([60, 49, 50, 46, 51, 64, 109, 97, 105, 108, 99, 111, 97, 99, 104, 62] : List UInt8)))) && (decide (x5 = 3))) && (decide (x6 = 12))) && (decide (x18 = ([84, 10, 117, 10, 120, 10, 10] : List UInt8)))) with h20 | h20
  ·refine zU h20 rfl (aj (av := slE _ _ _) rfl) <| zT h20 rfl (aE rfl wL rfl (pA F ([(0, 0, (([] : List UInt8), ([84] : List UInt8), ([117] : List UInt8), ([60, 112, 62, 120] : List UInt8), 0))] : List (Int × Int × (List UInt8) × (List UInt8) × (List UInt8) × (List UInt8) × Int)) none x21 (e22 h20)) ?_);refine zU h20 rfl (eB rfl rfl) <| zS rfl (aF (av := .v _) rfl h20 rfl) ?_;exact K _ 3 _ (ay (cb h20)) rfl rfl
  ·refine zF h20 rfl <| zF h20 rfl <| zF h20 rfl <| zS rfl (aD (av := .v _) rfl h20 rfl) ?_;exact K _ 3 _ (ay (cc h20)) rfl rfl
 refine za rfl <| ag <| aI ?_;obtain rfl := ap H;exact And.intro rfl (Exists.intro _ (Exists.intro _ ⟨aH rfl (.refl _), aG [] rfl, rfl, rfl⟩))
end Go.Proofs.YtjegcifofddgbaaGreatDoor
namespace Go.Pv
def eo (y25 : List UInt8) : Option ((List UInt8)) :=
some y25
def er (rec12 : (Int × (List UInt8)) → Option ((List UInt8))) (y10 : Int) (y11 : List UInt8) : Option ((List UInt8)) :=
bif decide (0 < y10) then
  grd (cS y10 10) <|
  grd (cS y10 10) <|
  grd (okI ((y10 % 10) + 1)) <|
  grd (mK (y10 % 10) ((y10 % 10) + 1) ([48, 49, 50, 51, 52, 53, 54, 55, 56, 57] : List UInt8).length) <|
  lt (sub ([48, 49, 50, 51, 52, 53, 54, 55, 56, 57] : List UInt8) (y10 % 10) ((y10 % 10) + 1)) fun x19 =>
  grd (bq (x19.length + y11.length)) <|
  lt (x19 ++ y11) fun x22 =>
  grd (cS y10 10) <|
  rec12 (y10 / 10, x22)
else
  eo y11
def ep (n : Nat) : (Int × (List UInt8)) → Option ((List UInt8)) :=
  loop (fun rec x => er rec x.1 x.2) n
def eT (F : Nat) (a1 : Int) : Option ((List UInt8)) :=
grd (cS a1 10) <|
grd (cS a1 10) <|
grd (okI ((a1 % 10) + 1)) <|
grd (mK (a1 % 10) ((a1 % 10) + 1) ([48, 49, 50, 51, 52, 53, 54, 55, 56, 57] : List UInt8).length) <|
lt (sub ([48, 49, 50, 51, 52, 53, 54, 55, 56, 57] : List UInt8) (a1 % 10) ((a1 % 10) + 1)) fun x7 =>
grd (cS a1 10) <|
ep F (a1 / 10, x7)
def ga (F : Nat) (a1 : Int) (a2 : Int) : Option ((List UInt8) × Int) :=
bif (((decide (a1 < 0)) || (decide (8 ≤ a1))) || (decide (a2 < 1))) || (decide (1073741824 < a2)) then
  some (([] : List UInt8), 1)
else
  bnd (eT F a2) fun x9 =>
  grd (bq (([60] : List UInt8).length + x9.length)) <|
  lt (([60] : List UInt8) ++ x9) fun x12 =>
  grd (bq (x12.length + ([46] : List UInt8).length)) <|
  lt (x12 ++ ([46] : List UInt8)) fun x15 =>
  bnd (eT F a1) fun x17 =>
  grd (bq (x15.length + x17.length)) <|
  lt (x15 ++ x17) fun x20 =>
  grd (bq (x20.length + ([64, 109, 97, 105, 108, 99, 111, 97, 99, 104, 62] : List UInt8).length)) <|
  lt (x20 ++ ([64, 109, 97, 105, 108, 99, 111, 97, 99, 104, 62] : List UInt8)) fun x23 =>
  some (x23, 0)
def dK (y25 : Int) (y26 : Int) : Option (Int × Int) :=
some (y26, y25)
def dm (a1 : List UInt8) (rec7 : (Int × Int) → Option (Int × Int)) (y5 : Int) (y6 : Int) : Option (Int × Int) :=
fZ (decide (y5 < (a1.length : Int))) (ct y5 a1.length) <|
lt (at_ a1 y5) fun x11 =>
fZ ((decide (y5 < (a1.length : Int))) && (decide (48 ≤ (x11.toNat : Int)))) (ct y5 a1.length) <|
lt (at_ a1 y5) fun x15 =>
bif (((decide (y5 < (a1.length : Int))) && (decide (48 ≤ (x11.toNat : Int)))) && (decide ((x15.toNat : Int) ≤ 57))) && (decide (y6 ≤ 1073741824)) then
  grd (okI (10 * y6)) <|
  grd (ct y5 a1.length) <|
  lt (at_ a1 y5) fun x21 =>
  grd (okI ((10 * y6) + ((x21 - 48).toNat : Int))) <|
  grd (okI (y5 + 1)) <|
  rec7 (y5 + 1, (10 * y6) + ((x21 - 48).toNat : Int))
else
  dK y5 y6
def bO (a1 : List UInt8) (n : Nat) : (Int × Int) → Option (Int × Int) :=
  loop (fun rec x => dm a1 rec x.1 x.2) n
def eS (F : Nat) (a1 : List UInt8) (a2 : Int) : Option (Int × Int) :=
bO a1 F (a2, 0)
def ef (F : Nat) (a1 : List UInt8) : Option (Int × Int × Int) :=
ff (eS F a1 1) fun x5 x6 =>
grd (okI (x6 + 1)) <|
ff (eS F a1 (x6 + 1)) fun x9 x10 =>
ff (ga F x9 x5) fun x12 x13 =>
bif (!decide (x13 = 0)) || (!decide (x12 = a1)) then
  some (0, 0, 2)
else
  some (x9, x5, 0)
end Go.Pv
namespace Go.Proofs.YtjegcifofddgbaaGreatDoor
open Go.RowKit Go.Av Go.Pv
theorem wA : ∀ (args : Array Value) (w : World), (callFunc 22 args).run Tryz.prog w = .ok (.enter 22 args) w := fun _ _ => by kernel_rfl
theorem rb : ∀ (args : Array Value) (w : World), (callFunc 51 args).run Tryz.prog w = .ok (.enter 51 args) w := fun _ _ => by kernel_rfl
theorem qY : ∀ (args : Array Value) (w : World), (callFunc 59 args).run Tryz.prog w = .ok (.enter 59 args) w := fun _ _ => by kernel_rfl
set_option maxRecDepth 100000 in
set_option maxHeartbeats 1000000 in
theorem kQ (F : Nat) (a1 : Int) (r2 : List UInt8) (H : eT F a1 = some r2) : ACalls Tryz.prog 51 [i64 a1] [] (Ret (S r2) []) := by
 unfold eT at H
 refine au Tryz.func51 rfl rfl ?_;show AW _ _ 25 _ _ _;refine af <| aa ?_;show AR _ _ _ _ _ [0] _;refine za rfl <| ag <| af ?_;obtain ⟨g3, H⟩ := ax H;obtain ⟨g4, H⟩ := ax H;obtain ⟨g5, H⟩ := ax H;obtain ⟨g6, H⟩ := ax H;obtain ⟨x7, e8, H⟩ := bf H;refine aa ?_;show AR _ _ _ _ _ [0, 1, 2, 3, 4, 5, 6] _;refine zm rfl <| zS rfl (iY rfl rfl g3) <| zm rfl <| zS rfl (iY rfl rfl g4) <| zS rfl (bn rfl rfl g5) <| zS rfl (fF ac rfl rfl rfl g6 e8) <| za rfl <| ag <| bj (X := (List UInt8)) (fun y25 => ⟨[(3, S y25)], [], []⟩) (fun y25 => eo y25 = some r2) ?_ ?_
 ·refine af ?_;obtain ⟨g9, H⟩ := ax H;refine aa ?_;show AR _ _ _ _ _ [0, 1, 2] _;refine zm rfl <| zS rfl (fa rfl rfl g9) <| za rfl <| ag <| aN <| cd (X := Nat × Int × (List UInt8)) (fun (n13, y10, y11) => ⟨[(0, i64 y10), (3, S y11)], [], []⟩) (fun (n13, y10, y11) => ep n13 (y10, y11) = some r2) (fun (n13, y10, y11) => n13) (F, a1 / 10, x7) H (aO [] (.cons (.refl _) (.cons (.refl _) (.nil _))) rfl) ?_;rintro ⟨n13, y10, y11⟩ H;obtain ⟨n13, rfl, H⟩ := cG H;replace H : er (ep n13) y10 y11 = some r2 := H
  unfold er at H
  refine af <| af <| aa ?_;show AR _ _ _ _ _ [0, 1] _;refine zm rfl <| zS rfl (cP rfl rfl) <| ag <| az rfl (fun c14 => ?_) (fun c14 => ?_)
  ·replace H := aZ c14 H;refine aC <| af <| aN ?_;obtain ⟨g15, H⟩ := ax H;obtain ⟨g16, H⟩ := ax H;obtain ⟨g17, H⟩ := ax H;obtain ⟨g18, H⟩ := ax H;obtain ⟨x19, e20, H⟩ := bf H;obtain ⟨g21, H⟩ := ax H;obtain ⟨x22, e23, H⟩ := bf H;refine aa ?_;show AR _ _ _ _ _ [0, 1, 2, 3, 4, 5, 6, 7, 8] _;refine zm rfl <| zS rfl (iY rfl rfl g15) <| zm rfl <| zS rfl (iY rfl rfl g16) <| zS rfl (bn rfl rfl g17) <| zS rfl (fF ac rfl rfl rfl g18 e20) <| zm rfl <| zS rfl (bV rfl rfl g21 e23) <| za rfl <| ag ?_;obtain ⟨g24, H⟩ := ax H;refine aa ?_;show AR _ _ _ _ _ [0, 1, 2] _;refine zm rfl <| zS rfl (fa rfl rfl g24) <| za rfl <| ag ?_;exact Exists.intro (n13, y10 / 10, x22) ⟨H, Nat.lt_succ_self _, aO [] (.cons (.refl _) (.cons (.refl _) (.nil _))) rfl⟩
  ·replace H := ba c14 H;refine bR ?_;exact Exists.intro y11 ⟨H, aO [] (.cons (.refl _) (.nil _)) rfl⟩
 rintro y25 H;replace H : eo y25 = some r2 := H
 unfold eo at H
 refine af <| aa ?_;show AR _ _ _ _ _ [0, 1] _;refine zm rfl <| za rfl <| ag <| aI ?_;obtain rfl := ap H;exact And.intro rfl (Exists.intro _ (Exists.intro _ ⟨aH rfl (.refl _), aG [] rfl, rfl, rfl⟩))
set_option maxRecDepth 100000 in
set_option maxHeartbeats 1000000 in
theorem px (F : Nat) (a1 : Int) (a2 : Int) (r3 : List UInt8) (r4 : Int) (H : ga F a1 a2 = some (r3, r4)) : ACalls Tryz.prog 22 [i64 a1, i64 a2] [] (Ret (.tup [S r3, i64 r4]) []) := by
 unfold ga at H
 refine au Tryz.func22 rfl rfl ?_;show AW _ _ 28 _ _ _;refine af <| aa ?_;show AR _ _ _ _ _ [0, 1] _;refine za rfl <| za rfl <| ag <| af <| af <| aa ?_;show AR _ _ _ _ _ [0, 1, 2, 3, 4, 5, 6, 7, 8, 9, 10, 11, 12, 13] _;refine zm rfl <| zS rfl (bx rfl rfl) <| zm rfl <| aU (l := [6, 7, 8, 9, 10, 11, 12, 13]) 11 (B ((decide (a1 < 0)) || (decide (8 ≤ a1)))) (fun K => ?_) ?_
 ·rcases ak (decide (a1 < 0)) with h5 | h5
  ·refine zF h5 rfl <| zF h5 rfl <| zS rfl (aF (av := .v _) rfl h5 rfl) ?_;exact K _ 2 _ (ay (fc h5)) rfl rfl
  ·refine zM h5 rfl <| zU h5 rfl (dc rfl rfl) <| zS rfl (aD (av := .v _) rfl h5 rfl) ?_;exact K _ 2 _ (ay (fe h5)) rfl rfl
 refine zm rfl <| aU (l := [10, 11, 12, 13]) 15 (B (((decide (a1 < 0)) || (decide (8 ≤ a1))) || (decide (a2 < 1)))) (fun K => ?_) ?_
 ·rcases ak ((decide (a1 < 0)) || (decide (8 ≤ a1))) with h6 | h6
  ·refine zF h6 rfl <| zF h6 rfl <| zS rfl (aF (av := .v _) rfl h6 rfl) ?_;exact K _ 2 _ (ay (fc h6)) rfl rfl
  ·refine zM h6 rfl <| zU h6 rfl (bx rfl rfl) <| zS rfl (aD (av := .v _) rfl h6 rfl) ?_;exact K _ 2 _ (ay (fe h6)) rfl rfl
 refine zm rfl <| aU (l := []) 19 (B ((((decide (a1 < 0)) || (decide (8 ≤ a1))) || (decide (a2 < 1))) || (decide (1073741824 < a2)))) (fun K => ?_) ?_
 ·rcases ak (((decide (a1 < 0)) || (decide (8 ≤ a1))) || (decide (a2 < 1))) with h7 | h7
  ·refine zF h7 rfl <| zF h7 rfl <| zS rfl (aF (av := .v _) rfl h7 rfl) ?_;exact K _ 2 _ (ay (fc h7)) rfl rfl
  ·refine zM h7 rfl <| zU h7 rfl (cP rfl rfl) <| zS rfl (aD (av := .v _) rfl h7 rfl) ?_;exact K _ 2 _ (ay (fe h7)) rfl rfl
 refine ag <| az rfl (fun c8 => ?_) (fun c8 => ?_)
 ·replace H := aZ c8 H;refine af <| aa ?_;show AR _ _ _ _ _ [0, 1] _;refine za rfl <| za rfl <| ag <| aI ?_;obtain ⟨rfl, rfl⟩ := cN H;exact And.intro rfl (Exists.intro _ (Exists.intro _ ⟨bb rfl (.refl _) (.refl _), aG [] rfl, rfl, rfl⟩))
 ·replace H := ba c8 H;refine aC <| af ?_;obtain ⟨x9, e10, H⟩ := bL H;obtain ⟨g11, H⟩ := ax H;obtain ⟨x12, e13, H⟩ := bf H;obtain ⟨g14, H⟩ := ax H;obtain ⟨x15, e16, H⟩ := bf H;obtain ⟨x17, e18, H⟩ := bL H;obtain ⟨g19, H⟩ := ax H;obtain ⟨x20, e21, H⟩ := bf H;obtain ⟨g22, H⟩ := ax H;obtain ⟨x23, e24, H⟩ := bf H;refine aa ?_;show AR _ _ _ _ _ [0, 1, 2, 3, 4, 5, 6, 7, 8, 9] _;refine zm rfl <| ao rfl rfl (aE rfl rb rfl (kQ F a2 x9 e10) ?_);refine zS rfl (bV rfl rfl g11 e13) <| zS rfl (bV rfl rfl g14 e16) <| zm rfl <| ao rfl rfl (aE rfl rb rfl (kQ F a1 x17 e18) ?_);refine zS rfl (bV rfl rfl g19 e21) <| zS rfl (bV rfl rfl g22 e24) <| za rfl <| za rfl <| ag <| aI ?_;obtain ⟨rfl, rfl⟩ := cN H;exact And.intro rfl (Exists.intro _ (Exists.intro _ ⟨bb rfl (.refl _) (.refl _), aG [] rfl, rfl, rfl⟩))
set_option maxRecDepth 100000 in
set_option maxHeartbeats 1000000 in
theorem kP (F : Nat) (a1 : List UInt8) (a2 : Int) (r3 : Int) (r4 : Int) (H : eS F a1 a2 = some (r3, r4)) : ACalls Tryz.prog 59 [S a1, i64 a2] [] (Ret (.tup [i64 r3, i64 r4]) []) := by
 unfold eS at H
 refine au Tryz.func59 rfl rfl ?_;show AW _ _ 39 _ _ _;refine af <| aa ?_;show AR _ _ _ _ _ [0, 1] _;refine za rfl <| za rfl <| ag <| af <| aa ?_;show AR _ _ _ _ _ [0] _;refine za rfl <| ag <| bj (X := Int × Int) (fun (y25, y26) => ⟨[(1, i64 y25), (6, i64 y26)], [], []⟩) (fun (y25, y26) => dK y25 y26 = some (r3, r4)) ?_ ?_
 ·refine aN <| cd (X := Nat × Int × Int) (fun (n8, y5, y6) => ⟨[(0, S a1), (1, i64 y5), (6, i64 y6)], [], []⟩) (fun (n8, y5, y6) => bO a1 n8 (y5, y6) = some (r3, r4)) (fun (n8, y5, y6) => n8) (F, a2, 0) H (aO [] (.cons (.refl _) (.cons (.refl _) (.cons (.refl _) (.nil _)))) rfl) ?_;rintro ⟨n8, y5, y6⟩ H;obtain ⟨n8, rfl, H⟩ := cG H;replace H : dm a1 (bO a1 n8) y5 y6 = some (r3, r4) := H
  unfold dm at H
  refine af <| af ?_;obtain ⟨g10, H⟩ := dg H;obtain ⟨x11, e12, H⟩ := bf H;obtain ⟨g14, H⟩ := dg H;obtain ⟨x15, e16, H⟩ := bf H;refine aa ?_;show AR _ _ _ _ _ [0, 1, 2, 3, 4, 5, 6, 7, 8, 9, 10, 11, 12, 13, 14, 15, 16, 17, 18, 19] _;refine zm rfl <| zm rfl <| zS rfl (aW ac rfl) <| zS rfl (bx rfl rfl) <| zm rfl <| aU (l := [10, 11, 12, 13, 14, 15, 16, 17, 18, 19]) 16 (B ((decide (y5 < (a1.length : Int))) && (decide (48 ≤ (x11.toNat : Int))))) (fun K => ?_) ?_
  ·rcases ak (decide (y5 < (a1.length : Int))) with h9 | h9
   ·refine zM h9 rfl <| zM h9 rfl <| zU h9 rfl (bg ac rfl rfl (g10 h9) e12) <| zU h9 rfl (dc rfl rfl) <| zS rfl (aF (av := .v _) rfl h9 rfl) ?_;exact K _ 4 _ (ay (cb h9)) rfl rfl
   ·refine zF h9 rfl <| zF h9 rfl <| zF h9 rfl <| zF h9 rfl <| zS rfl (aD (av := .v _) rfl h9 rfl) ?_;exact K _ 4 _ (ay (cc h9)) rfl rfl
  refine zm rfl <| aU (l := [16, 17, 18, 19]) 22 (B (((decide (y5 < (a1.length : Int))) && (decide (48 ≤ (x11.toNat : Int)))) && (decide ((x15.toNat : Int) ≤ 57)))) (fun K => ?_) ?_
  ·rcases ak ((decide (y5 < (a1.length : Int))) && (decide (48 ≤ (x11.toNat : Int)))) with h13 | h13
   ·refine zM h13 rfl <| zM h13 rfl <| zU h13 rfl (bg ac rfl rfl (g14 h13) e16) <| zU h13 rfl (de rfl rfl) <| zS rfl (aF (av := .v _) rfl h13 rfl) ?_;exact K _ 4 _ (ay (cb h13)) rfl rfl
   ·refine zF h13 rfl <| zF h13 rfl <| zF h13 rfl <| zF h13 rfl <| zS rfl (aD (av := .v _) rfl h13 rfl) ?_;exact K _ 4 _ (ay (cc h13)) rfl rfl
  refine zm rfl <| aU (l := []) 26 (B ((((decide (y5 < (a1.length : Int))) && (decide (48 ≤ (x11.toNat : Int)))) && (decide ((x15.toNat : Int) ≤ 57))) && (decide (y6 ≤ 1073741824)))) (fun K => ?_) ?_
  ·rcases ak (((decide (y5 < (a1.length : Int))) && (decide (48 ≤ (x11.toNat : Int)))) && (decide ((x15.toNat : Int) ≤ 57))) with h17 | h17
   ·refine zM h17 rfl <| zU h17 rfl (de rfl rfl) <| zS rfl (aF (av := .v _) rfl h17 rfl) ?_;exact K _ 2 _ (ay (cb h17)) rfl rfl
   ·refine zF h17 rfl <| zF h17 rfl <| zS rfl (aD (av := .v _) rfl h17 rfl) ?_;exact K _ 2 _ (ay (cc h17)) rfl rfl
  refine ag <| az rfl (fun c18 => ?_) (fun c18 => ?_)
  ·replace H := aZ c18 H;refine aC <| aN <| af ?_;obtain ⟨g19, H⟩ := ax H;obtain ⟨g20, H⟩ := ax H;obtain ⟨x21, e22, H⟩ := bf H;obtain ⟨g23, H⟩ := ax H;refine aa ?_;show AR _ _ _ _ _ [0, 1, 2, 3, 4, 5, 6, 7, 8] _;refine zm rfl <| zS rfl (hU rfl rfl g19) <| zm rfl <| zm rfl <| zS rfl (bg ac rfl rfl g20 e22) <| zS rfl (qg (a := x21) (b := 48) rfl rfl) <| zS rfl (ow (c := x21 - 48) (by kernel_rfl) bi rfl) <| zS rfl (bn rfl rfl g23) <| za rfl <| ag ?_;obtain ⟨g24, H⟩ := ax H;refine aa ?_;show AR _ _ _ _ _ [0, 1, 2] _;refine zm rfl <| zS rfl (bn rfl rfl g24) <| za rfl <| ag ?_;exact Exists.intro (n8, y5 + 1, (10 * y6) + ((x21 - 48).toNat : Int)) ⟨H, Nat.lt_succ_self _, aO [] (.cons (.refl _) (.cons (.refl _) (.cons (.refl _) (.nil _)))) rfl⟩
  ·replace H := ba c18 H;refine bR ?_;exact Exists.intro (y5, y6) ⟨H, aO [] (.cons (.refl _) (.cons (.refl _) (.nil _))) rfl⟩
 rintro ⟨y25, y26⟩ H;replace H : dK y25 y26 = some (r3, r4) := H
 unfold dK at H
 refine af <| aa ?_;show AR _ _ _ _ _ [0, 1, 2, 3] _;refine zm rfl <| zm rfl <| za rfl <| za rfl <| ag <| aI ?_;obtain ⟨rfl, rfl⟩ := cN H;exact And.intro rfl (Exists.intro _ (Exists.intro _ ⟨bb rfl (.refl _) (.refl _), aG [] rfl, rfl, rfl⟩))
set_option maxRecDepth 100000 in
set_option maxHeartbeats 1000000 in
theorem qk (F : Nat) (a1 : List UInt8) (r2 : Int) (r3 : Int) (r4 : Int) (H : ef F a1 = some (r2, r3, r4)) : ACalls Tryz.prog 23 [S a1] [] (Ret (.tup [i64 r2, i64 r3, i64 r4]) []) := by
 unfold ef at H
 refine au Tryz.func23 rfl rfl ?_;show AW _ _ 38 _ _ _;refine af <| aa ?_;show AR _ _ _ _ _ [0, 1, 2] _;refine za rfl <| za rfl <| za rfl <| ag <| af ?_;obtain ⟨x5, x6, e7, H⟩ := cA H;refine aa ?_;show AR _ _ _ _ _ [0, 1, 2, 3, 4, 5, 6] _;refine zm rfl <| ao rfl rfl (aE rfl qY rfl (kP F a1 1 x5 x6 e7) ?_);refine zS rfl (aj (av := .tup _) rfl) <| zS rfl (aA (av := .v _) rfl rfl) <| zS rfl (aA (av := .v _) rfl rfl) <| za rfl <| za rfl <| ag <| af ?_;obtain ⟨g8, H⟩ := ax H;obtain ⟨x9, x10, e11, H⟩ := cA H;refine aa ?_;show AR _ _ _ _ _ [0, 1, 2, 3, 4, 5, 6, 7, 8] _;refine zm rfl <| zm rfl <| zS rfl (bn rfl rfl g8) <| ao rfl rfl (aE rfl qY rfl (kP F a1 (x6 + 1) x9 x10 e11) ?_);refine zS rfl (aj (av := .tup _) rfl) <| zS rfl (aA (av := .v _) rfl rfl) <| zS rfl (aA (av := .v _) rfl rfl) <| za rfl <| za rfl <| ag <| af ?_;obtain ⟨x12, x13, e14, H⟩ := cA H;refine aa ?_;show AR _ _ _ _ _ [0, 1, 2, 3, 4, 5, 6, 7] _;refine zm rfl <| zm rfl <| ao rfl rfl (aE rfl wA rfl (px F x9 x5 x12 x13 e14) ?_);refine zS rfl (aj (av := .tup _) rfl) <| zS rfl (aA (av := .v _) rfl rfl) <| zS rfl (aA (av := .v _) rfl rfl) <| za rfl <| za rfl <| ag <| af <| af <| aa ?_;show AR _ _ _ _ _ [0, 1, 2, 3, 4, 5, 6] _
 refine zm rfl <| zS rfl (cO rfl rfl) <| zm rfl <| aU (l := []) 35 (B ((!decide (x13 = 0)) || (!decide (x12 = a1)))) (fun K => ?_) ?_
 ·rcases ak (!decide (x13 = 0)) with h15 | h15
  ·refine zF h15 rfl <| zF h15 rfl <| zF h15 rfl <| zS rfl (aF (av := .v _) rfl h15 rfl) ?_;exact K _ 3 _ (ay (fc h15)) rfl rfl
  ·refine zM h15 rfl <| zM h15 rfl <| zU h15 rfl (gd rfl rfl) <| zS rfl (aD (av := .v _) rfl h15 rfl) ?_;exact K _ 3 _ (ay (fe h15)) rfl rfl
 refine ag <| az rfl (fun c16 => ?_) (fun c16 => ?_)
 ·replace H := aZ c16 H;refine af <| aa ?_;show AR _ _ _ _ _ [0, 1, 2] _;refine za rfl <| za rfl <| za rfl <| ag <| aI ?_;obtain ⟨rfl, rfl, rfl⟩ := oZ H;exact And.intro rfl (Exists.intro _ (Exists.intro _ ⟨cR rfl (.refl _) (.refl _) (.refl _), aG [] rfl, rfl, rfl⟩))
 ·replace H := ba c16 H;refine aC <| af <| aa ?_;show AR _ _ _ _ _ [0, 1, 2, 3, 4] _;refine zm rfl <| zm rfl <| za rfl <| za rfl <| za rfl <| ag <| aI ?_;obtain ⟨rfl, rfl, rfl⟩ := oZ H;exact And.intro rfl (Exists.intro _ (Exists.intro _ ⟨cR rfl (.refl _) (.refl _) (.refl _), aG [] rfl, rfl, rfl⟩))
end Go.Proofs.YtjegcifofddgbaaGreatDoor
namespace Go.Pv
def ew (F : Nat) (a1 : Int) (a2 : Int) (a3 : List UInt8) : Option Bool :=
bnd (gI F) fun x5 =>
bif (!x5) || (decide (100 < (a3.length : Int))) then
  some x5
else
  ff (gW F a1 a2) fun x9 x10 =>
  ff (ga F a1 a2) fun x12 x13 =>
  bnd3 (eX F a3) fun x15 x16 x17 =>
  bnd3 (ef F a3) fun x19 x20 x21 =>
  some (((((decide (x9 = x12)) && (decide (x10 = x13))) && (decide (x15 = x19))) && (decide (x16 = x20))) && (decide (x17 = x21)))
end Go.Pv
namespace Go.Proofs.YtjegcifofddgbaaGreatDoor
open Go.RowKit Go.Av Go.Pv
theorem pn : ∀ (args : Array Value) (w : World), (callFunc 9 args).run Tryz.prog w = .ok (.enter 9 args) w := fun _ _ => by kernel_rfl
theorem oV : ∀ (args : Array Value) (w : World), (callFunc 15 args).run Tryz.prog w = .ok (.enter 15 args) w := fun _ _ => by kernel_rfl
theorem oU : ∀ (args : Array Value) (w : World), (callFunc 21 args).run Tryz.prog w = .ok (.enter 21 args) w := fun _ _ => by kernel_rfl
theorem oT : ∀ (args : Array Value) (w : World), (callFunc 22 args).run Tryz.prog w = .ok (.enter 22 args) w := fun _ _ => by kernel_rfl
theorem oS : ∀ (args : Array Value) (w : World), (callFunc 23 args).run Tryz.prog w = .ok (.enter 23 args) w := fun _ _ => by kernel_rfl
set_option maxRecDepth 100000 in
set_option maxHeartbeats 1000000 in
theorem mP (F : Nat) (a1 : Int) (a2 : Int) (a3 : List UInt8) (r4 : Bool) (H : ew F a1 a2 a3 = some r4) : ACalls Tryz.prog 6 [i64 a1, i64 a2, S a3] [] (Ret (B r4) []) := by
 unfold ew at H
 refine au Tryz.func6 rfl rfl ?_;show AW _ _ 74 _ _ _;refine af <| aa ?_;show AR _ _ _ _ _ [0] _;refine za rfl <| ag <| af ?_;obtain ⟨x5, e6, H⟩ := bL H;refine aa ?_;show AR _ _ _ _ _ [0, 1] _;refine ao rfl rfl (aE rfl pn rfl (qn F x5 e6) ?_);refine za rfl <| ag <| af <| af <| aa ?_;show AR _ _ _ _ _ [0, 1, 2, 3, 4, 5, 6] _;refine zm rfl <| zS rfl (cr rfl) <| zm rfl <| aU (l := []) 25 (B ((!x5) || (decide (100 < (a3.length : Int))))) (fun K => ?_) ?_
 ·rcases ak (!x5) with h7 | h7
  ·refine zF h7 rfl <| zF h7 rfl <| zF h7 rfl <| zS rfl (aF (av := .v _) rfl h7 rfl) ?_;exact K _ 3 _ (ay (fc h7)) rfl rfl
  ·refine zM h7 rfl <| zU h7 rfl (aW ac rfl) <| zU h7 rfl (cP rfl rfl) <| zS rfl (aD (av := .v _) rfl h7 rfl) ?_;exact K _ 3 _ (ay (fe h7)) rfl rfl
 refine ag <| az rfl (fun c8 => ?_) (fun c8 => ?_)
 ·replace H := aZ c8 H;refine af <| aa ?_;show AR _ _ _ _ _ [0, 1] _;refine zm rfl <| za rfl <| ag <| aI ?_;obtain rfl := ap H;exact And.intro rfl (Exists.intro _ (Exists.intro _ ⟨aH rfl (.refl _), aG [] rfl, rfl, rfl⟩))
 ·replace H := ba c8 H;refine aC <| af ?_;obtain ⟨x9, x10, e11, H⟩ := cA H;refine aa ?_;show AR _ _ _ _ _ [0, 1, 2, 3, 4, 5, 6, 7] _;refine zm rfl <| zm rfl <| ao rfl rfl (aE rfl oU rfl (ng F a1 a2 x9 x10 e11) ?_);refine zS rfl (aj (av := .tup _) rfl) <| zS rfl (aA (av := .v _) rfl rfl) <| zS rfl (aA (av := .v _) rfl rfl) <| za rfl <| za rfl <| ag <| af ?_;obtain ⟨x12, x13, e14, H⟩ := cA H;refine aa ?_;show AR _ _ _ _ _ [0, 1, 2, 3, 4, 5, 6, 7] _;refine zm rfl <| zm rfl <| ao rfl rfl (aE rfl oT rfl (px F a1 a2 x12 x13 e14) ?_);refine zS rfl (aj (av := .tup _) rfl) <| zS rfl (aA (av := .v _) rfl rfl) <| zS rfl (aA (av := .v _) rfl rfl) <| za rfl <| za rfl <| ag <| af ?_;obtain ⟨x15, x16, x17, e18, H⟩ := sg H;refine aa ?_;show AR _ _ _ _ _ [0, 1, 2, 3, 4, 5, 6, 7, 8] _;refine zm rfl <| ao rfl rfl (aE rfl oV rfl (og F a3 x15 x16 x17 e18) ?_);refine zS rfl (aj (av := .tup _) rfl) <| zS rfl (aA (av := .v _) rfl rfl) <| zS rfl (aA (av := .v _) rfl rfl) <| zS rfl (aA (av := .v _) rfl rfl) <| za rfl <| za rfl <| za rfl <| ag <| af ?_;obtain ⟨x19, x20, x21, e22, H⟩ := sg H;refine aa ?_;show AR _ _ _ _ _ [0, 1, 2, 3, 4, 5, 6, 7, 8] _;refine zm rfl <| ao rfl rfl (aE rfl oS rfl (qk F a3 x19 x20 x21 e22) ?_)
  refine zS rfl (aj (av := .tup _) rfl) <| zS rfl (aA (av := .v _) rfl rfl) <| zS rfl (aA (av := .v _) rfl rfl) <| zS rfl (aA (av := .v _) rfl rfl) <| za rfl <| za rfl <| za rfl <| ag <| af <| aa ?_;show AR _ _ _ _ _ [0, 1, 2, 3, 4, 5, 6, 7, 8, 9, 10, 11, 12, 13, 14, 15, 16, 17, 18, 19, 20, 21, 22, 23] _;refine zm rfl <| zm rfl <| zS rfl (eB rfl rfl) <| zm rfl <| aU (l := [8, 9, 10, 11, 12, 13, 14, 15, 16, 17, 18, 19, 20, 21, 22, 23]) 58 (B ((decide (x9 = x12)) && (decide (x10 = x13)))) (fun K => ?_) ?_
  ·rcases ak (decide (x9 = x12)) with h23 | h23
   ·refine zM h23 rfl <| zM h23 rfl <| zU h23 rfl (cl rfl rfl) <| zS rfl (aF (av := .v _) rfl h23 rfl) ?_;exact K _ 3 _ (ay (cb h23)) rfl rfl
   ·refine zF h23 rfl <| zF h23 rfl <| zF h23 rfl <| zS rfl (aD (av := .v _) rfl h23 rfl) ?_;exact K _ 3 _ (ay (cc h23)) rfl rfl
  refine zm rfl <| aU (l := [13, 14, 15, 16, 17, 18, 19, 20, 21, 22, 23]) 63 (B (((decide (x9 = x12)) && (decide (x10 = x13))) && (decide (x15 = x19)))) (fun K => ?_) ?_
  ·rcases ak ((decide (x9 = x12)) && (decide (x10 = x13))) with h24 | h24
   ·refine zM h24 rfl <| zM h24 rfl <| zU h24 rfl (cl rfl rfl) <| zS rfl (aF (av := .v _) rfl h24 rfl) ?_;exact K _ 3 _ (ay (cb h24)) rfl rfl
   ·refine zF h24 rfl <| zF h24 rfl <| zF h24 rfl <| zS rfl (aD (av := .v _) rfl h24 rfl) ?_;exact K _ 3 _ (ay (cc h24)) rfl rfl
  refine zm rfl <| aU (l := [18, 19, 20, 21, 22, 23]) 68 (B ((((decide (x9 = x12)) && (decide (x10 = x13))) && (decide (x15 = x19))) && (decide (x16 = x20)))) (fun K => ?_) ?_
  ·rcases ak (((decide (x9 = x12)) && (decide (x10 = x13))) && (decide (x15 = x19))) with h25 | h25
   ·refine zM h25 rfl <| zM h25 rfl <| zU h25 rfl (cl rfl rfl) <| zS rfl (aF (av := .v _) rfl h25 rfl) ?_;exact K _ 3 _ (ay (cb h25)) rfl rfl
   ·refine zF h25 rfl <| zF h25 rfl <| zF h25 rfl <| zS rfl (aD (av := .v _) rfl h25 rfl) ?_;exact K _ 3 _ (ay (cc h25)) rfl rfl
  refine zm rfl <| aU (l := [23]) 73 (B (((((decide (x9 = x12)) && (decide (x10 = x13))) && (decide (x15 = x19))) && (decide (x16 = x20))) && (decide (x17 = x21)))) (fun K => ?_) ?_
  ·rcases ak ((((decide (x9 = x12)) && (decide (x10 = x13))) && (decide (x15 = x19))) && (decide (x16 = x20))) with h26 | h26
   ·refine zM h26 rfl <| zM h26 rfl <| zU h26 rfl (cl rfl rfl) <| zS rfl (aF (av := .v _) rfl h26 rfl) ?_;exact K _ 3 _ (ay (cb h26)) rfl rfl
   ·refine zF h26 rfl <| zF h26 rfl <| zF h26 rfl <| zS rfl (aD (av := .v _) rfl h26 rfl) ?_;exact K _ 3 _ (ay (cc h26)) rfl rfl
  refine za rfl <| ag <| aI ?_;obtain rfl := ap H;exact And.intro rfl (Exists.intro _ (Exists.intro _ ⟨aH rfl (.refl _), aG [] rfl, rfl, rfl⟩))
end Go.Proofs.YtjegcifofddgbaaGreatDoor
namespace Go.Dg
open Go.Pv Go.Av
open Go.Lib (decDigits)
abbrev Bs := List UInt8
theorem iZ {n : Nat} (h : n < 10) : decDigits n = [UInt8.ofNat (48 + n)] := by rw [decDigits, dif_pos h]
theorem oM {n : Nat} (h : ¬ n < 10) : decDigits n = decDigits (n / 10) ++ [UInt8.ofNat (48 + n % 10)] := by rw [decDigits, dif_neg h]
theorem tM (n : Nat) : Go.Lib.itoa (n : Int) = decDigits n := by
  unfold Go.Lib.itoa
  rw [if_neg (by omega), Int.toNat_natCast]
theorem lG (k : Nat) (h : k < 10) : (UInt8.ofNat (48 + k)).toNat = 48 + k := by
  have : ∀ k : Fin 10, (UInt8.ofNat (48 + k.val)).toNat = 48 + k.val := by decide +kernel
  exact this ⟨k, h⟩
def Dig (c : UInt8) : Prop := 48 ≤ c.toNat ∧ c.toNat ≤ 57
theorem dd_dig : ∀ (m n : Nat), n < m → ∀ c ∈ decDigits n, Dig c := by
  intro m
  induction m with
  | zero => intro n h; omega
  | succ m ih =>
    intro n h c hc
    by_cases hn : n < 10
    · rw [iZ hn] at hc
      rw [List.mem_singleton.1 hc]; unfold Dig; rw [lG n hn]; omega
    · rw [oM hn] at hc
      rcases List.mem_append.1 hc with hc | hc
      · exact ih (n / 10) (by omega) c hc
      · rw [List.mem_singleton.1 hc]; unfold Dig; rw [lG _ (by omega)]; omega
theorem pg (n : Nat) : ∀ c ∈ decDigits n, Dig c := dd_dig (n + 1) n (by omega)
theorem kJ : ∀ (m n : Nat), n < 10 ^ m → (decDigits n).length ≤ m + 1 := by
  intro m
  induction m with
  | zero => intro n h; rw [iZ (by omega)]; simp
  | succ m ih =>
    intro n h
    by_cases hn : n < 10
    · rw [iZ hn]; simp
    · have h10 : n / 10 < 10 ^ m := by rw [Nat.pow_succ] at h; omega
      rw [oM hn, List.length_append]
      have := ih _ h10
      simp; omega
theorem dd_pos (n : Nat) : 1 ≤ (decDigits n).length := by
  by_cases hn : n < 10
  · rw [iZ hn]; simp
  · rw [oM hn]; simp
def val (v : Nat) : Bs → Nat
  | [] => v
  | c :: r => val (10 * v + (c.toNat - 48)) r
theorem vp : ∀ (a b : Bs) (v : Nat), val v (a ++ b) = val (val v a) b
  | [], b, v => rfl
  | c :: r, b, v => vp r b _
theorem val_dd : ∀ (m n : Nat), n < m → val 0 (decDigits n) = n := by
  intro m
  induction m with
  | zero => intro n h; omega
  | succ m ih =>
    intro n h
    by_cases hn : n < 10
    · rw [iZ hn]; show 10 * 0 + ((UInt8.ofNat (48 + n)).toNat - 48) = n; rw [lG n hn]; omega
    · rw [oM hn, vp, ih (n / 10) (by omega)]
      show 10 * (n / 10) + ((UInt8.ofNat (48 + n % 10)).toNat - 48) = n
      rw [lG _ (by omega)]; omega
theorem pa (n : Nat) : val 0 (decDigits n) = n := val_dd (n + 1) n (by omega)
theorem val_le : ∀ (s : Bs) (v : Nat), v ≤ val v s
  | [], v => Nat.le_refl _
  | c :: r, v => Nat.le_trans (by omega) (val_le r _)
end Go.Dg
namespace Go.Dg
open Go.Pv Go.Av
open Go.Lib (decDigits)
theorem tand (x : Bool) : (true && x) = x := Eq.symm (Eq.symm rfl)
theorem fand (x : Bool) : (false && x) = false := Eq.symm (Eq.symm rfl)
theorem fo (x : Bool) : (false || x) = x := Eq.symm (Eq.symm rfl)
theorem nfl : (!false) = true := Eq.symm (Eq.symm rfl)
theorem ntr : (!true) = false := Eq.symm (Eq.symm rfl)
theorem cfl {α : Type} (a b : α) : (bif false then a else b) = b := Eq.symm (Eq.symm rfl)
theorem ctr {α : Type} (a b : α) : (bif true then a else b) = a := Eq.symm (Eq.symm rfl)
def Tot (o : Option (Int × Int)) : Prop := ∃ x k, o = some (x, k) ∧ (k = 0 ∨ k = 1 ∨ k = 2)
theorem Tot.z (x : Int) : Tot (some (x, 0)) := ⟨x, 0, rfl, .inl rfl⟩
theorem Tot.o (x : Int) : Tot (some (x, 1)) := ⟨x, 1, rfl, .inr (.inl rfl)⟩
theorem Tot.t (x : Int) : Tot (some (x, 2)) := ⟨x, 2, rfl, .inr (.inr rfl)⟩
theorem eI {c : Bool} {a b : Option (Int × Int)} (ha : Tot a) (hb : Tot b) : Tot (bif c then a else b) := by cases c <;> assumption
theorem tot_bndc {c : Bool} {v : UInt8} {f : UInt8 → Option (Int × Int)} (h : ∀ x, Tot (f x)) : Tot (jO c (some v) f) := by
  cases c
  · exact h _
  · exact h _
theorem j3_tot (y17 : Int) (y23 y24 : Int) (rec : (Bool × Int × Int) → Option (Int × Int)) (y43 : UInt8) (h : ∀ v, Tot (rec (false, v, y24 + 1))) (hb : -9223372036854775808 ≤ y24 + 1 ∧ y24 + 1 ≤ 9223372036854775807) :
    Tot (dl 10 y17 false y23 y24 rec y43) := by
  unfold dl dH
  refine eI (.t _) (eI (.o _) (eI (.o _) ?_))
  rw [hO hb]
  exact h _
theorem vM (F : Nat) (s : Bs) (c : Int) (hs : s.length ≤ 1000) : ∀ (n i : Nat) (v : Int), s.length - i < n → i ≤ s.length → Tot (cB F s 10 c n (false, v, (i : Int))) := by
  intro n
  induction n with
  | zero => intro i v h; omega
  | succ n ih =>
    intro i v hn hi;show Tot (em F s 10 c (cB F s 10 c n) false v (i : Int))
    unfold em
    by_cases h : i < s.length
    · have e : ((i : Int) + 1) = ((i + 1 : Nat) : Int) := by omega
      have hr : ∀ v, Tot (cB F s 10 c n (false, v, (i : Int) + 1)) := fun v => by rw [e]; exact ih (i + 1) v (by omega) (by omega)
      have h10 : decide ((10 : Int) = 0) = false := by decide
      rw [bT (by omega), kI (by omega), di, h10, Bool.and_false, cfl]
      refine eI (j3_tot _ _ _ _ _ hr (by omega)) ?_
      unfold eF
      rw [gb]
      refine tot_bndc fun x38 => eI ?_ (.t _)
      rw [gb]
      exact j3_tot _ _ _ _ _ hr (by omega)
    · rw [bF (by omega)]
      unfold el
      rw [bndc_f, fand, cfl]
      exact .z _
theorem uint_tot (F : Nat) (s : Bs) (hs : s.length ≤ 1000) (hF : s.length < F) : Tot (eR F s 10 0) := by
  unfold eR
  refine eI (.t _) ?_
  have h1 : ((decide ((2 : Int) ≤ 10)) && (decide ((10 : Int) ≤ 36))) = true := by decide
  rw [h1, grd_t]
  unfold ej ek
  rw [grd_D rfl, bT rfl]
  unfold dk
  have h2 : decide (0 ≤ IntKind.u64.wrap 64) = true := by decide +kernel
  rw [h2, grd_t, eZ (by omega)]
  exact vM F s _ hs F 0 0 (by omega) (by omega)
theorem ut (b : Bool) (x : Int) : Tot (dI b x) := by
  unfold dI dJ
  have h2 : decide (0 ≤ IntKind.u64.wrap 63) = true := by decide +kernel
  rw [h2, grd_t]
  exact eI (.o _) (eI (.o _) (eI (.z _) (.z _)))
theorem mq (F : Nat) (s : Bs) (b : Bool) (hs : s.length ≤ 1000) (hF : s.length < F) : Tot (cZ F 10 0 s b) := by
  unfold cZ
  obtain ⟨x, k, e, hk⟩ := uint_tot F s hs hF
  rw [e, cz]
  by_cases h2 : k = 2
  · subst h2
    have : ((!decide ((2 : Int) = 0)) && (!decide ((2 : Int) = 1))) = true := by decide
    rw [this, ctr]
    exact .t _
  · have : ((!decide (k = 0)) && (!decide (k = 1))) = false := by
      rcases hk with rfl | rfl | rfl
      · decide
      · decide
      · exact absurd rfl h2
    rw [this, cfl, grd_D rfl]
    exact ut _ _
theorem int_tot (F : Nat) (s : Bs) (hs : s.length ≤ 1000) (hF : s.length < F) : Tot (fP F s 10 0) := by
  unfold fP
  by_cases h : s = []
  · rw [bT h]; exact .t _
  · have hp : 0 < s.length := List.length_pos_iff.2 h
    have hf : (fb s 1).length ≤ s.length := by unfold fb; simp
    rw [bF h, kI (by omega), di]
    refine eI ?_ (eI ?_ (mq F s _ hs hF))
    · rw [vm (by omega), di]; exact mq F _ _ (by omega) (by omega)
    · rw [vm (by omega), di]; exact mq F _ _ (by omega) (by omega)
theorem ma (a s : Bs) (ha : a ≠ []) (hs : s.length ≤ 18) : ∀ (n i v : Nat), s.length - i < n → i ≤ s.length → v < 10 ^ i → Tot (fC a s n ((v : Int), (i : Int))) := by
  intro n
  induction n with
  | zero => intro i v h; omega
  | succ n ih =>
    intro i v hn hi hv;show Tot (fD a s (fC a s n) (v : Int) (i : Int))
    unfold fD
    have hv18 : v < 10 ^ 18 := Nat.lt_of_lt_of_le hv (Nat.pow_le_pow_right (by omega) (by omega))
    by_cases h : i < s.length
    · have hv17 : v < 10 ^ 17 := Nat.lt_of_lt_of_le hv (Nat.pow_le_pow_right (by omega) (by omega))
      rw [bT (by omega), kI (by omega), di]
      obtain ⟨c, hc⟩ : ∃ c, c = at_ s (i : Int) := ⟨_, rfl⟩
      rw [← hc]
      by_cases h9 : 9 < (c - 48).toNat
      · rw [bT (by omega)]; exact .t _
      · have e1 : ((v : Int) * 10) + ((c - 48).toNat : Int) = ((v * 10 + (c - 48).toNat : Nat) : Int) := by omega
        have e2 : ((i : Int) + 1) = ((i + 1 : Nat) : Int) := by omega
        rw [bF (by omega), hO (by omega), hO (by omega), hO (by omega), e1, e2]
        refine ih (i + 1) _ (by omega) (by omega) ?_
        rw [Nat.pow_succ]; omega
    · rw [bF (by omega)]
      unfold fA fB
      have hp : 0 < a.length := List.length_pos_iff.2 ha
      rw [kI (by omega), di]
      refine eI ?_ (.z _)
      rw [hO (by omega)]; exact .z _
theorem atoi_tot (F : Nat) (s : Bs) (hs : s.length ≤ 1000) (hF : s.length < F) : Tot (kF F s) := by
  unfold kF fy iU
  by_cases h : 0 < s.length ∧ s.length < 19
  · have hc : ((decide (0 < (s.length : Int))) && (decide ((s.length : Int) < 19))) = true := by
      rw [decide_eq_true (by omega), decide_eq_true (by omega)]; rfl
    have hne : s ≠ [] := List.length_pos_iff.1 h.1
    have hf : (fb s 1).length ≤ s.length := by unfold fb; simp
    rw [hc, ctr, kI (by omega), di]
    have hg : ∀ (c : Bool) (x : Option (Int × Int)), fZ c (ct 0 s.length) x = x := fun c x => rX fun _ => by omega
    rw [hg, di]
    refine eI ?_ ?_
    · rw [vm (by omega), di]
      refine eI (.t _) ?_
      rw [eZ (by omega)]
      exact ma s _ hne (by omega) F 0 0 (by omega) (by omega) (by omega)
    · rw [eZ (by omega)]
      exact ma s _ hne (by omega) F 0 0 (by omega) (by omega) (by omega)
  · have hc : ((decide (0 < (s.length : Int))) && (decide ((s.length : Int) < 19))) = false := by
      by_cases h0 : 0 < s.length
      · rw [decide_eq_false (show ¬ ((s.length : Int) < 19) by omega), Bool.and_false]
      · rw [decide_eq_false (show ¬ (0 < (s.length : Int)) by omega)]; rfl
    rw [hc, cfl]
    obtain ⟨x, k, e, hk⟩ := int_tot F s hs hF
    rw [e, cz]
    exact ⟨x, k, rfl, hk⟩
theorem tV (F : Nat) (s : Bs) (hs : s.length ≤ 1000) (hF : s.length < F) : ∃ x k, dN F s = some (x, k) := by
  unfold dN
  obtain ⟨x, k, e, hk⟩ := atoi_tot F s hs hF
  rw [e, cz]
  by_cases h0 : k = 0
  · subst h0; exact ⟨x, 0, by rw [decide_eq_true rfl, ntr, cfl]⟩
  · refine ⟨x, 1, ?_⟩
    rw [decide_eq_false h0, nfl, ctr, tX (by omega), grd_D (by omega)]
theorem vC (c : UInt8) (h : Dig c) : (c - 48).toNat = c.toNat - 48 := by
  have : ∀ k : Fin 256, (48 ≤ k.val ∧ k.val ≤ 57) → (UInt8.ofNat k.val - 48).toNat = k.val - 48 := by decide +kernel
  have h1 := this ⟨c.toNat, c.toNat_lt⟩ h
  simpa using h1
theorem wO (a : Bs) (s : Bs) (hs : s.length ≤ 18) (hd : ∀ c ∈ s, Dig c) : ∀ (n i v : Nat), s.length - i < n → i ≤ s.length → v < 10 ^ i → fC a s n ((v : Int), (i : Int)) = fA a ((val v (s.drop i) : Nat) : Int) := by
  intro n
  induction n with
  | zero => intro i v h; omega
  | succ n ih =>
    intro i v hn hi hv;show fD a s (fC a s n) (v : Int) (i : Int) = _
    unfold fD
    by_cases h : i < s.length
    · have hv17 : v < 10 ^ 17 := Nat.lt_of_lt_of_le hv (Nat.pow_le_pow_right (by omega) (by omega))
      have hdr : s.drop i = s[i] :: s.drop (i + 1) := cn h
      have hc := hd _ (List.getElem_mem h)
      have hsub := vC _ hc
      obtain ⟨hc1, hc2⟩ := hc
      rw [bT (by omega), kI (by omega), di, sh h]
      have e1 : ((v : Int) * 10) + ((s[i] - 48).toNat : Int) = ((10 * v + (s[i].toNat - 48) : Nat) : Int) := by rw [hsub]; omega
      have e2 : ((i : Int) + 1) = ((i + 1 : Nat) : Int) := by omega
      rw [bF (by rw [hsub]; omega), hO (by omega), hO (by omega), hO (by omega), e1, e2, ih (i + 1) _ (by omega) (by omega) (by rw [Nat.pow_succ]; omega), hdr]
      rfl
    · rw [bF (by omega), ca (by omega)]; rfl
theorem vE (F : Nat) (n : Nat) (hn : n ≤ 1073741824) (hF : 100 < F) : dN F (decDigits n) = some ((n : Int), 0) := by
  have hl : (decDigits n).length ≤ 11 := kJ 10 n (by omega)
  have hp := dd_pos n
  have hd := pg n
  have h0 : at_ (decDigits n) 0 = (decDigits n)[0] := at_zero (by omega)
  have hd0 := hd _ (List.getElem_mem (show 0 < (decDigits n).length by omega))
  have n45 : (decDigits n)[0] ≠ 45 := fun e => by rw [e] at hd0; exact absurd hd0.1 (by decide)
  have n43 : (decDigits n)[0] ≠ 43 := fun e => by rw [e] at hd0; exact absurd hd0.1 (by decide)
  have hc : ((decide (0 < ((decDigits n).length : Int))) && (decide (((decDigits n).length : Int) < 19))) = true := by
    rw [decide_eq_true (by omega), decide_eq_true (by omega)]; rfl
  have hg : ∀ (c : Bool) (x : Option (Int × Int)), fZ c (ct 0 (decDigits n).length) x = x := fun c x => rX fun _ => by omega
  have e : kF F (decDigits n) = some ((n : Int), 0) := by
    unfold kF fy
    rw [hc, ctr, kI (by omega), di, hg, di, h0, decide_eq_false n45, decide_eq_false n43, fo, cfl, eZ (by omega)]
    have := wO (decDigits n) (decDigits n) (by omega) hd F 0 0 (by omega) (by omega) (by omega)
    refine Eq.trans this ?_
    rw [List.drop_zero, pa]
    unfold fA fB
    rw [kI (by omega), di, h0, decide_eq_false n45, cfl]
  unfold dN
  rw [e, cz, decide_eq_true rfl, ntr, cfl]
def tl : Bs := [64, 109, 97, 105, 108, 99, 111, 97, 99, 104, 62]
def kL (no sub : Nat) : Bs := ((([60] ++ decDigits no) ++ [46]) ++ decDigits sub) ++ tl
def nD (sub no : Int) : Prop := (0 ≤ sub ∧ sub ≤ 7) ∧ (1 ≤ no ∧ no ≤ 1073741824)
instance (sub no : Int) : Decidable (nD sub no) := by unfold nD; exact inferInstance
theorem Id_ok (F : Nat) {sub no : Int} (h : nD sub no) : gW F sub no = some (kL no.toNat sub.toNat, 0) := by
  obtain ⟨⟨h1, h2⟩, h3, h4⟩ := h;obtain ⟨n, rfl⟩ := Int.eq_ofNat_of_zero_le (show 0 ≤ no by omega);obtain ⟨m, rfl⟩ := Int.eq_ofNat_of_zero_le h1
  have l1 : (decDigits n).length ≤ 11 := kJ 10 n (by omega)
  have l2 : (decDigits m).length ≤ 2 := kJ 1 m (by omega)
  unfold gW mN
  rw [gb, decide_eq_true h1, decide_eq_true h2, tand, ntr, nfl, bndc_t, gb, decide_eq_true h3, decide_eq_true h4, tand, ntr, fo, cfl, hO (by omega), di, tM, eZ (by simp; omega), di, eZ (by simp; omega), di,
    hO (by omega), di, tM, eZ (by simp; omega), di, eZ (by simp; omega), di]
  rfl
theorem Id_no (F : Nat) {sub no : Int} (h : ¬ nD sub no) : gW F sub no = some ([], 1) := by
  unfold gW mN
  rw [gb]
  by_cases h1 : 0 ≤ sub ∧ sub ≤ 7
  · have h3 : ¬ (1 ≤ no ∧ no ≤ 1073741824) := fun h3 => h ⟨h1, h3⟩
    have e : ((decide (1 ≤ no)) && (decide (no ≤ 1073741824))) = false := by
      by_cases h4 : 1 ≤ no
      · rw [decide_eq_false (show ¬ no ≤ 1073741824 from fun h5 => h3 ⟨h4, h5⟩), Bool.and_false]
      · rw [decide_eq_false h4]; rfl
    rw [decide_eq_true h1.1, decide_eq_true h1.2, tand, ntr, nfl, bndc_t, gb, e, nfl, fo, ctr]
  · have e : ((decide (0 ≤ sub)) && (decide (sub ≤ 7))) = false := by
      by_cases h4 : 0 ≤ sub
      · rw [decide_eq_false (show ¬ sub ≤ 7 from fun h5 => h1 ⟨h4, h5⟩), Bool.and_false]
      · rw [decide_eq_false h4]; rfl
    rw [e, nfl, ntr, bndc_f, Bool.true_or, ctr]
theorem tN (n m : Nat) (h1 : n ≤ 1073741824) (h2 : m ≤ 7) : (kL n m).length ≤ 30 := by
  have l1 : (decDigits n).length ≤ 11 := kJ 10 n (by omega)
  have l2 : (decDigits m).length ≤ 2 := kJ 1 m (by omega)
  unfold kL tl
  simp only [List.length_append, List.length_cons, List.length_nil]; omega
theorem qO (b c : UInt8) (l : Bs) : Go.Lib.index (b :: l) [c] = if b = c then 0 else if Go.Lib.index l [c] = -1 then -1 else Go.Lib.index l [c] + 1 := by
  by_cases h : b = c
  · subst h; simp [Go.Lib.index]
  · simp [Go.Lib.index, h, Ne.symm h]
theorem cut_hit (c : UInt8) (l : Bs) : Go.Lib.cut (c :: l) [c] = ([], l, true) := by
  unfold Go.Lib.cut
  rw [qO, if_pos rfl]; rfl
theorem cut_skip {b c : UInt8} (h : ¬ b = c) (l : Bs) : Go.Lib.cut (b :: l) [c] = (b :: (Go.Lib.cut l [c]).1, (Go.Lib.cut l [c]).2) := by
  have hge := Go.Lib.index_ge l [c]
  unfold Go.Lib.cut
  rw [qO, if_neg h]
  by_cases hm : Go.Lib.index l [c] = -1
  · rw [if_pos hm, hm]; rfl
  · rw [if_neg hm, if_pos (by omega), if_pos (by omega)]
    have h3 : (Go.Lib.index l [c] + 1).toNat = (Go.Lib.index l [c]).toNat + 1 := by omega
    rw [h3]
    simp only [List.take_succ_cons, List.length_singleton, List.drop_succ_cons]
theorem cut_at (c : UInt8) (r : Bs) : ∀ d : Bs, (∀ x ∈ d, x ≠ c) → Go.Lib.cut (d ++ c :: r) [c] = (d, r, true)
  | [], _ => cut_hit c r
  | b :: d, h => by
    rw [List.cons_append, cut_skip (h b (List.mem_cons_self ..)), cut_at c r d fun x hx => h x (List.mem_cons_of_mem _ hx)]
theorem suf (d p : Bs) : Go.Lib.trimSuffix (d ++ p) p = d := by
  unfold Go.Lib.trimSuffix
  have : Go.Lib.hasSuffix (d ++ p) p = true := by unfold Go.Lib.hasSuffix; simp
  rw [if_pos this]; simp
theorem cut_le (s u : Bs) : (Go.Lib.cut s u).1.length ≤ s.length ∧ (Go.Lib.cut s u).2.1.length ≤ s.length := by
  unfold Go.Lib.cut
  split
  · exact ⟨by simp; omega, by simp⟩
  · exact ⟨Nat.le_refl _, by simp⟩
theorem pO (F : Nat) (hF : 1000 < F) {sub no : Int} (h : nD sub no) : eX F (kL no.toNat sub.toNat) = some (sub, no, 0) := by
  have hid := Id_ok F h
  obtain ⟨⟨h1, h2⟩, h3, h4⟩ := h;obtain ⟨n, rfl⟩ := Int.eq_ofNat_of_zero_le (show 0 ≤ no by omega);obtain ⟨m, rfl⟩ := Int.eq_ofNat_of_zero_le h1
  have e1 : Go.Lib.trimPrefix (kL n m) [60] = decDigits n ++ 46 :: (decDigits m ++ tl) := by
    unfold Go.Lib.trimPrefix kL
    have : Go.Lib.hasPrefix (((([60] ++ decDigits n) ++ [46]) ++ decDigits m) ++ tl) [60] = true := by unfold Go.Lib.hasPrefix; simp
    rw [if_pos this]; simp
  have hne : ∀ x ∈ decDigits n, x ≠ 46 := fun x hx e => by
    have := pg n x hx
    rw [e] at this; exact absurd this.1 (by decide)
  have l1 := tN n m (by omega) (by omega)
  have hid' : gW F (m : Int) (n : Int) = some (kL n m, 0) := by simpa using hid
  have hl : (decDigits n ++ 46 :: (decDigits m ++ tl)).length ≤ 30 := by
    have := Go.Lib.trimPrefix_le (kL n m) [60]
    rw [e1] at this; omega
  unfold eX
  simp only [Int.toNat_natCast]
  rw [di, e1, tX (by omega), di, cut_at 46 _ _ hne]
  dsimp only
  rw [vE F n (by omega) (by omega), cz, tX (by simp only [List.length_append, List.length_cons] at hl ⊢; omega), di]
  have e2 : Go.Lib.trimSuffix (decDigits m ++ tl) [64, 109, 97, 105, 108, 99, 111, 97, 99, 104, 62] = decDigits m := suf _ _
  rw [e2, vE F m (by omega) (by omega), cz, hid', cz, decide_eq_true rfl, decide_eq_true rfl, ntr, fo, cfl]
theorem rq (F : Nat) (hF : 1000 < F) (s : Bs) (hs : s.length ≤ 1000) : ∃ sub no k, eX F s = some (sub, no, k) ∧ ((k = 0 ∧ nD sub no ∧ s = kL no.toNat sub.toNat) ∨ (k = 2 ∧ sub = 0 ∧ no = 0)) := by
  have hp := Go.Lib.trimPrefix_le s [60]
  obtain ⟨p, hpe⟩ : ∃ p, p = Go.Lib.trimPrefix s [60] := ⟨_, rfl⟩
  have hc := cut_le p [46]
  unfold eX
  rw [di, ← hpe, tX (by rw [← hpe] at hp; omega), di]
  rw [← hpe] at hp
  obtain ⟨x, k, e⟩ := tV F (Go.Lib.cut p [46]).1 (by omega) (by omega)
  have hs2 := Go.Lib.trimSuffix_le (Go.Lib.cut p [46]).2.1 [64, 109, 97, 105, 108, 99, 111, 97, 99, 104, 62]
  obtain ⟨y, j, e2⟩ := tV F (Go.Lib.trimSuffix (Go.Lib.cut p [46]).2.1 [64, 109, 97, 105, 108, 99, 111, 97, 99, 104, 62]) (by omega) (by omega)
  rw [e, cz, tX (by omega), di, e2, cz]
  by_cases h : nD y x
  · rw [Id_ok F h, cz, decide_eq_true rfl, ntr, fo]
    by_cases hq : kL x.toNat y.toNat = s
    · rw [decide_eq_true hq, ntr, cfl]; exact ⟨y, x, 0, rfl, .inl ⟨rfl, h, hq.symm⟩⟩
    · rw [decide_eq_false hq, nfl, ctr]; exact ⟨0, 0, 2, rfl, .inr ⟨rfl, rfl, rfl⟩⟩
  · rw [Id_no F h, cz, decide_eq_false (by omega), nfl, Bool.true_or, ctr]; exact ⟨0, 0, 2, rfl, .inr ⟨rfl, rfl, rfl⟩⟩
end Go.Dg
namespace Go.Dg
open Go.Pv Go.Av
open Go.Lib (decDigits)
theorem dg_sub (k : Nat) (h : k < 10) : sub ([48, 49, 50, 51, 52, 53, 54, 55, 56, 57] : Bs) (k : Int) ((k : Int) + 1) = [UInt8.ofNat (48 + k)] := by
  have : ∀ k : Fin 10, sub ([48, 49, 50, 51, 52, 53, 54, 55, 56, 57] : Bs) (k.val : Int) ((k.val : Int) + 1) = [UInt8.ofNat (48 + k.val)] := by decide +kernel
  exact this ⟨k, h⟩
theorem tJ : ∀ (k m n : Nat) (acc : Bs), n < 10 ^ k → k < m → n ≤ 1073741824 → acc.length + k ≤ 1000 → ep m ((n : Int), acc) = some ((if n = 0 then [] else decDigits n) ++ acc)
  | k, 0, n, acc, _, h, _, _ => by omega
  | k, m + 1, n, acc, hk, hm, hn, ha => by
    show er (ep m) (n : Int) acc = _
    unfold er eo
    by_cases h : n = 0
    · rw [bF (by omega), if_pos h]; rfl
    · have e1 : (n : Int) % 10 = ((n % 10 : Nat) : Int) := by omega
      have e2 : (n : Int) / 10 = ((n / 10 : Nat) : Int) := by omega
      have hl : ([48, 49, 50, 51, 52, 53, 54, 55, 56, 57] : Bs).length = 10 := rfl
      match k, hk, hm, ha with
      | 0, hk, _, _ => omega
      | k + 1, hk, hm, ha =>
        have hk' : n / 10 < 10 ^ k := by rw [Nat.pow_succ] at hk; omega
        rw [bT (by omega), lP (by omega), lP (by omega), e1, hO (by omega), hl, vv (by omega), di, dg_sub _ (by omega), eZ (by simp; omega), di, lP (by omega), e2, tJ k m (n / 10) _ hk' (by omega) (by omega) (by simp; omega)]
        by_cases h10 : n < 10
        · rw [if_pos (by omega), if_neg h, iZ h10, Nat.mod_eq_of_lt h10]; rfl
        · rw [if_neg (by omega), if_neg h, oM h10, List.append_assoc]
theorem rt (F : Nat) (n : Nat) (hn : n ≤ 1073741824) (hF : 100 < F) : eT F (n : Int) = some (decDigits n) := by
  have e1 : (n : Int) % 10 = ((n % 10 : Nat) : Int) := by omega
  have e2 : (n : Int) / 10 = ((n / 10 : Nat) : Int) := by omega
  have hl : ([48, 49, 50, 51, 52, 53, 54, 55, 56, 57] : Bs).length = 10 := rfl
  unfold eT
  rw [lP (by omega), lP (by omega), e1, hO (by omega), hl, vv (by omega), di, dg_sub _ (by omega), lP (by omega), e2, tJ 10 F (n / 10) _ (by omega) (by omega) (by omega) (by simp)]
  by_cases h10 : n < 10
  · rw [if_pos (by omega), iZ h10, Nat.mod_eq_of_lt h10]; rfl
  · rw [if_neg (by omega), oM h10]
theorem vj (F : Nat) (hF : 100 < F) {sub no : Int} (h : nD sub no) : ga F sub no = some (kL no.toNat sub.toNat, 0) := by
  obtain ⟨⟨h1, h2⟩, h3, h4⟩ := h;obtain ⟨n, rfl⟩ := Int.eq_ofNat_of_zero_le (show 0 ≤ no by omega);obtain ⟨m, rfl⟩ := Int.eq_ofNat_of_zero_le h1
  have l1 : (decDigits n).length ≤ 11 := kJ 10 n (by omega)
  have l2 : (decDigits m).length ≤ 2 := kJ 1 m (by omega)
  unfold ga
  rw [decide_eq_false (show ¬ (m : Int) < 0 by omega), decide_eq_false (show ¬ 8 ≤ (m : Int) by omega), decide_eq_false (show ¬ (n : Int) < 1 by omega), decide_eq_false (show ¬ 1073741824 < (n : Int) by omega), fo, fo, fo, cfl,
    rt F n (by omega) hF, gb, eZ (by simp; omega), di, eZ (by simp; omega), di, rt F m (by omega) hF, gb, eZ (by simp; omega), di, eZ (by simp; omega), di]
  rfl
theorem rId_no (F : Nat) {sub no : Int} (h : ¬ nD sub no) : ga F sub no = some ([], 1) := by
  unfold ga
  have : ((((decide (sub < 0)) || (decide (8 ≤ sub))) || (decide (no < 1))) || (decide (1073741824 < no))) = true := by
    unfold nD at h
    simp only [Bool.or_eq_true, decide_eq_true_eq]
    omega
  rw [this, ctr]
theorem Id_same (F : Nat) (hF : 100 < F) (sub no : Int) : ga F sub no = gW F sub no := by
  by_cases h : nD sub no
  · rw [vj F hF h, Id_ok F h]
  · rw [rId_no F h, Id_no F h]
instance (c : UInt8) : Decidable (Dig c) := by unfold Dig; exact inferInstance
theorem isdig (c : UInt8) : ((decide (48 ≤ (c.toNat : Int))) && (decide ((c.toNat : Int) ≤ 57))) = decide (Dig c) := by
  by_cases h : Dig c
  · rw [decide_eq_true h]
    obtain ⟨h1, h2⟩ := h
    rw [decide_eq_true (show 48 ≤ (c.toNat : Int) by omega), decide_eq_true (show (c.toNat : Int) ≤ 57 by omega)]; rfl
  · rw [decide_eq_false h]
    by_cases h1 : 48 ≤ (c.toNat : Int)
    · rw [decide_eq_false (show ¬ (c.toNat : Int) ≤ 57 from fun h2 => h ⟨by omega, by omega⟩), Bool.and_false]
    · rw [decide_eq_false h1]; rfl
theorem vo (s : Bs) (n i : Nat) (v : Int) (hi : s.length ≤ i) : bO s (n + 1) ((i : Int), v) = some (v, (i : Int)) := by
  show dm s (bO s n) (i : Int) v = _
  unfold dm dK
  rw [decide_eq_false (show ¬ (i : Int) < (s.length : Int) by omega), grdc_f, di, fand, grdc_f, di, fand, fand, cfl]
theorem pf (s : Bs) (n i : Nat) (v : Nat) (hi : i < s.length) (hs : s.length ≤ 1000) (hv : v ≤ 100000000000) : bO s (n + 1) ((i : Int), (v : Int)) =
    bif decide (Dig s[i]) && decide (v ≤ 1073741824) then bO s n (((i + 1 : Nat) : Int), ((10 * v + (s[i].toNat - 48) : Nat) : Int)) else some ((v : Int), (i : Int)) := by
  show dm s (bO s n) (i : Int) (v : Int) = _
  unfold dm dK
  have hb : ∀ c : UInt8, ((true && decide (48 ≤ (c.toNat : Int))) && decide ((c.toNat : Int) ≤ 57)) = decide (Dig c) := fun c => by rw [tand, isdig]
  have hg : ∀ (c : Bool) (x : Option (Int × Int)), fZ c (ct (i : Int) s.length) x = x := fun c x => rX fun _ => by omega
  have hvv : decide ((v : Int) ≤ 1073741824) = decide (v ≤ 1073741824) := decide_eq_decide.2 (by omega)
  rw [decide_eq_true (show (i : Int) < (s.length : Int) by omega), hg, di, hg, di, sh hi, hb, hvv]
  cases hd : decide (Dig s[i]) && decide (v ≤ 1073741824) with
  | false => rw [cfl, cfl]
  | true =>
    rw [Bool.and_eq_true] at hd
    have h1 := of_decide_eq_true hd.1
    have hsub := vC _ h1
    obtain ⟨h2, h3⟩ := h1
    have e1 : (10 * (v : Int)) + ((s[i] - 48).toNat : Int) = ((10 * v + (s[i].toNat - 48) : Nat) : Int) := by rw [hsub]; omega
    rw [ctr, ctr, hO (by omega), kI (by omega), di, e1, hO (by omega), hO (by omega)]
    rfl
theorem dg_tot (s : Bs) (hs : s.length ≤ 1000) : ∀ (n i v : Nat), s.length - i < n → v ≤ 10737418249 → ∃ v' i' : Nat, bO s n ((i : Int), (v : Int)) = some ((v' : Int), (i' : Int)) ∧ i' ≤ i + 1000 := by
  intro n
  induction n with
  | zero => intro i v h; omega
  | succ n ih =>
    intro i v hn hv
    by_cases hi : i < s.length
    · rw [pf s n i v hi hs (by omega)]
      cases hd : decide (Dig s[i]) && decide (v ≤ 1073741824) with
      | false => exact ⟨v, i, by rw [cfl], by omega⟩
      | true =>
        rw [Bool.and_eq_true] at hd
        obtain ⟨h2, h3⟩ := of_decide_eq_true hd.1
        have h4 := of_decide_eq_true hd.2
        obtain ⟨v', i', e, hi'⟩ := ih (i + 1) (10 * v + (s[i].toNat - 48)) (by omega) (by omega)
        -- the place is bounded by the text
        rw [ctr]
        refine ⟨v', i', e, ?_⟩;exact (dg_le s hs n (i + 1) _ v' i' (by omega) (by omega) e).elim (fun h => by omega) (fun h => by omega)
    · rw [vo s n i v (by omega)]; exact ⟨v, i, rfl, by omega⟩
where
  dg_le (s : Bs) (hs : s.length ≤ 1000) : ∀ (n i v v' i' : Nat), s.length - i < n → v ≤ 10737418249 → bO s n ((i : Int), (v : Int)) = some ((v' : Int), (i' : Int)) → i' = i ∨ i' ≤ s.length
    | 0, i, v, v', i', h, _, _ => by omega
    | n + 1, i, v, v', i', h, hv, e => by
      by_cases hi : i < s.length
      · rw [pf s n i v hi hs (by omega)] at e
        cases hd : decide (Dig s[i]) && decide (v ≤ 1073741824) with
        | false => rw [hd, cfl] at e; cases e; left; omega
        | true =>
          rw [hd, ctr] at e
          rw [Bool.and_eq_true] at hd
          obtain ⟨h2, h3⟩ := of_decide_eq_true hd.1
          have h4 := of_decide_eq_true hd.2
          rcases dg_le s hs n (i + 1) _ v' i' (by omega) (by omega) e with h | h
          · right; omega
          · right; omega
      · rw [vo s n i v (by omega)] at e
        cases e; left; omega
theorem vn (s : Bs) (hs : s.length ≤ 1000) : ∀ (d r : Bs) (n i v : Nat), s.drop i = d ++ r → (∀ c ∈ d, Dig c) → (∀ c, r.head? = some c → ¬ Dig c) → d.length < n → val v d ≤ 1073741824 → bO s n ((i : Int), (v : Int)) = some (((val v d : Nat) : Int), ((i + d.length : Nat) : Int))
  | d, r, 0, i, v, _, _, _, h, _ => by omega
  | [], r, n + 1, i, v, hd, _, hr, _, hv => by
    have hv' : v ≤ 1073741824 := hv
    by_cases hi : i < s.length
    · have hdr : s.drop i = s[i] :: s.drop (i + 1) := cn hi
      have hc : ¬ Dig s[i] := hr _ (by rw [hd] at hdr; rw [List.nil_append] at hdr; rw [hdr]; rfl)
      rw [pf s n i v hi hs (by omega), decide_eq_false hc, fand, cfl]; rfl
    · rw [vo s n i v (by omega)]; rfl
  | c :: d, r, n + 1, i, v, hd, hD, hr, hn, hv => by
    have hi : i < s.length := by
      have := congrArg List.length hd
      simp only [List.length_drop, List.length_append, List.length_cons] at this
      omega
    have hdr : s.drop i = s[i] :: s.drop (i + 1) := cn hi
    rw [hdr, List.cons_append] at hd
    obtain ⟨h1, h2⟩ := List.cons.inj hd
    have hc := hD c (List.mem_cons_self ..)
    have hv1 : val (10 * v + (c.toNat - 48)) d ≤ 1073741824 := hv
    have hv2 := val_le d (10 * v + (c.toNat - 48))
    rw [pf s n i v hi hs (by omega), h1, decide_eq_true hc, decide_eq_true (show v ≤ 1073741824 by omega), tand, ctr, vn s hs d r n (i + 1) _ h2 (fun x hx => hD x (List.mem_cons_of_mem _ hx)) hr (by simp only [List.length_cons] at hn; omega) hv1, List.length_cons]
    rw [show i + 1 + d.length = i + (d.length + 1) by omega]; rfl
theorem ot (F : Nat) (hF : 1000 < F) {sub no : Int} (h : nD sub no) : ef F (kL no.toNat sub.toNat) = some (sub, no, 0) := by
  have hid := vj F (by omega) h
  obtain ⟨⟨h1, h2⟩, h3, h4⟩ := h;obtain ⟨n, rfl⟩ := Int.eq_ofNat_of_zero_le (show 0 ≤ no by omega);obtain ⟨m, rfl⟩ := Int.eq_ofNat_of_zero_le h1
  simp only [Int.toNat_natCast] at hid ⊢
  have l1 := tN n m (by omega) (by omega)
  have e0 : kL n m = 60 :: (decDigits n ++ 46 :: (decDigits m ++ tl)) := by unfold kL; simp
  have d1 : (decDigits n).length ≤ 11 := kJ 10 n (by omega)
  have d2 : (decDigits m).length ≤ 2 := kJ 1 m (by omega)
  have r1 := vn (kL n m) (by omega) (decDigits n) (46 :: (decDigits m ++ tl)) F 1 0 (by rw [e0]; rfl) (pg n) (fun c hc => by cases hc; decide) (by omega) (by rw [pa]; omega)
  have r2 := vn (kL n m) (by omega) (decDigits m) tl F (1 + (decDigits n).length + 1) 0 (by
    rw [e0, show 1 + (decDigits n).length + 1 = ((decDigits n).length + 1) + 1 by omega, List.drop_succ_cons, List.drop_append, ca (by omega), List.nil_append, show (decDigits n).length + 1 - (decDigits n).length = 1 by omega]; rfl)
    (pg m) (fun c hc => by cases hc; decide) (by omega) (by rw [pa]; omega)
  rw [pa] at r1 r2
  unfold ef eS
  have c1 : bO (kL n m) F (1, 0) = some ((n : Int), ((1 + (decDigits n).length : Nat) : Int)) := r1
  have e3 : (((1 + (decDigits n).length : Nat) : Int)) + 1 = ((1 + (decDigits n).length + 1 : Nat) : Int) := by omega
  have c2 : bO (kL n m) F (((1 + (decDigits n).length + 1 : Nat) : Int), 0) = some ((m : Int), ((1 + (decDigits n).length + 1 + (decDigits m).length : Nat) : Int)) := r2
  rw [c1, cz, hO (by omega), e3, c2, cz, hid, cz, decide_eq_true rfl, decide_eq_true rfl, ntr, fo, cfl]
theorem up (F : Nat) (hF : 2000 < F) (s : Bs) (hs : s.length ≤ 1000) : ∃ sub no k, ef F s = some (sub, no, k) ∧ ((k = 0 ∧ nD sub no ∧ s = kL no.toNat sub.toNat) ∨ (k = 2 ∧ sub = 0 ∧ no = 0)) := by
  obtain ⟨x, i, e, hi⟩ := dg_tot s hs F 1 0 (by omega) (by omega);obtain ⟨y, j, e2, hj⟩ := dg_tot s hs F (i + 1) 0 (by omega) (by omega)
  unfold ef eS
  have c1 : bO s F (1, 0) = some ((x : Int), (i : Int)) := e
  have c2 : bO s F ((i : Int) + 1, 0) = some ((y : Int), (j : Int)) := by
    have : ((i : Int) + 1) = ((i + 1 : Nat) : Int) := by omega
    rw [this]; exact e2
  rw [c1, cz, hO (by omega), c2, cz]
  by_cases h : nD (y : Int) (x : Int)
  · rw [vj F (by omega) h, cz, decide_eq_true rfl, ntr, fo]
    by_cases hq : kL (x : Int).toNat (y : Int).toNat = s
    · rw [decide_eq_true hq, ntr, cfl]; exact ⟨y, x, 0, rfl, .inl ⟨rfl, h, hq.symm⟩⟩
    · rw [decide_eq_false hq, nfl, ctr]; exact ⟨0, 0, 2, rfl, .inr ⟨rfl, rfl, rfl⟩⟩
  · rw [rId_no F h, cz, decide_eq_false (by omega), nfl, Bool.true_or, ctr]; exact ⟨0, 0, 2, rfl, .inr ⟨rfl, rfl, rfl⟩⟩
theorem vd (F : Nat) (hF : 2000 < F) (s : Bs) (hs : s.length ≤ 1000) : ef F s = eX F s := by
  obtain ⟨a, b, k, e, h⟩ := rq F (by omega) s hs;obtain ⟨c, d, j, e2, h2⟩ := up F hF s hs
  rcases h with ⟨h1, h3, h4⟩ | ⟨rfl, rfl, rfl⟩
  · rw [h4, ot F (by omega) h3, pO F (by omega) h3]
  · rcases h2 with ⟨h1, h3, h4⟩ | ⟨rfl, rfl, rfl⟩
    · rw [h4, ot F (by omega) h3, pO F (by omega) h3]
    · rw [e, e2]
theorem tB (F : Nat) (hF : 2000 < F) (hw : gI F = some true) (a b : Int) (s : Bs) : ew F a b s = some true := by
  unfold ew
  rw [hw, gb, ntr, fo]
  by_cases h : 100 < (s.length : Int)
  · rw [decide_eq_true h, ctr]
  · obtain ⟨p, q, k, e, _⟩ := rq F (by omega) s (by omega)
    have hid : ∃ x y, gW F a b = some (x, y) := by
      by_cases hk : nD a b
      · exact ⟨_, _, Id_ok F hk⟩
      · exact ⟨_, _, Id_no F hk⟩
    obtain ⟨x, y, e2⟩ := hid
    rw [decide_eq_false h, cfl, Id_same F (by omega), e2, cz, cz, vd F hF s (by omega), e, rm, rm, decide_eq_true rfl, decide_eq_true rfl, decide_eq_true rfl, decide_eq_true rfl, decide_eq_true rfl]
    rfl
theorem awake16 : gI 100000 = some true := by decide +kernel
theorem DigestIds_t (a b : Int) (s : Bs) : ew 100000 a b s = some true := tB 100000 (by omega) awake16 a b s
end Go.Dg
