/-
  Texts in one (only what DigestMarks needs): HeadAW, HeadBP, HeadBW, PartAP, PartAW, DigBP, DigBW, DigLP, DigLW, HeadRP, HeadRW, RefEP, RefEW, LDigestMarksP, LDigestMarksW, DgN, DgA, PnTrim, PnEnc, PnEncB, DgH, DgMarks, AvOpen.
-/
import Derived.Test.YtjegcifofddgbaaGreatDoorZDigestMarks4
import Derived.Test.YtjegcifofddgbaaGreatDoorShelf
import Derived.Lib.ItoaNum
import Derived.Lib.IndexLaws
import Derived.Test.YtjegcifofddgbaaGreatDoorChecked
import Derived.RowKit
import Derived.OpenShut
import Derived.ChangeSlices
import Derived.SliceStrings
set_option linter.unusedVariables false
set_option linter.unusedSimpArgs false
namespace Go.Proofs.YtjegcifofddgbaaGreatDoor
open Go.RowKit Go.Av Go.Pv
theorem pH : ∀ (args : Array Value) (w : World), (callFunc 65 args).run Tryz.prog w = .ok (.enter 65 args) w := fun _ _ => by kernel_rfl
theorem uF : ∀ (args : Array Value) (w : World), (callFunc 96 args).run Tryz.prog w = .ok (.enter 96 args) w := fun _ _ => by kernel_rfl
theorem tC : ∀ (args : Array Value) (w : World), (callFunc 123 args).run Tryz.prog w = .ok (.enter 123 args) w := fun _ _ => by kernel_rfl
theorem tv : ∀ (args : Array Value) (w : World), (callFunc 129 args).run Tryz.prog w = .ok (.enter 129 args) w := fun _ _ => by kernel_rfl
theorem tu : ∀ (args : Array Value) (w : World), (callFunc 130 args).run Tryz.prog w = .ok (.enter 130 args) w := fun _ _ => by kernel_rfl
theorem oL : ∀ (args : Array Value) (w : World), (callFunc 179 args).run Tryz.prog w = .ok (.enter 179 args) w := fun _ _ => by kernel_rfl
theorem tr : ∀ (args : Array Value) (w : World), (callFunc 180 args).run Tryz.prog w = .ok (.enter 180 args) w := fun _ _ => by kernel_rfl
theorem tq : ∀ (args : Array Value) (w : World), (callFunc 181 args).run Tryz.prog w = .ok (.enter 181 args) w := fun _ _ => by kernel_rfl
theorem tp : ∀ (args : Array Value) (w : World), (callFunc 182 args).run Tryz.prog w = .ok (.enter 182 args) w := fun _ _ => by kernel_rfl
theorem tn : ∀ (args : Array Value) (w : World), (callFunc 183 args).run Tryz.prog w = .ok (.enter 183 args) w := fun _ _ => by kernel_rfl
theorem tm : ∀ (args : Array Value) (w : World), (callFunc 184 args).run Tryz.prog w = .ok (.enter 184 args) w := fun _ _ => by kernel_rfl
theorem tk : ∀ (args : Array Value) (w : World), (callFunc 223 args).run Tryz.prog w = .ok (.enter 223 args) w := fun _ _ => by kernel_rfl
theorem tj : ∀ (args : Array Value) (w : World), (callFunc 224 args).run Tryz.prog w = .ok (.enter 224 args) w := fun _ _ => by kernel_rfl
set_option maxRecDepth 100000 in
set_option maxHeartbeats 1000000 in
theorem rE (F : Nat) (a1 : UInt8) (r2 : Bool) (H : mN F a1 = some r2) : ACalls Tryz.prog 180 [u8 a1] [] (Ret (B r2) []) := by
 unfold mN at H
 refine ax Tryz.func180 rfl rfl ?_;show AW _ _ 29 _ _ _;refine af <| aa ?_;show AR _ _ _ _ _ [0] _;refine za rfl <| ag <| af <| aa ?_;show AR _ _ _ _ _ [0, 1, 2, 3, 4, 5, 6, 7, 8, 9, 10, 11, 12, 13, 14, 15, 16, 17, 18, 19, 20, 21, 22, 23, 24, 25, 26] _;refine zm rfl <| zS rfl (dr rfl rfl) <| zm rfl <| bb (l := [6, 7, 8, 9, 10, 11, 12, 13, 14, 15, 16, 17, 18, 19, 20, 21, 22, 23, 24, 25, 26]) 8 (B ((decide (97 ≤ (a1.toNat : Int))) && (decide ((a1.toNat : Int) ≤ 122)))) (fun K => ?_) ?_
 ·rcases ak (decide (97 ≤ (a1.toNat : Int))) with h3 | h3
  ·refine zM h3 rfl <| zU h3 rfl (dz rfl rfl) <| zS rfl (aG (av := .v _) rfl h3 rfl) ?_;exact K _ 2 _ (aA (co h3)) rfl rfl
  ·refine zF h3 rfl <| zF h3 rfl <| zS rfl (aF (av := .v _) rfl h3 rfl) ?_;exact K _ 2 _ (aA (cq h3)) rfl rfl
 refine zm rfl <| bb (l := [14, 15, 16, 17, 18, 19, 20, 21, 22, 23, 24, 25, 26]) 16 (B (((decide (97 ≤ (a1.toNat : Int))) && (decide ((a1.toNat : Int) ≤ 122))) || ((decide (65 ≤ (a1.toNat : Int))) && (decide ((a1.toNat : Int) ≤ 90))))) (fun K => ?_) ?_
 ·rcases ak ((decide (97 ≤ (a1.toNat : Int))) && (decide ((a1.toNat : Int) ≤ 122))) with h4 | h4
  ·refine zF h4 rfl <| zF h4 rfl <| zF h4 rfl <| gU rfl rfl rfl rfl rfl <| gU rfl rfl rfl rfl rfl <| zF h4 rfl <| zS rfl (aG (av := .v _) rfl h4 rfl) ?_;exact K _ 6 _ (aA (fF h4)) rfl rfl
  ·refine zM h4 rfl <| zU h4 rfl (dr rfl rfl) <| zM h4 rfl <| bb (l := [13, 14, 15, 16, 17, 18, 19, 20, 21, 22, 23, 24, 25, 26]) 15 (B ((decide (65 ≤ (a1.toNat : Int))) && (decide ((a1.toNat : Int) ≤ 90)))) (fun K => ?_) ?_
   ·rcases ak (decide (65 ≤ (a1.toNat : Int))) with h5 | h5
    ·refine zM h5 rfl <| zU h5 rfl (dz rfl rfl) <| zU h4 rfl (aG (av := .v _) rfl h5 rfl) ?_;exact K _ 2 _ (aA (co h5)) rfl rfl
    ·refine zF h5 rfl <| zF h5 rfl <| zU h4 rfl (aF (av := .v _) rfl h5 rfl) ?_;exact K _ 2 _ (aA (cq h5)) rfl rfl
   refine zS rfl (aF (av := .v _) rfl h4 rfl) ?_;exact K _ 4 _ (aA (fG h4)) rfl rfl
 refine zm rfl <| bb (l := [22, 23, 24, 25, 26]) 24 (B ((((decide (97 ≤ (a1.toNat : Int))) && (decide ((a1.toNat : Int) ≤ 122))) || ((decide (65 ≤ (a1.toNat : Int))) && (decide ((a1.toNat : Int) ≤ 90)))) || ((decide (48 ≤ (a1.toNat : Int))) && (decide ((a1.toNat : Int) ≤ 57))))) (fun K => ?_) ?_
 ·rcases ak (((decide (97 ≤ (a1.toNat : Int))) && (decide ((a1.toNat : Int) ≤ 122))) || ((decide (65 ≤ (a1.toNat : Int))) && (decide ((a1.toNat : Int) ≤ 90)))) with h6 | h6
  ·refine zF h6 rfl <| zF h6 rfl <| zF h6 rfl <| gU rfl rfl rfl rfl rfl <| gU rfl rfl rfl rfl rfl <| zF h6 rfl <| zS rfl (aG (av := .v _) rfl h6 rfl) ?_;exact K _ 6 _ (aA (fF h6)) rfl rfl
  ·refine zM h6 rfl <| zU h6 rfl (dr rfl rfl) <| zM h6 rfl <| bb (l := [21, 22, 23, 24, 25, 26]) 23 (B ((decide (48 ≤ (a1.toNat : Int))) && (decide ((a1.toNat : Int) ≤ 57)))) (fun K => ?_) ?_
   ·rcases ak (decide (48 ≤ (a1.toNat : Int))) with h7 | h7
    ·refine zM h7 rfl <| zU h7 rfl (dz rfl rfl) <| zU h6 rfl (aG (av := .v _) rfl h7 rfl) ?_;exact K _ 2 _ (aA (co h7)) rfl rfl
    ·refine zF h7 rfl <| zF h7 rfl <| zU h6 rfl (aF (av := .v _) rfl h7 rfl) ?_;exact K _ 2 _ (aA (cq h7)) rfl rfl
   refine zS rfl (aF (av := .v _) rfl h6 rfl) ?_;exact K _ 4 _ (aA (fG h6)) rfl rfl
 refine zm rfl <| bb (l := [26]) 28 (B (((((decide (97 ≤ (a1.toNat : Int))) && (decide ((a1.toNat : Int) ≤ 122))) || ((decide (65 ≤ (a1.toNat : Int))) && (decide ((a1.toNat : Int) ≤ 90)))) || ((decide (48 ≤ (a1.toNat : Int))) && (decide ((a1.toNat : Int) ≤ 57)))) || (decide (a1 = 45)))) (fun K => ?_) ?_
 ·rcases ak ((((decide (97 ≤ (a1.toNat : Int))) && (decide ((a1.toNat : Int) ≤ 122))) || ((decide (65 ≤ (a1.toNat : Int))) && (decide ((a1.toNat : Int) ≤ 90)))) || ((decide (48 ≤ (a1.toNat : Int))) && (decide ((a1.toNat : Int) ≤ 57)))) with h8 | h8
  ·refine zF h8 rfl <| zF h8 rfl <| zS rfl (aG (av := .v _) rfl h8 rfl) ?_;exact K _ 2 _ (aA (fF h8)) rfl rfl
  ·refine zM h8 rfl <| zU h8 rfl (el (a := a1) (b := 45) rfl rfl) <| zS rfl (aF (av := .v _) rfl h8 rfl) ?_;exact K _ 2 _ (aA (fG h8)) rfl rfl
 refine za rfl <| ag <| aL ?_;obtain rfl := ap H;exact And.intro rfl (Exists.intro _ (Exists.intro _ ⟨aI rfl (.refl _), aJ [] rfl, rfl, rfl⟩))
set_option maxRecDepth 100000 in
set_option maxHeartbeats 1000000 in
theorem qq (F : Nat) (a1 : UInt8) (r2 : Bool) (H : lw F a1 = some r2) : ACalls Tryz.prog 223 [u8 a1] [] (Ret (B r2) []) := by
 unfold lw at H
 refine ax Tryz.func223 rfl rfl ?_;show AW _ _ 9 _ _ _;refine af <| aa ?_;show AR _ _ _ _ _ [0] _;refine za rfl <| ag <| af <| aa ?_;show AR _ _ _ _ _ [0, 1, 2, 3, 4, 5, 6] _;refine zm rfl <| zS rfl (dr rfl rfl) <| zm rfl <| bb (l := [6]) 8 (B ((decide (32 ≤ (a1.toNat : Int))) && (decide ((a1.toNat : Int) < 127)))) (fun K => ?_) ?_
 ·rcases ak (decide (32 ≤ (a1.toNat : Int))) with h3 | h3
  ·refine zM h3 rfl <| zU h3 rfl (bz rfl rfl) <| zS rfl (aG (av := .v _) rfl h3 rfl) ?_;exact K _ 2 _ (aA (co h3)) rfl rfl
  ·refine zF h3 rfl <| zF h3 rfl <| zS rfl (aF (av := .v _) rfl h3 rfl) ?_;exact K _ 2 _ (aA (cq h3)) rfl rfl
 refine za rfl <| ag <| aL ?_;obtain rfl := ap H;exact And.intro rfl (Exists.intro _ (Exists.intro _ ⟨aI rfl (.refl _), aJ [] rfl, rfl, rfl⟩))
set_option maxRecDepth 100000 in
set_option maxHeartbeats 1000000 in
theorem rD (F : Nat) (a1 : List UInt8) (r2 : Bool) (H : mM F a1 = some r2) : ACalls Tryz.prog 179 [S a1, .v (.func (.func 180) #[] #[])] [] (Ret (B r2) []) := by
 unfold mM at H
 refine ax Tryz.func179 rfl rfl ?_;show AW _ _ 20 _ _ _;refine af <| aa ?_;show AR _ _ _ _ _ [0] _;refine za rfl <| ag <| bj (X := Unit) (fun _ => ⟨[(0, S a1)], [], []⟩) (fun _ => gB a1 = some r2) ?_ ?_
 ·refine af <| aa ?_;show AR _ _ _ _ _ [0, 1, 2] _;refine zm rfl <| zS rfl (aU ab rfl) <| zm rfl <| ag <| aN <| bZ (X := Nat × Int) (fun (n5, y3) => ⟨[(0, S a1), (1, .v (.func (.func 180) #[] #[])), (7, i64 (a1.length : Int)), (8, i64 y3)], [], []⟩) (fun (n5, y3) => jP F a1 n5 y3 = some r2) (fun (n5, y3) => n5) (F, 0) H (aO [] (.cons (.refl _) (.cons (.refl _) (.cons (.refl _) (.cons (.refl _) (.nil _))))) rfl) ?_;rintro ⟨n5, y3⟩ H;obtain ⟨n5, rfl, H⟩ := cC H;replace H : jQ F a1 (jP F a1 n5) y3 = some r2 := H
  unfold jQ at H
  refine af <| aa ?_;show AR _ _ _ _ _ [0] _;refine zS rfl (bz rfl rfl) <| ag <| af <| az rfl (fun c6 => ?_) (fun c6 => ?_)
  ·replace H := aZ c6 H;refine aC <| af <| aN <| af <| aa ?_;show AR _ _ _ _ _ [0, 1] _;refine zm rfl <| za rfl <| ag <| af ?_;obtain ⟨g7, H⟩ := ay H;obtain ⟨x8, e9, H⟩ := bf H;obtain ⟨x10, e11, H⟩ := bN H;refine aa ?_;show AR _ _ _ _ _ [0, 1, 2, 3, 4, 5] _;refine zm rfl <| zm rfl <| zm rfl <| zS rfl (bg ab rfl rfl g7 e9) <| aq rfl rfl (AO.callFp rfl (.inr ⟨rfl, rfl, rfl⟩) tr rfl (rE F x8 x10 e11) ?_);refine zS rfl (cn rfl) <| ag <| az rfl (fun c12 => ?_) (fun c12 => ?_)
   ·replace H := aZ c12 H;refine af <| aa ?_;show AR _ _ _ _ _ [0] _;refine za rfl <| ag <| aL ?_;obtain rfl := ap H;exact And.intro rfl (Exists.intro _ (Exists.intro _ ⟨aI rfl (.refl _), aJ [] rfl, rfl, rfl⟩))
   ·replace H := ba c12 H;refine aC ?_;obtain ⟨g13, H⟩ := ay H;refine aa ?_;show AR _ _ _ _ _ [0, 1] _;refine zS rfl (bo rfl rfl g13) <| zm rfl <| ag ?_;exact Exists.intro (n5, y3 + 1) ⟨H, Nat.lt_succ_self _, aO [] (.cons (.refl _) (.cons (.refl _) (.cons (.refl _) (.cons (.refl _) (.nil _))))) rfl⟩
  ·replace H := ba c6 H;refine bR ?_;exact Exists.intro () ⟨H, aO [] (.cons (.refl _) (.nil _)) rfl⟩
 rintro _ H;replace H : gB a1 = some r2 := H
 unfold gB at H
 refine af <| aa ?_;show AR _ _ _ _ _ [0, 1, 2] _;refine zm rfl <| zS rfl (hB rfl rfl) <| za rfl <| ag <| aL ?_;obtain rfl := ap H;exact And.intro rfl (Exists.intro _ (Exists.intro _ ⟨aI rfl (.refl _), aJ [] rfl, rfl, rfl⟩))
set_option maxRecDepth 100000 in
set_option maxHeartbeats 1000000 in
theorem rC (F : Nat) (a1 : List UInt8) (r2 : Bool) (H : mL F a1 = some r2) : ACalls Tryz.prog 179 [S a1, .v (.func (.func 223) #[] #[])] [] (Ret (B r2) []) := by
 unfold mL at H
 refine ax Tryz.func179 rfl rfl ?_;show AW _ _ 20 _ _ _;refine af <| aa ?_;show AR _ _ _ _ _ [0] _;refine za rfl <| ag <| bj (X := Unit) (fun _ => ⟨[(0, S a1)], [], []⟩) (fun _ => gA a1 = some r2) ?_ ?_
 ·refine af <| aa ?_;show AR _ _ _ _ _ [0, 1, 2] _;refine zm rfl <| zS rfl (aU ab rfl) <| zm rfl <| ag <| aN <| bZ (X := Nat × Int) (fun (n5, y3) => ⟨[(0, S a1), (1, .v (.func (.func 223) #[] #[])), (7, i64 (a1.length : Int)), (8, i64 y3)], [], []⟩) (fun (n5, y3) => jN F a1 n5 y3 = some r2) (fun (n5, y3) => n5) (F, 0) H (aO [] (.cons (.refl _) (.cons (.refl _) (.cons (.refl _) (.cons (.refl _) (.nil _))))) rfl) ?_;rintro ⟨n5, y3⟩ H;obtain ⟨n5, rfl, H⟩ := cC H;replace H : jO F a1 (jN F a1 n5) y3 = some r2 := H
  unfold jO at H
  refine af <| aa ?_;show AR _ _ _ _ _ [0] _;refine zS rfl (bz rfl rfl) <| ag <| af <| az rfl (fun c6 => ?_) (fun c6 => ?_)
  ·replace H := aZ c6 H;refine aC <| af <| aN <| af <| aa ?_;show AR _ _ _ _ _ [0, 1] _;refine zm rfl <| za rfl <| ag <| af ?_;obtain ⟨g7, H⟩ := ay H;obtain ⟨x8, e9, H⟩ := bf H;obtain ⟨x10, e11, H⟩ := bN H;refine aa ?_;show AR _ _ _ _ _ [0, 1, 2, 3, 4, 5] _;refine zm rfl <| zm rfl <| zm rfl <| zS rfl (bg ab rfl rfl g7 e9) <| aq rfl rfl (AO.callFp rfl (.inr ⟨rfl, rfl, rfl⟩) tk rfl (qq F x8 x10 e11) ?_);refine zS rfl (cn rfl) <| ag <| az rfl (fun c12 => ?_) (fun c12 => ?_)
   ·replace H := aZ c12 H;refine af <| aa ?_;show AR _ _ _ _ _ [0] _;refine za rfl <| ag <| aL ?_;obtain rfl := ap H;exact And.intro rfl (Exists.intro _ (Exists.intro _ ⟨aI rfl (.refl _), aJ [] rfl, rfl, rfl⟩))
   ·replace H := ba c12 H;refine aC ?_;obtain ⟨g13, H⟩ := ay H;refine aa ?_;show AR _ _ _ _ _ [0, 1] _;refine zS rfl (bo rfl rfl g13) <| zm rfl <| ag ?_;exact Exists.intro (n5, y3 + 1) ⟨H, Nat.lt_succ_self _, aO [] (.cons (.refl _) (.cons (.refl _) (.cons (.refl _) (.cons (.refl _) (.nil _))))) rfl⟩
  ·replace H := ba c6 H;refine bR ?_;exact Exists.intro () ⟨H, aO [] (.cons (.refl _) (.nil _)) rfl⟩
 rintro _ H;replace H : gA a1 = some r2 := H
 unfold gA at H
 refine af <| aa ?_;show AR _ _ _ _ _ [0, 1, 2] _;refine zm rfl <| zS rfl (hB rfl rfl) <| za rfl <| ag <| aL ?_;obtain rfl := ap H;exact And.intro rfl (Exists.intro _ (Exists.intro _ ⟨aI rfl (.refl _), aJ [] rfl, rfl, rfl⟩))
set_option maxRecDepth 100000 in
set_option maxHeartbeats 1000000 in
theorem sw (F : Nat) (a1 : List UInt8) (r2 : Bool) (H : nW F a1 = some r2) : ACalls Tryz.prog 129 [S a1] [] (Ret (B r2) []) := by
 unfold nW at H
 refine ax Tryz.func129 rfl rfl ?_;show AW _ _ 10 _ _ _;refine af <| aa ?_;show AR _ _ _ _ _ [0] _;refine za rfl <| ag <| af ?_;obtain ⟨x4, e5, H⟩ := eU H;refine aa ?_;show AR _ _ _ _ _ [0, 1, 2, 3, 4, 5, 6, 7] _;refine zm rfl <| zS rfl (aU ab rfl) <| zS rfl (dz rfl rfl) <| zm rfl <| bb (l := [7]) 9 (B ((decide ((a1.length : Int) ≤ 40)) && x4)) (fun K => ?_) ?_
 ·rcases ak (decide ((a1.length : Int) ≤ 40)) with h3 | h3
  ·refine zM h3 rfl <| zT h3 rfl (aD rfl oL rfl (rD F a1 x4 (e5 h3)) ?_);refine zS rfl (aG (av := .v _) rfl h3 rfl) ?_;exact K _ 2 _ (aA (co h3)) rfl rfl
  ·refine zF h3 rfl <| zF h3 rfl <| zS rfl (aF (av := .v _) rfl h3 rfl) ?_;exact K _ 2 _ (aA (cq h3)) rfl rfl
 refine za rfl <| ag <| aL ?_;obtain rfl := ap H;exact And.intro rfl (Exists.intro _ (Exists.intro _ ⟨aI rfl (.refl _), aJ [] rfl, rfl, rfl⟩))
set_option maxRecDepth 100000 in
set_option maxHeartbeats 1000000 in
theorem rF (F : Nat) (a1 : List UInt8) (r2 : Bool) (H : mP F a1 = some r2) : ACalls Tryz.prog 182 [S a1] [] (Ret (B r2) []) := by
 unfold mP at H
 refine ax Tryz.func182 rfl rfl ?_;show AW _ _ 21 _ _ _;refine af <| aa ?_;show AR _ _ _ _ _ [0] _;refine za rfl <| ag <| af ?_;obtain ⟨x3, e4, H⟩ := bN H;obtain ⟨g6, H⟩ := dC H;obtain ⟨x7, e8, H⟩ := bf H;obtain ⟨g10, H⟩ := dC H;obtain ⟨x11, e12, H⟩ := bf H;obtain ⟨g14, H⟩ := dC H;obtain ⟨x15, e16, H⟩ := bf H;refine aa ?_;show AR _ _ _ _ _ [0, 1, 2, 3, 4, 5, 6, 7, 8, 9, 10, 11, 12, 13, 14, 15, 16, 17, 18] _;refine zm rfl <| aq rfl rfl (aD rfl oL rfl (rC F a1 x3 e4) ?_);refine zm rfl <| bb (l := [8, 9, 10, 11, 12, 13, 14, 15, 16, 17, 18]) 10 (B (x3 && (decide (x7 = a1)))) (fun K => ?_) ?_
 ·rcases ak x3 with h5 | h5
  ·refine zM h5 rfl <| zT h5 rfl (aD rfl tC rfl (show ACalls _ _ _ [] (Ret (S x7) []) from by subst e8; exact qQ a1 32 (by decide) (gg (g6 h5))) ?_);refine zM h5 rfl <| zU h5 rfl (eN rfl rfl) <| zS rfl (aG (av := .v _) rfl h5 rfl) ?_;exact K _ 4 _ (aA (co h5)) rfl rfl
  ·refine zF h5 rfl <| zF h5 rfl <| zF h5 rfl <| zF h5 rfl <| zS rfl (aF (av := .v _) rfl h5 rfl) ?_;exact K _ 4 _ (aA (cq h5)) rfl rfl
 refine zm rfl <| bb (l := [13, 14, 15, 16, 17, 18]) 15 (B ((x3 && (decide (x7 = a1))) && (!x11))) (fun K => ?_) ?_
 ·rcases ak (x3 && (decide (x7 = a1))) with h9 | h9
  ·refine zM h9 rfl <| zT h9 rfl (aD rfl pH rfl (show ACalls _ _ _ [] (Ret (B x11) []) from by subst e12; exact iu a1 ([32, 32] : List UInt8) (gg (g10 h9))) ?_);refine zU h9 rfl (cn rfl) <| zS rfl (aG (av := .v _) rfl h9 rfl) ?_;exact K _ 3 _ (aA (co h9)) rfl rfl
  ·refine zF h9 rfl <| zF h9 rfl <| zF h9 rfl <| zS rfl (aF (av := .v _) rfl h9 rfl) ?_;exact K _ 3 _ (aA (cq h9)) rfl rfl
 refine zm rfl <| bb (l := [18]) 20 (B (((x3 && (decide (x7 = a1))) && (!x11)) && (!x15))) (fun K => ?_) ?_
 ·rcases ak ((x3 && (decide (x7 = a1))) && (!x11)) with h13 | h13
  ·refine zM h13 rfl <| zT h13 rfl (aD rfl pH rfl (show ACalls _ _ _ [] (Ret (B x15) []) from by subst e16; exact iu a1 ([61, 63] : List UInt8) (gg (g14 h13))) ?_);refine zU h13 rfl (cn rfl) <| zS rfl (aG (av := .v _) rfl h13 rfl) ?_;exact K _ 3 _ (aA (co h13)) rfl rfl
  ·refine zF h13 rfl <| zF h13 rfl <| zF h13 rfl <| zS rfl (aF (av := .v _) rfl h13 rfl) ?_;exact K _ 3 _ (aA (cq h13)) rfl rfl
 refine za rfl <| ag <| aL ?_;obtain rfl := ap H;exact And.intro rfl (Exists.intro _ (Exists.intro _ ⟨aI rfl (.refl _), aJ [] rfl, rfl, rfl⟩))
set_option maxRecDepth 100000 in
set_option maxHeartbeats 1000000 in
theorem qr (F : Nat) (a1 : UInt8) (r2 : Bool) (H : lx F a1 = some r2) : ACalls Tryz.prog 224 [u8 a1] [] (Ret (B r2) []) := by
 unfold lx at H
 refine ax Tryz.func224 rfl rfl ?_;show AW _ _ 6 _ _ _;refine af <| aa ?_;show AR _ _ _ _ _ [0] _;refine za rfl <| ag <| af <| aa ?_;show AR _ _ _ _ _ [0, 1, 2, 3] _;refine zm rfl <| zS rfl (g_shr8 (n := 6) rfl rfl rfl) <| zS rfl (el (a := Go.Av.shr8 a1 6) (b := 2) rfl rfl) <| za rfl <| ag <| aL ?_;obtain rfl := ap H;exact And.intro rfl (Exists.intro _ (Exists.intro _ ⟨aI rfl (.refl _), aJ [] rfl, rfl, rfl⟩))
set_option maxRecDepth 100000 in
set_option maxHeartbeats 1000000 in
theorem sv (F : Nat) (a1 : List UInt8) (r2 : Int) (H : nV F a1 = some r2) : ACalls Tryz.prog 183 [S a1] [] (Ret (i64 r2) []) := by
 unfold nV at H
 refine ax Tryz.func183 rfl rfl ?_;show AW _ _ 22 _ _ _;refine af <| aa ?_;show AR _ _ _ _ _ [0] _;refine za rfl <| ag <| af <| af <| aa ?_;show AR _ _ _ _ _ [0, 1, 2] _;refine zm rfl <| zS rfl (aU ab rfl) <| zS rfl (dz rfl rfl) <| ag <| az rfl (fun c3 => ?_) (fun c3 => ?_)
 ·replace H := aZ c3 H;refine af <| aa ?_;show AR _ _ _ _ _ [0, 1, 2] _;refine zm rfl <| zS rfl (aU ab rfl) <| za rfl <| ag <| aL ?_;obtain rfl := ap H;exact And.intro rfl (Exists.intro _ (Exists.intro _ ⟨aI rfl (.refl _), aJ [] rfl, rfl, rfl⟩))
 ·replace H := ba c3 H;refine aC <| af <| aa ?_;show AR _ _ _ _ _ [0] _;refine za rfl <| ag <| bj (X := Int) (fun y15 => ⟨[(3, i64 y15)], [], []⟩) (fun y15 => iv y15 = some r2) ?_ ?_
  ·refine aN <| bZ (X := Nat × Int) (fun (n6, y4) => ⟨[(0, S a1), (3, i64 y4)], [], []⟩) (fun (n6, y4) => kv F a1 n6 y4 = some r2) (fun (n6, y4) => n6) (F, 45) H (aO [] (.cons (.refl _) (.cons (.refl _) (.nil _))) rfl) ?_;rintro ⟨n6, y4⟩ H;obtain ⟨n6, rfl, H⟩ := cC H;replace H : kw F a1 (kv F a1 n6) y4 = some r2 := H
   unfold kw at H
   refine af <| af ?_;obtain ⟨g8, H⟩ := dC H;obtain ⟨x9, e10, H⟩ := bf H;obtain ⟨x11, e12, H⟩ := eU H;refine aa ?_;show AR _ _ _ _ _ [0, 1, 2, 3, 4, 5, 6, 7] _;refine zm rfl <| zS rfl (cP rfl rfl) <| zm rfl <| bb (l := []) 16 (B ((decide (41 < y4)) && x11)) (fun K => ?_) ?_
   ·rcases ak (decide (41 < y4)) with h7 | h7
    ·refine zM h7 rfl <| zM h7 rfl <| zU h7 rfl (bg ab rfl rfl (g8 h7) e10) <| zT h7 rfl (aD rfl tj rfl (qr F x9 x11 (e12 h7)) ?_);refine zS rfl (aG (av := .v _) rfl h7 rfl) ?_;exact K _ 4 _ (aA (co h7)) rfl rfl
    ·refine zF h7 rfl <| zF h7 rfl <| zF h7 rfl <| zF h7 rfl <| zS rfl (aF (av := .v _) rfl h7 rfl) ?_;exact K _ 4 _ (aA (cq h7)) rfl rfl
   refine ag <| az rfl (fun c13 => ?_) (fun c13 => ?_)
   ·replace H := aZ c13 H;refine aC <| aN ?_;obtain ⟨g14, H⟩ := ay H;refine aa ?_;show AR _ _ _ _ _ [0, 1, 2] _;refine zm rfl <| zS rfl (er rfl rfl g14) <| za rfl <| ag ?_;exact Exists.intro (n6, y4 - 1) ⟨H, Nat.lt_succ_self _, aO [] (.cons (.refl _) (.cons (.refl _) (.nil _))) rfl⟩
   ·replace H := ba c13 H;refine bR ?_;exact Exists.intro y4 ⟨H, aO [] (.cons (.refl _) (.nil _)) rfl⟩
  rintro y15 H;replace H : iv y15 = some r2 := H
  unfold iv at H
  refine af <| af <| aa ?_;show AR _ _ _ _ _ [0, 1] _;refine zm rfl <| zS rfl (cw rfl rfl) <| ag <| az rfl (fun c17 => ?_) (fun c17 => ?_)
  ·replace H := aZ c17 H;refine af <| aa ?_;show AR _ _ _ _ _ [0] _;refine za rfl <| ag <| aL ?_;obtain rfl := ap H;exact And.intro rfl (Exists.intro _ (Exists.intro _ ⟨aI rfl (.refl _), aJ [] rfl, rfl, rfl⟩))
  ·replace H := ba c17 H;refine aC <| af <| aa ?_;show AR _ _ _ _ _ [0, 1] _;refine zm rfl <| za rfl <| ag <| aL ?_;obtain rfl := ap H;exact And.intro rfl (Exists.intro _ (Exists.intro _ ⟨aI rfl (.refl _), aJ [] rfl, rfl, rfl⟩))
set_option maxRecDepth 100000 in
set_option maxHeartbeats 1000000 in
theorem qp (F : Nat) {σ τ : Type} (T : σ → τ → List Chunk) (k : σ → (List UInt8) → Option (σ × Bool)) (o : Nat) (hY : ∀ (s : σ) (t : τ) (x : List UInt8) (rv : σ × Bool), k s x = some rv → mb Tryz.prog o [S x] (T s t) fun ae A' => ∃ t', ae = .ret (.v (.bool rv.2)) ∧ A' = T rv.1 t') (st0 : σ) (tt0 : τ) (o1 : Nat) (a2 : List UInt8) (rs : σ) (r3 : List UInt8) (H : lv F k st0 a2 = some (rs, r3)) : ACalls Tryz.prog 181 [.yl o, .pt o1 0] ([.obj o1 [S a2]] ++ T st0 tt0) (fun e A' => ∃ tz, e = .ret (.tup []) ∧ A' = [.obj o1 [S r3]] ++ T rs tz) := by
 unfold lv at H
 refine ax Tryz.func181 rfl rfl ?_;show AW _ _ 37 _ _ _;refine bj (X := Unit) (fun _ => ⟨[(0, .yl o), (1, .pt o1 0)], [], ([.obj o1 [S a2]] ++ T st0 tt0)⟩) (fun _ => fR F a2 k st0 = some (rs, r3)) ?_ ?_
 ·refine af ?_;obtain ⟨x4, e5, H⟩ := bN H;refine aa ?_;show AR _ _ _ _ _ [0, 1] _;refine zR rfl (am (i := 0) ab rfl rfl rfl rfl) <| aq rfl rfl (aD rfl tp rfl (rF F a2 x4 e5) ?_);refine ag <| az rfl (fun c6 => ?_) (fun c6 => ?_)
  ·replace H := aZ c6 H;refine af <| af ?_;obtain ⟨g7, H⟩ := ay H;obtain ⟨g8, H⟩ := ay H;obtain ⟨x9, e10, H⟩ := bf H;refine aa ?_;show AR _ _ _ _ _ [0, 1, 2, 3] _;refine zR rfl (am (i := 0) ab rfl rfl rfl rfl) <| aq rfl rfl (aD rfl uF rfl (show ACalls _ _ _ [] (Ret (slE Enc.str x9 none) []) from by subst e10; exact nU a2 ([32] : List UInt8) (gg g7) (of_decide_eq_true g8)) ?_);refine zS rfl (aR ao rfl) <| zm rfl <| ag <| aN <| bZ (X := Nat × Int × σ × τ) (fun (n15, y11, y12, t13) => ⟨[(0, .yl o), (9, slE Enc.str x9 none), (10, i64 (x9.length : Int)), (11, i64 y11)], [], ([.obj o1 [S a2]] ++ T y12 t13)⟩) (fun (n15, y11, y12, t13) => iX a2 k x9 n15 (y11, y12) = some (rs, r3)) (fun (n15, y11, y12, t13) => n15) (F, 0, st0, tt0) H (WK.atT 1 [0] (.cons (.refl _) (.cons (.refl _) (.cons (.refl _) (.cons (.refl _) (.nil _))))) rfl) ?_;rintro ⟨n15, y11, y12, t13⟩ H;obtain ⟨n15, rfl, H⟩ := cC H;replace H : iZ a2 k x9 (iX a2 k x9 n15) y11 y12 = some (rs, r3) := H
   unfold iZ at H
   refine af <| aa ?_;show AR _ _ _ _ _ [0] _;refine zS rfl (bz rfl rfl) <| ag <| af <| az rfl (fun c16 => ?_) (fun c16 => ?_)
   ·replace H := aZ c16 H;refine aC <| af <| aN <| af ?_;obtain ⟨g17, H⟩ := ay H;obtain ⟨x18, e19, H⟩ := bf H;refine aa ?_;show AR _ _ _ _ _ [0, 1, 2] _;refine zS rfl (ca (E := Enc.str) ao (by kernel_rfl) rfl rfl g17 e19) <| zS rfl (aH ab rfl rfl) <| za rfl <| ag <| af ?_;obtain ⟨x20, x21, e22, H⟩ := cW H;refine aa ?_;show AR _ _ _ _ _ [0, 1, 2, 3] _;refine zS rfl (aj (av := .yl _) rfl) <| zm rfl <| aq rfl rfl (AO.yieldT (s' := x20) (b := x21) 1 rfl rfl rfl (hY _ _ _ _ e22) fun t23 => ?_);show AR _ _ _ _ _ _ ⟨_, _, ([.obj o1 [S a2]] ++ T x20 t23)⟩;refine zS rfl (cn rfl) <| ag <| az rfl (fun c24 => ?_) (fun c24 => ?_)
    ·replace H := aZ c24 H;refine aL ?_;obtain ⟨rfl, rfl⟩ := df H;exact And.intro rfl (Exists.intro _ (Exists.intro _ ⟨cd rfl, Sub.atT 1 [0] rfl, t23, rfl, rfl⟩))
    ·replace H := ba c24 H;refine aC ?_;obtain ⟨g25, H⟩ := ay H;refine aa ?_;show AR _ _ _ _ _ [0, 1] _;refine zS rfl (bo rfl rfl g25) <| zm rfl <| ag ?_;exact Exists.intro (n15, y11 + 1, x20, t23) ⟨H, Nat.lt_succ_self _, WK.atT 1 [0] (.cons (.refl _) (.cons (.refl _) (.cons (.refl _) (.cons (.refl _) (.nil _))))) rfl⟩
   ·replace H := ba c16 H;refine bR <| aL ?_;obtain ⟨rfl, rfl⟩ := df H;exact And.intro rfl (Exists.intro _ (Exists.intro _ ⟨cd rfl, Sub.atT 1 [0] rfl, t13, rfl, rfl⟩))
  ·replace H := ba c6 H;refine aC ?_;exact Exists.intro () ⟨H, WK.atT 1 [0] (.cons (.refl _) (.cons (.refl _) (.nil _))) rfl⟩
 rintro _ H;replace H : fR F a2 k st0 = some (rs, r3) := H
 unfold fR at H
 refine aN <| bZ (X := Nat × (List UInt8) × σ × τ) (fun (n31, y27, y28, t29) => ⟨[(0, .yl o), (1, .pt o1 0)], [], ([.obj o1 [S y27]] ++ T y28 t29)⟩) (fun (n31, y27, y28, t29) => iY F k n31 (y27, y28) = some (rs, r3)) (fun (n31, y27, y28, t29) => n31) (F, a2, st0, tt0) H (WK.atT 1 [0] (.cons (.refl _) (.cons (.refl _) (.nil _))) rfl) ?_;rintro ⟨n31, y27, y28, t29⟩ H;obtain ⟨n31, rfl, H⟩ := cC H;replace H : ja F k (iY F k n31) y27 y28 = some (rs, r3) := H
 unfold ja at H
 refine af <| af <| aa ?_;show AR _ _ _ _ _ [0, 1] _;refine zR rfl (am (i := 0) ab rfl rfl rfl rfl) <| zS rfl (hB rfl rfl) <| ag <| az rfl (fun c32 => ?_) (fun c32 => ?_)
 ·replace H := aZ c32 H;refine aC <| aN <| af ?_;obtain ⟨x33, e34, H⟩ := bN H;refine aa ?_;show AR _ _ _ _ _ [0, 1, 2] _;refine zR rfl (am (i := 0) ab rfl rfl rfl rfl) <| aq rfl rfl (aD rfl tn rfl (sv F y27 x33 e34) ?_);refine za rfl <| ag <| af <| af ?_;obtain ⟨g35, H⟩ := ay H;obtain ⟨x36, e37, H⟩ := bf H;obtain ⟨g38, H⟩ := ay H;obtain ⟨x40, e41, H⟩ := bN H;obtain ⟨g42, H⟩ := ay H;obtain ⟨x43, e44, H⟩ := bf H;obtain ⟨g45, H⟩ := ay H;obtain ⟨x46, e47, H⟩ := bf H;obtain ⟨x48, x49, e50, H⟩ := cW H;refine aa ?_;show AR _ _ _ _ _ [0, 1, 2, 3, 4, 5, 6, 7, 8, 9] _;refine zS rfl (aj (av := .yl _) rfl) <| zR rfl (am (i := 0) ab rfl rfl rfl rfl) <| zm rfl <| zS rfl (lK ab rfl rfl g35 e37) <| zX rfl (cm (bytes := 1) ab ac aY rfl g38) ?_;rintro _ _ ⟨t39, rfl, rfl⟩;refine aq rfl rfl (aD rfl tm rfl (vM F x36 (some t39) x40 e41) ?_);refine zS rfl (cf rfl rfl g42 e44) <| zS rfl (cf rfl rfl g45 e47) <| aq rfl rfl (AO.yieldT (s' := x48) (b := x49) 2 rfl rfl rfl (hY _ _ _ _ e50) fun t51 => ?_);show AR _ _ _ _ _ _ ⟨_, _, ([.tok t39 5, .obj o1 [S y27]] ++ T x48 t51)⟩;refine zS rfl (cn rfl) <| ag <| az rfl (fun c52 => ?_) (fun c52 => ?_)
  ·replace H := aZ c52 H;refine aL ?_;obtain ⟨rfl, rfl⟩ := df H;exact And.intro rfl (Exists.intro _ (Exists.intro _ ⟨cd rfl, Sub.atT 2 [1] rfl, t51, rfl, rfl⟩))
  ·replace H := ba c52 H;refine aC ?_;obtain ⟨g53, H⟩ := ay H;obtain ⟨x54, e55, H⟩ := bf H;refine aa ?_;show AR _ _ _ _ _ [0, 1, 2, 3] _;refine zR rfl (am (i := 1) ab rfl rfl rfl rfl) <| zm rfl <| zS rfl (cL ab rfl rfl g53 e55) <| s0 rfl rfl (aw (i := 1) (c := .v _) (by kernel_rfl) rfl rfl rfl rfl (ai rfl)) <| ag ?_;exact Exists.intro (n31, x54, x48, t51) ⟨H, Nat.lt_succ_self _, WK.atT 2 [1] (.cons (.refl _) (.cons (.refl _) (.nil _))) rfl⟩
 ·replace H := ba c32 H;refine bR ?_;obtain ⟨rfl, rfl⟩ := df H;exact And.intro rfl (Exists.intro _ (Exists.intro _ ⟨cd rfl, Sub.atT 1 [0] rfl, t29, rfl, rfl⟩))
set_option maxRecDepth 100000 in
set_option maxHeartbeats 1000000 in
theorem rB (F : Nat) (a1 : List UInt8) (H : mK F a1 = some ()) : ACalls Tryz.prog 130 [S a1] [] (fun e A' => ∃ ob1 : Nat, e = .ret (.fn (.func 181) [] [.pt ob1 0]) ∧ A' = [.obj ob1 [S a1]]) := by
 unfold mK at H
 refine ax Tryz.func130 rfl rfl ?_;show AW _ _ 4 _ _ _;refine af <| aa ?_;show AR _ _ _ _ _ [0, 1] _;refine zX rfl (pb rfl (.inl rfl)) ?_;rintro _ _ ⟨o2, rfl, rfl⟩;refine za rfl <| ag <| af <| aa ?_;show AR _ _ _ _ _ [0, 1] _;refine zS rfl (iq rfl rfl) <| zS rfl (aB (av := .fn _ _ _) rfl) <| ag <| aL ?_;exact And.intro rfl (Exists.intro _ (Exists.intro _ ⟨aI rfl (.refl _), aJ [0] rfl, o2, rfl, rfl⟩))
set_option maxRecDepth 100000 in
set_option maxHeartbeats 1000000 in
theorem sx (F : Nat) (a1 : List UInt8) (a2 : List UInt8) (r3 : List UInt8) (r4 : Int) (H : nX F a1 a2 = some (r3, r4)) : ACalls Tryz.prog 79 [.agg [S a1, S a2]] [] (Ret (.tup [slE Enc.byte r3 none, i64 r4]) []) := by
 unfold nX at H
 refine oY Tryz.func79 rfl rfl ?_;show AW _ _ 47 _ _ _;refine af <| aa ?_;show AR _ _ _ _ _ [0, 1, 2] _;refine zR rfl (iI rfl (.inr ⟨_, rfl⟩)) <| za rfl <| za rfl <| ag <| af <| af ?_;obtain ⟨x5, e6, H⟩ := bN H;refine aa ?_;show AR _ _ _ _ _ [0, 1, 2, 3, 4, 5, 6, 7, 8, 9] _;refine zS rfl (aQ (n := 0) (by kernel_rfl) rfl (ai rfl)) <| zS rfl (aH ab rfl rfl) <| aq rfl rfl (aD rfl tv rfl (sw F a1 x5 e6) ?_);refine zS rfl (cn rfl) <| zm rfl <| bb (l := []) 16 (B ((!x5) || (decide (4000 < (a2.length : Int))))) (fun K => ?_) ?_
 ·rcases ak (!x5) with h7 | h7
  ·refine zF h7 rfl <| zF h7 rfl <| zF h7 rfl <| zF h7 rfl <| zS rfl (aG (av := .v _) rfl h7 rfl) ?_;exact K _ 4 _ (aA (fF h7)) rfl rfl
  ·refine zU h7 rfl (aQ (n := 1) (by kernel_rfl) rfl (ai rfl)) <| zU h7 rfl (aH ab rfl rfl) <| zU h7 rfl (aU ab rfl) <| zU h7 rfl (cP rfl rfl) <| zS rfl (aF (av := .v _) rfl h7 rfl) ?_;exact K _ 4 _ (aA (fG h7)) rfl rfl
 refine ag <| az rfl (fun c8 => ?_) (fun c8 => ?_)
 ·replace H := aZ c8 H;refine af <| aa ?_;show AR _ _ _ _ _ [0, 1] _;refine za rfl <| za rfl <| ag <| aL ?_;obtain ⟨rfl, rfl⟩ := df H;exact Exists.intro _ (And.intro (.nil _) (Exists.intro _ (Exists.intro _ ⟨be rfl (.nil _) (.refl _), aJ [] rfl, rfl, rfl⟩)))
 ·replace H := ba c8 H;refine aC <| af ?_;obtain ⟨g9, H⟩ := ay H;obtain ⟨x10, e11, H⟩ := bf H;obtain ⟨g12, H⟩ := ay H;refine aa ?_;show AR _ _ _ _ _ [0, 1, 2, 3, 4, 5] _;refine zS rfl (aQ (n := 0) (by kernel_rfl) rfl (ai rfl)) <| zS rfl (aH ab rfl rfl) <| zS rfl (cf rfl rfl g9 e11) <| zX rfl (cm (bytes := 1) ab ac aY rfl g12) ?_;rintro _ _ ⟨t13, rfl, rfl⟩;refine zX rfl (dy (zs := [.slice none 0 0]) (by kernel_rfl)) ?_;rintro _ _ ⟨o14, rfl, rfl⟩;refine s0 rfl rfl (aw (i := 0) (c := slE _ _ _) (by kernel_rfl) rfl rfl rfl rfl (ai rfl)) <| ag <| af <| aa ?_;show AR _ _ _ _ _ [0, 1, 2, 3] _;refine zR rfl (am (i := 0) ac rfl rfl rfl rfl) <| zS rfl (aR ac rfl) <| zX rfl (dy (zs := [.int .i64 0]) (by kernel_rfl)) ?_;rintro _ _ ⟨o15, rfl, rfl⟩;refine s0 rfl rfl (aw (i := 0) (c := .v _) (by kernel_rfl) rfl rfl rfl rfl (ai rfl)) <| ag <| bj (X := Nat × (List UInt8) × Nat) (fun (t65, y66, t67) => ⟨[(4, .pt o14 0)], [.mark t65], [.obj o14 [slE Enc.byte y66 (some t67)], .tok t67 5, .db t65]⟩) (fun (t65, y66, t67) => ix y66 = some (r3, r4)) ?_ ?_
  ·refine af ?_;obtain ⟨_, e16, H⟩ := bN H;refine aa ?_;show AR _ _ _ _ _ [0, 1, 2] _;refine zS rfl (aQ (n := 1) (by kernel_rfl) rfl (ai rfl)) <| zS rfl (aH ab rfl rfl) <| aq rfl rfl (bG [] rfl tu rfl (rB F a2 e16) rfl (fun c A' h => by obtain ⟨_, h, _⟩ := h; cases h) ?_)
   rintro av A' ⟨o17, h, rfl⟩; cases h
   refine ag <| aN ?_;obtain ⟨x60, x61, e62, H⟩ := cW H;refine AW.rangeK (α := List UInt8) (σ := Int × (List UInt8)) (τ := Nat) (fun x => [S x]) (fun s t => [.obj o15 [i64 s.1], .obj o14 [slE Enc.byte s.2 (some t)], .tok t 5]) (fun _ => none) (fun s x => iw s.1 s.2 x) ((x10.length : Int), x10) t13 x60 [0] [0, 0, 0] rfl tq (fun _ => rfl) (by decide) rfl rfl rfl (fun o T' hY => qp F T' _ o hY _ _ o17 a2 x60 x61 e62) ?_ ?_
   ·rintro l ⟨y18, y19⟩ t20 x22 rv H;replace H : iw y18 y19 x22 = some rv := H
    unfold iw at H
    refine ⟨rfl, ?_⟩;show AW _ _ _ _ _ ⟨(26, S x22) :: _, [], _⟩;refine aa ?_;show AR _ _ _ _ _ [0] _;refine za rfl <| ag <| aN <| bj (X := Int × (List UInt8) × Nat) (fun (y30, y31, t32) => ⟨[(4, .pt o14 0), (5, .pt o15 0), (6, S x22)], [], [.obj o15 [i64 y30], .obj o14 [slE Enc.byte y31 (some t32)], .tok t32 5]⟩) (fun (y30, y31, t32) => fX x22 y30 y31 = some rv) ?_ ?_
    ·refine af ?_;obtain ⟨g23, H⟩ := ay H;obtain ⟨g24, H⟩ := ay H;refine aa ?_;show AR _ _ _ _ _ [0, 1, 2, 3, 4, 5] _;refine zR rfl (am (i := 0) bi rfl rfl rfl rfl) <| zS rfl (bo rfl rfl g23) <| zm rfl <| zS rfl (aU ab rfl) <| zS rfl (bo rfl rfl g24) <| zS rfl (cP rfl rfl) <| ag <| az rfl (fun c25 => ?_) (fun c25 => ?_)
     ·replace H := aZ c25 H;obtain ⟨g27, H⟩ := ay H;obtain ⟨x28, e29, H⟩ := bf H;refine aa ?_;show AR _ _ _ _ _ [0, 1, 2, 3] _;refine zR rfl (am (i := 1) ac rfl rfl rfl rfl) <| zX rfl (bk (bytes := 1) 2 ac ab rfl (by kernel_rfl) rfl rfl rfl rfl g27 e29) ?_;rintro _ _ ⟨t26, rfl, rfl⟩;refine s0 rfl rfl (aw (i := 1) (c := slE _ _ _) (by kernel_rfl) rfl rfl rfl rfl (ai rfl)) <| s0 rfl rfl (aw (i := 0) (c := .v _) (by kernel_rfl) rfl rfl rfl rfl (ai rfl)) <| ag ?_;exact Exists.intro (0, x28, t26) ⟨H, aO [0, 0, 0] (.cons (.refl _) (.cons (.refl _) (.cons (.refl _) (.nil _)))) rfl⟩
     ·replace H := ba c25 H;refine aC ?_;exact Exists.intro (y18, y19, t20) ⟨H, aO [0, 0, 0] (.cons (.refl _) (.cons (.refl _) (.cons (.refl _) (.nil _)))) rfl⟩
    rintro ⟨y30, y31, t32⟩ H;replace H : fX x22 y30 y31 = some rv := H
    unfold fX at H
    obtain ⟨g35, H⟩ := ay H;obtain ⟨x36, e37, H⟩ := bf H;obtain ⟨g39, H⟩ := ay H;obtain ⟨x40, e41, H⟩ := bf H;obtain ⟨g42, H⟩ := ay H;obtain ⟨g43, H⟩ := ay H;refine oX (by kernel_rfl) (by kernel_rfl) ?_;show AI _ _ _ _ _ 12 (Array.replicate 12 false) _;refine zk 3 rfl (mv rfl) ?_;show AI _ _ _ _ _ _ #[false, false, false, true, false, false, false, false, false, false, false, false] _;refine zk 7 rfl (mv rfl) ?_;show AI _ _ _ _ _ _ #[false, false, false, true, false, false, false, true, false, false, false, false] _;refine zk 8 rfl (aU ab rfl) ?_;show AI _ _ _ _ _ _ #[false, false, false, true, false, false, false, true, true, false, false, false] _;refine tZ (i := 0) (j := 1) (l := 5) (by kernel_rfl) rfl rfl rfl rfl rfl rfl ?_ ?_ ?_
    ·refine aW rfl (am (i := 1) ac rfl rfl rfl rfl) ?_;show AI _ _ _ _ _ _ #[true, false, false, true, false, false, false, true, true, false, false, false] _;refine dx (i := 1) (j := 5) (by kernel_rfl) rfl rfl rfl rfl ?_ ?_
     ·refine aW rfl (bK (E := Enc.byte) (bytes := 1) (xs := [.const _]) (l := ([32] : List UInt8)) ac (by kernel_rfl) rfl rfl (by decide) rfl rfl) ?_;show AI _ _ _ _ _ _ #[true, true, false, true, false, false, false, true, true, false, false, false] _;refine dx (i := 2) (j := 5) (by kernel_rfl) rfl rfl rfl rfl ?_ ?_
      ·refine cb rfl (cz (E := Enc.byte) (bytes := 1) 2 ac ac rfl (by kernel_rfl) rfl rfl rfl rfl g35 e37) ?_;rintro _ _ ⟨t34, rfl, rfl⟩;show AI _ _ _ _ _ _ #[true, true, true, true, false, false, false, true, true, false, false, false] _;refine dx (i := 4) (j := 5) (by kernel_rfl) rfl rfl rfl rfl ?_ ?_
       ·refine cb rfl (bk (bytes := 1) 2 ac ab rfl (by kernel_rfl) rfl rfl rfl rfl g39 e41) ?_;rintro _ _ ⟨t38, rfl, rfl⟩;show AI _ _ _ _ _ _ #[true, true, true, true, true, false, false, true, true, false, false, false] _;refine dx (i := 5) (j := 10) (by kernel_rfl) rfl rfl rfl rfl ?_ ?_
        ·refine aW rfl (am (i := 0) bi rfl rfl rfl rfl) ?_;show AI _ _ _ _ _ _ #[true, true, true, true, true, true, false, true, true, false, false, false] _;refine zk 6 rfl (bo rfl rfl g42) ?_;show AI _ _ _ _ _ _ #[true, true, true, true, true, true, true, true, true, false, false, false] _;refine zk 9 rfl (bo rfl rfl g43) ?_;show AI _ _ _ _ _ _ #[true, true, true, true, true, true, true, true, true, true, false, false] _;refine aX (i := 10) (by kernel_rfl) rfl rfl <| cj (aw (i := 1) (c := slE _ _ _) (by kernel_rfl) rfl rfl rfl rfl (ai rfl)) ?_;show AI _ _ _ _ _ _ #[true, true, true, true, true, true, true, true, true, true, true, false] _;refine aX (i := 11) (by kernel_rfl) rfl rfl <| cj (aw (i := 0) (c := .v _) (by kernel_rfl) rfl rfl rfl rfl (ai rfl)) ?_;show AI _ _ _ _ _ _ #[true, true, true, true, true, true, true, true, true, true, true, true] _;refine bB rfl ?_;obtain rfl := ap H;exact ⟨rfl, rfl, t38, aJ [0, 0, 0] rfl⟩
        ·refine cj (aw (i := 1) (c := slE _ _ _) (by kernel_rfl) rfl rfl rfl rfl (ai rfl)) ?_;show AI _ _ _ _ _ _ #[true, true, true, true, true, false, false, true, true, false, true, false] _;refine aX (i := 5) (by kernel_rfl) rfl rfl <| aW rfl (am (i := 0) bi rfl rfl rfl rfl) ?_;show AI _ _ _ _ _ _ #[true, true, true, true, true, true, false, true, true, false, true, false] _;refine zk 6 rfl (bo rfl rfl g42) ?_;show AI _ _ _ _ _ _ #[true, true, true, true, true, true, true, true, true, false, true, false] _;refine zk 9 rfl (bo rfl rfl g43) ?_;show AI _ _ _ _ _ _ #[true, true, true, true, true, true, true, true, true, true, true, false] _;refine aX (i := 11) (by kernel_rfl) rfl rfl <| cj (aw (i := 0) (c := .v _) (by kernel_rfl) rfl rfl rfl rfl (ai rfl)) ?_;show AI _ _ _ _ _ _ #[true, true, true, true, true, true, true, true, true, true, true, true] _;refine bB rfl ?_;obtain rfl := ap H;exact ⟨rfl, rfl, t38, aJ [0, 0, 0] rfl⟩
       ·refine aW rfl (am (i := 0) bi rfl rfl rfl rfl) ?_;show AI _ _ _ _ _ _ #[true, true, true, true, false, true, false, true, true, false, false, false] _;refine zk 6 rfl (bo rfl rfl g42) ?_;show AI _ _ _ _ _ _ #[true, true, true, true, false, true, true, true, true, false, false, false] _;refine zk 9 rfl (bo rfl rfl g43) ?_;show AI _ _ _ _ _ _ #[true, true, true, true, false, true, true, true, true, true, false, false] _;refine aX (i := 4) (by kernel_rfl) rfl rfl <| cb rfl (bk (bytes := 1) 2 ac ab rfl (by kernel_rfl) rfl rfl rfl rfl g39 e41) ?_;rintro _ _ ⟨t44, rfl, rfl⟩;show AI _ _ _ _ _ _ #[true, true, true, true, true, true, true, true, true, true, false, false] _;refine aX (i := 10) (by kernel_rfl) rfl rfl <| cj (aw (i := 1) (c := slE _ _ _) (by kernel_rfl) rfl rfl rfl rfl (ai rfl)) ?_;show AI _ _ _ _ _ _ #[true, true, true, true, true, true, true, true, true, true, true, false] _;refine aX (i := 11) (by kernel_rfl) rfl rfl <| cj (aw (i := 0) (c := .v _) (by kernel_rfl) rfl rfl rfl rfl (ai rfl)) ?_;show AI _ _ _ _ _ _ #[true, true, true, true, true, true, true, true, true, true, true, true] _;refine bB rfl ?_;obtain rfl := ap H;exact ⟨rfl, rfl, t44, aJ [0, 0, 0] rfl⟩
      ·refine aW rfl (am (i := 0) bi rfl rfl rfl rfl) ?_;show AI _ _ _ _ _ _ #[true, true, false, true, false, true, false, true, true, false, false, false] _;refine zk 6 rfl (bo rfl rfl g42) ?_;show AI _ _ _ _ _ _ #[true, true, false, true, false, true, true, true, true, false, false, false] _;refine zk 9 rfl (bo rfl rfl g43) ?_;show AI _ _ _ _ _ _ #[true, true, false, true, false, true, true, true, true, true, false, false] _;refine aX (i := 2) (by kernel_rfl) rfl rfl <| cb rfl (cz (E := Enc.byte) (bytes := 1) 2 ac ac rfl (by kernel_rfl) rfl rfl rfl rfl g35 e37) ?_;rintro _ _ ⟨t45, rfl, rfl⟩;show AI _ _ _ _ _ _ #[true, true, true, true, false, true, true, true, true, true, false, false] _;refine aX (i := 4) (by kernel_rfl) rfl rfl <| cb rfl (bk (bytes := 1) 2 ac ab rfl (by kernel_rfl) rfl rfl rfl rfl g39 e41) ?_;rintro _ _ ⟨t46, rfl, rfl⟩;show AI _ _ _ _ _ _ #[true, true, true, true, true, true, true, true, true, true, false, false] _;refine aX (i := 10) (by kernel_rfl) rfl rfl <| cj (aw (i := 1) (c := slE _ _ _) (by kernel_rfl) rfl rfl rfl rfl (ai rfl)) ?_;show AI _ _ _ _ _ _ #[true, true, true, true, true, true, true, true, true, true, true, false] _;refine aX (i := 11) (by kernel_rfl) rfl rfl <| cj (aw (i := 0) (c := .v _) (by kernel_rfl) rfl rfl rfl rfl (ai rfl)) ?_;show AI _ _ _ _ _ _ #[true, true, true, true, true, true, true, true, true, true, true, true] _
       refine bB rfl ?_;obtain rfl := ap H;exact ⟨rfl, rfl, t46, aJ [0, 0, 0] rfl⟩
     ·refine aW rfl (am (i := 0) bi rfl rfl rfl rfl) ?_;show AI _ _ _ _ _ _ #[true, false, false, true, false, true, false, true, true, false, false, false] _;refine zk 6 rfl (bo rfl rfl g42) ?_;show AI _ _ _ _ _ _ #[true, false, false, true, false, true, true, true, true, false, false, false] _;refine zk 9 rfl (bo rfl rfl g43) ?_;show AI _ _ _ _ _ _ #[true, false, false, true, false, true, true, true, true, true, false, false] _;refine aX (i := 1) (by kernel_rfl) rfl rfl <| aW rfl (bK (E := Enc.byte) (bytes := 1) (xs := [.const _]) (l := ([32] : List UInt8)) ac (by kernel_rfl) rfl rfl (by decide) rfl rfl) ?_;show AI _ _ _ _ _ _ #[true, true, false, true, false, true, true, true, true, true, false, false] _;refine aX (i := 2) (by kernel_rfl) rfl rfl <| cb rfl (cz (E := Enc.byte) (bytes := 1) 2 ac ac rfl (by kernel_rfl) rfl rfl rfl rfl g35 e37) ?_;rintro _ _ ⟨t47, rfl, rfl⟩;show AI _ _ _ _ _ _ #[true, true, true, true, false, true, true, true, true, true, false, false] _;refine aX (i := 4) (by kernel_rfl) rfl rfl <| cb rfl (bk (bytes := 1) 2 ac ab rfl (by kernel_rfl) rfl rfl rfl rfl g39 e41) ?_;rintro _ _ ⟨t48, rfl, rfl⟩;show AI _ _ _ _ _ _ #[true, true, true, true, true, true, true, true, true, true, false, false] _;refine aX (i := 10) (by kernel_rfl) rfl rfl <| cj (aw (i := 1) (c := slE _ _ _) (by kernel_rfl) rfl rfl rfl rfl (ai rfl)) ?_
      show AI _ _ _ _ _ _ #[true, true, true, true, true, true, true, true, true, true, true, false] _;refine aX (i := 11) (by kernel_rfl) rfl rfl <| cj (aw (i := 0) (c := .v _) (by kernel_rfl) rfl rfl rfl rfl (ai rfl)) ?_;show AI _ _ _ _ _ _ #[true, true, true, true, true, true, true, true, true, true, true, true] _;refine bB rfl ?_;obtain rfl := ap H;exact ⟨rfl, rfl, t48, aJ [0, 0, 0] rfl⟩
    ·refine aW rfl (bK (E := Enc.byte) (bytes := 1) (xs := [.const _]) (l := ([32] : List UInt8)) ac (by kernel_rfl) rfl rfl (by decide) rfl rfl) ?_;show AI _ _ _ _ _ _ #[false, true, false, true, false, false, false, true, true, false, false, false] _;refine dx (i := 0) (j := 5) (by kernel_rfl) rfl rfl rfl rfl ?_ ?_
     ·refine aW rfl (am (i := 1) ac rfl rfl rfl rfl) ?_;show AI _ _ _ _ _ _ #[true, true, false, true, false, false, false, true, true, false, false, false] _;refine dx (i := 2) (j := 5) (by kernel_rfl) rfl rfl rfl rfl ?_ ?_
      ·refine cb rfl (cz (E := Enc.byte) (bytes := 1) 2 ac ac rfl (by kernel_rfl) rfl rfl rfl rfl g35 e37) ?_;rintro _ _ ⟨t49, rfl, rfl⟩;show AI _ _ _ _ _ _ #[true, true, true, true, false, false, false, true, true, false, false, false] _;refine dx (i := 4) (j := 5) (by kernel_rfl) rfl rfl rfl rfl ?_ ?_
       ·refine cb rfl (bk (bytes := 1) 2 ac ab rfl (by kernel_rfl) rfl rfl rfl rfl g39 e41) ?_;rintro _ _ ⟨t50, rfl, rfl⟩;show AI _ _ _ _ _ _ #[true, true, true, true, true, false, false, true, true, false, false, false] _;refine dx (i := 5) (j := 10) (by kernel_rfl) rfl rfl rfl rfl ?_ ?_
        ·refine aW rfl (am (i := 0) bi rfl rfl rfl rfl) ?_;show AI _ _ _ _ _ _ #[true, true, true, true, true, true, false, true, true, false, false, false] _;refine zk 6 rfl (bo rfl rfl g42) ?_;show AI _ _ _ _ _ _ #[true, true, true, true, true, true, true, true, true, false, false, false] _;refine zk 9 rfl (bo rfl rfl g43) ?_;show AI _ _ _ _ _ _ #[true, true, true, true, true, true, true, true, true, true, false, false] _;refine aX (i := 10) (by kernel_rfl) rfl rfl <| cj (aw (i := 1) (c := slE _ _ _) (by kernel_rfl) rfl rfl rfl rfl (ai rfl)) ?_;show AI _ _ _ _ _ _ #[true, true, true, true, true, true, true, true, true, true, true, false] _;refine aX (i := 11) (by kernel_rfl) rfl rfl <| cj (aw (i := 0) (c := .v _) (by kernel_rfl) rfl rfl rfl rfl (ai rfl)) ?_;show AI _ _ _ _ _ _ #[true, true, true, true, true, true, true, true, true, true, true, true] _;refine bB rfl ?_;obtain rfl := ap H;exact ⟨rfl, rfl, t50, aJ [0, 0, 0] rfl⟩
        ·refine cj (aw (i := 1) (c := slE _ _ _) (by kernel_rfl) rfl rfl rfl rfl (ai rfl)) ?_;show AI _ _ _ _ _ _ #[true, true, true, true, true, false, false, true, true, false, true, false] _;refine aX (i := 5) (by kernel_rfl) rfl rfl <| aW rfl (am (i := 0) bi rfl rfl rfl rfl) ?_;show AI _ _ _ _ _ _ #[true, true, true, true, true, true, false, true, true, false, true, false] _;refine zk 6 rfl (bo rfl rfl g42) ?_;show AI _ _ _ _ _ _ #[true, true, true, true, true, true, true, true, true, false, true, false] _;refine zk 9 rfl (bo rfl rfl g43) ?_;show AI _ _ _ _ _ _ #[true, true, true, true, true, true, true, true, true, true, true, false] _;refine aX (i := 11) (by kernel_rfl) rfl rfl <| cj (aw (i := 0) (c := .v _) (by kernel_rfl) rfl rfl rfl rfl (ai rfl)) ?_;show AI _ _ _ _ _ _ #[true, true, true, true, true, true, true, true, true, true, true, true] _;refine bB rfl ?_;obtain rfl := ap H;exact ⟨rfl, rfl, t50, aJ [0, 0, 0] rfl⟩
       ·refine aW rfl (am (i := 0) bi rfl rfl rfl rfl) ?_;show AI _ _ _ _ _ _ #[true, true, true, true, false, true, false, true, true, false, false, false] _;refine zk 6 rfl (bo rfl rfl g42) ?_;show AI _ _ _ _ _ _ #[true, true, true, true, false, true, true, true, true, false, false, false] _;refine zk 9 rfl (bo rfl rfl g43) ?_;show AI _ _ _ _ _ _ #[true, true, true, true, false, true, true, true, true, true, false, false] _;refine aX (i := 4) (by kernel_rfl) rfl rfl <| cb rfl (bk (bytes := 1) 2 ac ab rfl (by kernel_rfl) rfl rfl rfl rfl g39 e41) ?_;rintro _ _ ⟨t51, rfl, rfl⟩;show AI _ _ _ _ _ _ #[true, true, true, true, true, true, true, true, true, true, false, false] _;refine aX (i := 10) (by kernel_rfl) rfl rfl <| cj (aw (i := 1) (c := slE _ _ _) (by kernel_rfl) rfl rfl rfl rfl (ai rfl)) ?_;show AI _ _ _ _ _ _ #[true, true, true, true, true, true, true, true, true, true, true, false] _;refine aX (i := 11) (by kernel_rfl) rfl rfl <| cj (aw (i := 0) (c := .v _) (by kernel_rfl) rfl rfl rfl rfl (ai rfl)) ?_;show AI _ _ _ _ _ _ #[true, true, true, true, true, true, true, true, true, true, true, true] _;refine bB rfl ?_;obtain rfl := ap H;exact ⟨rfl, rfl, t51, aJ [0, 0, 0] rfl⟩
      ·refine aW rfl (am (i := 0) bi rfl rfl rfl rfl) ?_;show AI _ _ _ _ _ _ #[true, true, false, true, false, true, false, true, true, false, false, false] _;refine zk 6 rfl (bo rfl rfl g42) ?_;show AI _ _ _ _ _ _ #[true, true, false, true, false, true, true, true, true, false, false, false] _;refine zk 9 rfl (bo rfl rfl g43) ?_;show AI _ _ _ _ _ _ #[true, true, false, true, false, true, true, true, true, true, false, false] _;refine aX (i := 2) (by kernel_rfl) rfl rfl <| cb rfl (cz (E := Enc.byte) (bytes := 1) 2 ac ac rfl (by kernel_rfl) rfl rfl rfl rfl g35 e37) ?_;rintro _ _ ⟨t52, rfl, rfl⟩;show AI _ _ _ _ _ _ #[true, true, true, true, false, true, true, true, true, true, false, false] _;refine aX (i := 4) (by kernel_rfl) rfl rfl <| cb rfl (bk (bytes := 1) 2 ac ab rfl (by kernel_rfl) rfl rfl rfl rfl g39 e41) ?_;rintro _ _ ⟨t53, rfl, rfl⟩;show AI _ _ _ _ _ _ #[true, true, true, true, true, true, true, true, true, true, false, false] _;refine aX (i := 10) (by kernel_rfl) rfl rfl <| cj (aw (i := 1) (c := slE _ _ _) (by kernel_rfl) rfl rfl rfl rfl (ai rfl)) ?_;show AI _ _ _ _ _ _ #[true, true, true, true, true, true, true, true, true, true, true, false] _;refine aX (i := 11) (by kernel_rfl) rfl rfl <| cj (aw (i := 0) (c := .v _) (by kernel_rfl) rfl rfl rfl rfl (ai rfl)) ?_;show AI _ _ _ _ _ _ #[true, true, true, true, true, true, true, true, true, true, true, true] _
       refine bB rfl ?_;obtain rfl := ap H;exact ⟨rfl, rfl, t53, aJ [0, 0, 0] rfl⟩
     ·refine aW rfl (am (i := 0) bi rfl rfl rfl rfl) ?_;show AI _ _ _ _ _ _ #[false, true, false, true, false, true, false, true, true, false, false, false] _;refine zk 6 rfl (bo rfl rfl g42) ?_;show AI _ _ _ _ _ _ #[false, true, false, true, false, true, true, true, true, false, false, false] _;refine zk 9 rfl (bo rfl rfl g43) ?_;show AI _ _ _ _ _ _ #[false, true, false, true, false, true, true, true, true, true, false, false] _;refine aX (i := 0) (by kernel_rfl) rfl rfl <| aW rfl (am (i := 1) ac rfl rfl rfl rfl) ?_;show AI _ _ _ _ _ _ #[true, true, false, true, false, true, true, true, true, true, false, false] _;refine aX (i := 2) (by kernel_rfl) rfl rfl <| cb rfl (cz (E := Enc.byte) (bytes := 1) 2 ac ac rfl (by kernel_rfl) rfl rfl rfl rfl g35 e37) ?_;rintro _ _ ⟨t54, rfl, rfl⟩;show AI _ _ _ _ _ _ #[true, true, true, true, false, true, true, true, true, true, false, false] _;refine aX (i := 4) (by kernel_rfl) rfl rfl <| cb rfl (bk (bytes := 1) 2 ac ab rfl (by kernel_rfl) rfl rfl rfl rfl g39 e41) ?_;rintro _ _ ⟨t55, rfl, rfl⟩;show AI _ _ _ _ _ _ #[true, true, true, true, true, true, true, true, true, true, false, false] _;refine aX (i := 10) (by kernel_rfl) rfl rfl <| cj (aw (i := 1) (c := slE _ _ _) (by kernel_rfl) rfl rfl rfl rfl (ai rfl)) ?_;show AI _ _ _ _ _ _ #[true, true, true, true, true, true, true, true, true, true, true, false] _
      refine aX (i := 11) (by kernel_rfl) rfl rfl <| cj (aw (i := 0) (c := .v _) (by kernel_rfl) rfl rfl rfl rfl (ai rfl)) ?_;show AI _ _ _ _ _ _ #[true, true, true, true, true, true, true, true, true, true, true, true] _;refine bB rfl ?_;obtain rfl := ap H;exact ⟨rfl, rfl, t55, aJ [0, 0, 0] rfl⟩
    ·refine aW rfl (am (i := 0) bi rfl rfl rfl rfl) ?_;show AI _ _ _ _ _ _ #[false, false, false, true, false, true, false, true, true, false, false, false] _;refine zk 6 rfl (bo rfl rfl g42) ?_;show AI _ _ _ _ _ _ #[false, false, false, true, false, true, true, true, true, false, false, false] _;refine zk 9 rfl (bo rfl rfl g43) ?_;show AI _ _ _ _ _ _ #[false, false, false, true, false, true, true, true, true, true, false, false] _;refine dx (i := 0) (j := 1) (by kernel_rfl) rfl rfl rfl rfl ?_ ?_
     ·refine aW rfl (am (i := 1) ac rfl rfl rfl rfl) ?_;show AI _ _ _ _ _ _ #[true, false, false, true, false, true, true, true, true, true, false, false] _;refine aX (i := 1) (by kernel_rfl) rfl rfl <| aW rfl (bK (E := Enc.byte) (bytes := 1) (xs := [.const _]) (l := ([32] : List UInt8)) ac (by kernel_rfl) rfl rfl (by decide) rfl rfl) ?_;show AI _ _ _ _ _ _ #[true, true, false, true, false, true, true, true, true, true, false, false] _;refine aX (i := 2) (by kernel_rfl) rfl rfl <| cb rfl (cz (E := Enc.byte) (bytes := 1) 2 ac ac rfl (by kernel_rfl) rfl rfl rfl rfl g35 e37) ?_;rintro _ _ ⟨t56, rfl, rfl⟩;show AI _ _ _ _ _ _ #[true, true, true, true, false, true, true, true, true, true, false, false] _;refine aX (i := 4) (by kernel_rfl) rfl rfl <| cb rfl (bk (bytes := 1) 2 ac ab rfl (by kernel_rfl) rfl rfl rfl rfl g39 e41) ?_;rintro _ _ ⟨t57, rfl, rfl⟩;show AI _ _ _ _ _ _ #[true, true, true, true, true, true, true, true, true, true, false, false] _;refine aX (i := 10) (by kernel_rfl) rfl rfl <| cj (aw (i := 1) (c := slE _ _ _) (by kernel_rfl) rfl rfl rfl rfl (ai rfl)) ?_;show AI _ _ _ _ _ _ #[true, true, true, true, true, true, true, true, true, true, true, false] _;refine aX (i := 11) (by kernel_rfl) rfl rfl <| cj (aw (i := 0) (c := .v _) (by kernel_rfl) rfl rfl rfl rfl (ai rfl)) ?_
      show AI _ _ _ _ _ _ #[true, true, true, true, true, true, true, true, true, true, true, true] _;refine bB rfl ?_;obtain rfl := ap H;exact ⟨rfl, rfl, t57, aJ [0, 0, 0] rfl⟩
     ·refine aW rfl (bK (E := Enc.byte) (bytes := 1) (xs := [.const _]) (l := ([32] : List UInt8)) ac (by kernel_rfl) rfl rfl (by decide) rfl rfl) ?_;show AI _ _ _ _ _ _ #[false, true, false, true, false, true, true, true, true, true, false, false] _;refine aX (i := 0) (by kernel_rfl) rfl rfl <| aW rfl (am (i := 1) ac rfl rfl rfl rfl) ?_;show AI _ _ _ _ _ _ #[true, true, false, true, false, true, true, true, true, true, false, false] _;refine aX (i := 2) (by kernel_rfl) rfl rfl <| cb rfl (cz (E := Enc.byte) (bytes := 1) 2 ac ac rfl (by kernel_rfl) rfl rfl rfl rfl g35 e37) ?_;rintro _ _ ⟨t58, rfl, rfl⟩;show AI _ _ _ _ _ _ #[true, true, true, true, false, true, true, true, true, true, false, false] _;refine aX (i := 4) (by kernel_rfl) rfl rfl <| cb rfl (bk (bytes := 1) 2 ac ab rfl (by kernel_rfl) rfl rfl rfl rfl g39 e41) ?_;rintro _ _ ⟨t59, rfl, rfl⟩;show AI _ _ _ _ _ _ #[true, true, true, true, true, true, true, true, true, true, false, false] _;refine aX (i := 10) (by kernel_rfl) rfl rfl <| cj (aw (i := 1) (c := slE _ _ _) (by kernel_rfl) rfl rfl rfl rfl (ai rfl)) ?_;show AI _ _ _ _ _ _ #[true, true, true, true, true, true, true, true, true, true, true, false] _;refine aX (i := 11) (by kernel_rfl) rfl rfl <| cj (aw (i := 0) (c := .v _) (by kernel_rfl) rfl rfl rfl rfl (ai rfl)) ?_
      show AI _ _ _ _ _ _ #[true, true, true, true, true, true, true, true, true, true, true, true] _;refine bB rfl ?_;obtain rfl := ap H;exact ⟨rfl, rfl, t59, aJ [0, 0, 0] rfl⟩
   rintro o64 t63;exact Exists.intro (o64, x60.2, t63) ⟨H, aO [3, 3, 0] (.cons (.refl _) (.nil _)) rfl⟩
  rintro ⟨t65, y66, t67⟩ H;replace H : ix y66 = some (r3, r4) := H
  unfold ix at H
  refine af ?_;obtain ⟨g70, H⟩ := ay H;obtain ⟨x71, e72, H⟩ := bf H;refine aa ?_;show AR _ _ _ _ _ [0, 1, 2, 3] _;refine zR rfl (am (i := 0) ac rfl rfl rfl rfl) <| zX rfl (bk (bytes := 1) 1 ac ab rfl (by kernel_rfl) rfl rfl rfl rfl g70 e72) ?_;rintro _ _ ⟨t69, rfl, rfl⟩;refine zS rfl (aB (av := slE _ _ _) rfl) <| za rfl <| ag <| aL ?_;obtain ⟨rfl, rfl⟩ := df H;exact Exists.intro _ (And.intro (Unmark.at 2 rfl (.nil _)) (Exists.intro _ (Exists.intro _ ⟨be rfl (.tok _ _ _) (.refl _), aJ [] rfl, rfl, rfl⟩)))
end Go.Proofs.YtjegcifofddgbaaGreatDoor
namespace Go.Pv
def gC (y25 : List (List UInt8)) : Option ((List (List UInt8)) × Int) :=
some (y25, 0)
def jS (F : Nat) (a1 : List ((List UInt8) × List UInt8)) (rec9 : ((List (List UInt8)) × Int) → Option ((List (List UInt8)) × Int)) (y6 : List (List UInt8)) (y8 : Int) : Option ((List (List UInt8)) × Int) :=
bif decide (y8 < (a1.length : Int)) then
  grd (cx y8 a1.length) <|
  lt (at_ a1 y8) fun x13 =>
  gm (nX F x13.1 x13.2) fun x16 x17 =>
  bif !decide (x17 = 0) then
    some ([], x17)
  else
    grd (bu (y6.length + ([x16] : List (List UInt8)).length)) <|
    lt (y6 ++ ([x16] : List (List UInt8))) fun x22 =>
    grd (okI (y8 + 1)) <|
    rec9 (x22, y8 + 1)
else
  gC y6
def jR (F : Nat) (a1 : List ((List UInt8) × List UInt8)) (n : Nat) : ((List (List UInt8)) × Int) → Option ((List (List UInt8)) × Int) :=
  loop (fun rec x => jS F a1 rec x.1 x.2) n
def mO (F : Nat) (a1 : List ((List UInt8) × List UInt8)) : Option ((List (List UInt8)) × Int) :=
jR F a1 F ([], 0)
def kd (F : Nat) (a1 : List ((List UInt8) × List UInt8)) : Option ((List UInt8) × Int) :=
bif decide (50 < (a1.length : Int)) then
  some ([], 4)
else
  gm (mO F a1) fun x6 x7 =>
  bif !decide (x7 = 0) then
    some ([], x7)
  else
    grd (pd x6) <|
    lt (List.flatten x6) fun x11 =>
    grd (bu (x11.length + ([13, 10] : List UInt8).length)) <|
    lt (x11 ++ ([13, 10] : List UInt8)) fun x16 =>
    some (x16, 0)
end Go.Pv
namespace Go.Proofs.YtjegcifofddgbaaGreatDoor
open Go.RowKit Go.Av Go.Pv
theorem pF : ∀ (args : Array Value) (w : World), (callFunc 78 args).run Tryz.prog w = .ok (.enter 78 args) w := fun _ _ => by kernel_rfl
theorem uG : ∀ (args : Array Value) (w : World), (callFunc 79 args).run Tryz.prog w = .ok (.enter 79 args) w := fun _ _ => by kernel_rfl
theorem pE : ∀ (args : Array Value) (w : World), (callFunc 80 args).run Tryz.prog w = .ok (.enter 80 args) w := fun _ _ => by kernel_rfl
abbrev _root_.Go.Av.dW := @Tryz.underlying36
abbrev _root_.Go.Av.bH := @Tryz.underlying44
set_option maxRecDepth 100000 in
set_option maxHeartbeats 1000000 in
theorem ng (F : Nat) (a1 : List ((List UInt8) × List UInt8)) (q2 : Option Nat) (r3 : List (List UInt8)) (r4 : Int) (H : mO F a1 = some (r3, r4)) : ACalls Tryz.prog 78 [slE (Enc.prod Enc.str Enc.str) a1 q2, .v (.func (.func 79) #[] #[])] [] (Ret (.tup [slE (Enc.sl Enc.byte) r3 none, i64 r4]) []) := by
 unfold mO at H
 refine ax Tryz.func78 rfl rfl ?_;show AW _ _ 32 _ _ _;refine af <| aa ?_;show AR _ _ _ _ _ [0, 1] _;refine za rfl <| za rfl <| ag <| af <| aa ?_;show AR _ _ _ _ _ [0] _;refine za rfl <| ag ?_
 refine dY 6 1 32 rfl fun t5 => ?_
 show AW _ _ _ _ _ ⟨(6, slE (Enc.sl Enc.byte) [] (some t5)) :: _, _, _⟩;refine bj (X := (List (List UInt8)) × Nat) (fun (y25, t26) => ⟨[(6, slE (Enc.sl Enc.byte) y25 (some t26))], [], [.tok t26 32]⟩) (fun (y25, t26) => gC y25 = some (r3, r4)) ?_ ?_
 ·refine af <| aa ?_;show AR _ _ _ _ _ [0, 1, 2] _;refine zS rfl (aj (av := slE _ _ _) rfl) <| zS rfl (aR dW rfl) <| zm rfl <| ag <| aN <| bZ (X := Nat × (List (List UInt8)) × Nat × Int) (fun (n10, y6, t7, y8) => ⟨[(1, .v (.func (.func 79) #[] #[])), (6, slE (Enc.sl Enc.byte) y6 (some t7)), (11, slE (Enc.prod Enc.str Enc.str) a1 q2), (12, i64 (a1.length : Int)), (13, i64 y8)], [], [.tok t7 32]⟩) (fun (n10, y6, t7, y8) => jR F a1 n10 (y6, y8) = some (r3, r4)) (fun (n10, y6, t7, y8) => n10) (F, [], t5, 0) H (aO [0] (.cons (.refl _) (.cons (.refl _) (.cons (.refl _) (.cons (.refl _) (.cons (.refl _) (.nil _)))))) rfl) ?_;rintro ⟨n10, y6, t7, y8⟩ H;obtain ⟨n10, rfl, H⟩ := cC H;replace H : jS F a1 (jR F a1 n10) y6 y8 = some (r3, r4) := H
  unfold jS at H
  refine af <| aa ?_;show AR _ _ _ _ _ [0] _;refine zS rfl (bz rfl rfl) <| ag <| af <| az rfl (fun c11 => ?_) (fun c11 => ?_)
  ·replace H := aZ c11 H;refine aC <| af <| aN <| af ?_;obtain ⟨g12, H⟩ := ay H;obtain ⟨x13, e14, H⟩ := bf H;refine aa ?_;show AR _ _ _ _ _ [0, 1, 2, 3] _;refine zS rfl (ca (E := (Enc.prod Enc.str Enc.str)) dW (by kernel_rfl) rfl rfl g12 e14) <| zS rfl (dU Tryz.underlying40 rfl (n := 2) (by kernel_rfl) rfl (ai rfl)) <| zX rfl (dy (zs := [.string ⟨#[]⟩, .string ⟨#[]⟩]) (by kernel_rfl)) ?_;rintro _ _ ⟨o15, rfl, rfl⟩;refine s0 rfl rfl (cQ (i := 0) (vs := [S x13.1, S x13.2]) (by kernel_rfl) rfl rfl (by simp [cM, slE]) rfl (ai rfl)) <| AR.freezeCp 8 0 rfl rfl ?_;show AR _ _ _ _ _ _ ⟨_, _, [.tok t7 32]⟩;refine ag <| af ?_;obtain ⟨x16, x17, e18, H⟩ := cW H;refine aa ?_;show AR _ _ _ _ _ [0, 1, 2, 3, 4, 5, 6, 7] _;refine zm rfl <| zS rfl (dU Tryz.underlying40 rfl (n := 2) (by kernel_rfl) rfl (ai rfl)) <| aq rfl rfl (AO.callFp rfl (.inr ⟨rfl, rfl, rfl⟩) uG rfl (sx F x13.1 x13.2 x16 x17 e18) ?_);refine zS rfl (aj (av := .tup _) rfl) <| zS rfl (aE (av := slE _ _ _) rfl rfl) <| zS rfl (aE (av := .v _) rfl rfl) <| zS rfl (aB (av := slE _ _ _) rfl) <| za rfl <| ag <| af <| af <| aa ?_;show AR _ _ _ _ _ [0, 1] _;refine zm rfl <| zS rfl (de rfl rfl) <| ag <| az rfl (fun c19 => ?_) (fun c19 => ?_)
   ·replace H := aZ c19 H;refine af <| aa ?_;show AR _ _ _ _ _ [0, 1, 2] _;refine zm rfl <| za rfl <| za rfl <| ag <| aL ?_;obtain ⟨rfl, rfl⟩ := df H;exact And.intro rfl (Exists.intro _ (Exists.intro _ ⟨be rfl (.nil _) (.refl _), aJ [] rfl, rfl, rfl⟩))
   ·replace H := ba c19 H;refine aC ?_;obtain ⟨g21, H⟩ := ay H;obtain ⟨x22, e23, H⟩ := bf H;refine aa ?_;show AR _ _ _ _ _ [0, 1, 2, 3, 4] _;refine zS rfl (aj (av := slE _ _ _) rfl) <| zS rfl (aj (av := slE _ _ _) rfl) <| zR rfl (bK (E := (Enc.sl Enc.byte)) (bytes := 24) (xs := [.tmp 27]) (l := ([x16] : List (List UInt8))) bH (by kernel_rfl) rfl rfl (by decide) rfl rfl) <| zX rfl (cz (E := (Enc.sl Enc.byte)) (bytes := 24) 0 bH bH rfl (by kernel_rfl) rfl rfl rfl rfl g21 e23) ?_;rintro _ _ ⟨t20, rfl, rfl⟩;refine zS rfl (aB (av := slE _ _ _) rfl) <| ag ?_;obtain ⟨g24, H⟩ := ay H;refine aa ?_;show AR _ _ _ _ _ [0, 1] _;refine zS rfl (bo rfl rfl g24) <| zm rfl <| ag ?_;exact Exists.intro (n10, x22, t20, y8 + 1) ⟨H, Nat.lt_succ_self _, aO [0] (.cons (.refl _) (.cons (.refl _) (.cons (.refl _) (.cons (.refl _) (.cons (.refl _) (.nil _)))))) rfl⟩
  ·replace H := ba c11 H;refine bR ?_;exact Exists.intro (y6, t7) ⟨H, aO [0] (.cons (.refl _) (.nil _)) rfl⟩
 rintro ⟨y25, t26⟩ H;replace H : gC y25 = some (r3, r4) := H
 unfold gC at H
 refine af <| aa ?_;show AR _ _ _ _ _ [0, 1, 2] _;refine zS rfl (aj (av := slE _ _ _) rfl) <| zS rfl (aB (av := slE _ _ _) rfl) <| za rfl <| ag <| aL ?_;obtain ⟨rfl, rfl⟩ := df H;exact And.intro rfl (Exists.intro _ (Exists.intro _ ⟨be rfl (.tok _ _ _) (.refl _), aJ [] rfl, rfl, rfl⟩))
set_option maxRecDepth 100000 in
set_option maxHeartbeats 1000000 in
theorem uh (F : Nat) (a1 : List ((List UInt8) × List UInt8)) (q2 : Option Nat) (r3 : List UInt8) (r4 : Int) (H : kd F a1 = some (r3, r4)) : ACalls Tryz.prog 30 [slE (Enc.prod Enc.str Enc.str) a1 q2] [] (Ret (.tup [slE Enc.byte r3 none, i64 r4]) []) := by
 unfold kd at H
 refine ax Tryz.func30 rfl rfl ?_;show AW _ _ 20 _ _ _;refine af <| aa ?_;show AR _ _ _ _ _ [0, 1] _;refine za rfl <| za rfl <| ag <| af <| af <| aa ?_;show AR _ _ _ _ _ [0, 1, 2] _;refine zS rfl (aj (av := slE _ _ _) rfl) <| zS rfl (aR dW rfl) <| zS rfl (cP rfl rfl) <| ag <| az rfl (fun c5 => ?_) (fun c5 => ?_)
 ·replace H := aZ c5 H;refine af <| aa ?_;show AR _ _ _ _ _ [0, 1] _;refine za rfl <| za rfl <| ag <| aL ?_;obtain ⟨rfl, rfl⟩ := df H;exact And.intro rfl (Exists.intro _ (Exists.intro _ ⟨be rfl (.nil _) (.refl _), aJ [] rfl, rfl, rfl⟩))
 ·replace H := ba c5 H;refine aC <| af ?_;obtain ⟨x6, x7, e8, H⟩ := cW H;refine aa ?_;show AR _ _ _ _ _ [0, 1, 2, 3, 4, 5, 6] _;refine zS rfl (aj (av := slE _ _ _) rfl) <| aq rfl rfl (aD rfl pF rfl (ng F a1 q2 x6 x7 e8) ?_);refine zS rfl (aj (av := .tup _) rfl) <| zS rfl (aE (av := slE _ _ _) rfl rfl) <| zS rfl (aE (av := .v _) rfl rfl) <| zS rfl (aB (av := slE _ _ _) rfl) <| za rfl <| ag <| af <| af <| aa ?_;show AR _ _ _ _ _ [0, 1] _;refine zm rfl <| zS rfl (de rfl rfl) <| ag <| az rfl (fun c9 => ?_) (fun c9 => ?_)
  ·replace H := aZ c9 H;refine af <| aa ?_;show AR _ _ _ _ _ [0, 1, 2] _;refine zm rfl <| za rfl <| za rfl <| ag <| aL ?_;obtain ⟨rfl, rfl⟩ := df H;exact And.intro rfl (Exists.intro _ (Exists.intro _ ⟨be rfl (.nil _) (.refl _), aJ [] rfl, rfl, rfl⟩))
  ·replace H := ba c9 H;refine aC <| af ?_;obtain ⟨g10, H⟩ := ay H;obtain ⟨x11, e12, H⟩ := bf H;obtain ⟨g15, H⟩ := ay H;obtain ⟨x16, e17, H⟩ := bf H;refine aa ?_;show AR _ _ _ _ _ [0, 1, 2, 3, 4] _;refine zS rfl (aj (av := slE _ _ _) rfl) <| aq rfl rfl (bG [] rfl pE rfl (lg x6 none g10) rfl (fun c A' h => by obtain ⟨_, h, _⟩ := h; cases h) ?_)
   rintro av A' ⟨t13, h, rfl⟩; cases h; rw [e12]
   refine zX rfl (mj (bytes := 1) 0 ac ab rfl (by kernel_rfl) rfl rfl rfl rfl g15 e17) ?_;rintro _ _ ⟨t14, rfl, rfl⟩;refine zS rfl (aB (av := slE _ _ _) rfl) <| za rfl <| ag <| aL ?_;obtain ⟨rfl, rfl⟩ := df H;exact And.intro rfl (Exists.intro _ (Exists.intro _ ⟨be rfl (.tok _ _ _) (.refl _), aJ [] rfl, rfl, rfl⟩))
set_option maxRecDepth 100000 in
set_option maxHeartbeats 1000000 in
theorem sy (F : Nat) (a1 : List ((List UInt8) × List UInt8)) (q2 : Option Nat) (r3 : List UInt8) (r4 : Int) (H : kd F a1 = some (r3, r4)) : ACalls Tryz.prog 30 [slE (Enc.prod Enc.str Enc.str) a1 q2] [] (fun e A' => ∃ tr0 cr0, e = .ret (.tup [slE Enc.byte r3 (some tr0), i64 r4]) ∧ A' = [cr0] ∧ (cr0 = .tokw tr0 ∨ cr0 = .tok tr0 5)) := by
 unfold kd at H
 refine ax Tryz.func30 rfl rfl ?_;show AW _ _ 20 _ _ _;refine af <| aa ?_;show AR _ _ _ _ _ [0, 1] _;refine za rfl <| za rfl <| ag <| af <| af <| aa ?_;show AR _ _ _ _ _ [0, 1, 2] _;refine zS rfl (aj (av := slE _ _ _) rfl) <| zS rfl (aR dW rfl) <| zS rfl (cP rfl rfl) <| ag <| az rfl (fun c5 => ?_) (fun c5 => ?_)
 ·replace H := aZ c5 H;refine af <| aa ?_;show AR _ _ _ _ _ [0, 1] _;refine za rfl <| za rfl <| ag ?_
  refine dY 2 1 5 rfl fun t6 => ?_
  refine aL ?_;obtain ⟨rfl, rfl⟩ := df H;exact And.intro rfl (Exists.intro _ (Exists.intro _ ⟨be rfl (.refl _) (.refl _), aJ [0] rfl, t6, _, rfl, rfl, .inr rfl⟩))
 ·replace H := ba c5 H;refine aC <| af ?_;obtain ⟨x7, x8, e9, H⟩ := cW H;refine aa ?_;show AR _ _ _ _ _ [0, 1, 2, 3, 4, 5, 6] _;refine zS rfl (aj (av := slE _ _ _) rfl) <| aq rfl rfl (aD rfl pF rfl (ng F a1 q2 x7 x8 e9) ?_);refine zS rfl (aj (av := .tup _) rfl) <| zS rfl (aE (av := slE _ _ _) rfl rfl) <| zS rfl (aE (av := .v _) rfl rfl) <| zS rfl (aB (av := slE _ _ _) rfl) <| za rfl <| ag <| af <| af <| aa ?_;show AR _ _ _ _ _ [0, 1] _;refine zm rfl <| zS rfl (de rfl rfl) <| ag <| az rfl (fun c10 => ?_) (fun c10 => ?_)
  ·replace H := aZ c10 H;refine af <| aa ?_;show AR _ _ _ _ _ [0, 1, 2] _;refine zm rfl <| za rfl <| za rfl <| ag ?_
   refine dY 2 1 5 rfl fun t11 => ?_
   refine aL ?_;obtain ⟨rfl, rfl⟩ := df H;exact And.intro rfl (Exists.intro _ (Exists.intro _ ⟨be rfl (.refl _) (.refl _), aJ [0] rfl, t11, _, rfl, rfl, .inr rfl⟩))
  ·replace H := ba c10 H;refine aC <| af ?_;obtain ⟨g12, H⟩ := ay H;obtain ⟨x13, e14, H⟩ := bf H;obtain ⟨g17, H⟩ := ay H;obtain ⟨x18, e19, H⟩ := bf H;refine aa ?_;show AR _ _ _ _ _ [0, 1, 2, 3, 4] _;refine zS rfl (aj (av := slE _ _ _) rfl) <| aq rfl rfl (bG [] rfl pE rfl (lg x7 none g12) rfl (fun c A' h => by obtain ⟨_, h, _⟩ := h; cases h) ?_)
   rintro av A' ⟨t15, h, rfl⟩; cases h; rw [e14]
   refine zX rfl (mj (bytes := 1) 0 ac ab rfl (by kernel_rfl) rfl rfl rfl rfl g17 e19) ?_;rintro _ _ ⟨t16, rfl, rfl⟩;refine zS rfl (aB (av := slE _ _ _) rfl) <| za rfl <| ag <| aL ?_;obtain ⟨rfl, rfl⟩ := df H;exact And.intro rfl (Exists.intro _ (Exists.intro _ ⟨be rfl (.refl _) (.refl _), aJ [0] rfl, t16, _, rfl, rfl, .inl rfl⟩))
end Go.Proofs.YtjegcifofddgbaaGreatDoor
namespace Go.Pv
def tM : List UInt8 := [97, 98, 99, 100, 101, 102, 103, 104, 105, 106, 107, 108, 109, 110, 111, 112, 113, 114, 115, 116, 117, 118, 119, 120, 121, 122, 48, 49, 50, 51, 52, 53, 54, 55, 56, 57, 47, 45, 61, 59, 32]
def nu : List UInt8 := [67, 111, 110, 116, 101, 110, 116, 45, 84, 114, 97, 110, 115, 102, 101, 114, 45, 69, 110, 99, 111, 100, 105, 110, 103]
def nS (F : Nat) (a1 : List UInt8) (a4 : List UInt8) : Option Bool :=
grd (bu a4.length) <|
grd (okS a1.length) <|
grd (decide (2 ≤ a4.length)) <|
grd (okS a4.length) <|
lt (Go.Lib.contains a1 a4) fun x11 =>
some x11
def fP : Option Int :=
some (-1)
def iR (F : Nat) (a1 : List (List UInt8)) (a4 : List UInt8) (rec7 : Int → Option Int) (y6 : Int) : Option Int :=
bif decide (y6 < (a1.length : Int)) then
  grd (cx y6 a1.length) <|
  lt (at_ a1 y6) fun x11 =>
  bnd (nS F x11 a4) fun x13 =>
  bif x13 then
    some y6
  else
    grd (okI (y6 + 1)) <|
    rec7 (y6 + 1)
else
  fP
def iQ (F : Nat) (a1 : List (List UInt8)) (a4 : List UInt8) (n : Nat) : Int → Option Int :=
  loop (fun rec x => iR F a1 a4 rec x) n
def lu (F : Nat) (a1 : List (List UInt8)) (a4 : List UInt8) : Option Int :=
iQ F a1 a4 F 0
def iV (F : Nat) (a1 : List (List UInt8)) (a4 : List UInt8) : Option Bool :=
bnd (lu F a1 a4) fun x6 =>
some (decide (0 ≤ x6))
def gl (F : Nat) (a1 : List (List UInt8)) (rec5 : Int → Option ((List UInt8))) (y4 : Int) : Option ((List UInt8)) :=
grd (okI y4) <|
lt (Go.Lib.itoa y4) fun x8 =>
grd (bu (([61, 95] : List UInt8).length + x8.length)) <|
lt (([61, 95] : List UInt8) ++ x8) fun x11 =>
bnd (iV F a1 x11) fun x14 =>
bif !x14 then
  some x11
else
  grd (okI (y4 + 1)) <|
  rec5 (y4 + 1)
def gk (F : Nat) (a1 : List (List UInt8)) (n : Nat) : Int → Option ((List UInt8)) :=
  loop (fun rec x => gl F a1 rec x) n
def jL (F : Nat) (a1 : List (List UInt8)) : Option ((List UInt8)) :=
gk F a1 F 0
def il (a1 : List UInt8) : Option Bool :=
ji ((!decide (a1 = ([] : List UInt8))) && (decide ((a1.length : Int) ≤ 60))) (okS a1.length) <|
lt (Go.Lib.trimB a1 32) fun x18 =>
ji (((!decide (a1 = ([] : List UInt8))) && (decide ((a1.length : Int) ≤ 60))) && (decide (x18 = a1))) (okS a1.length) <|
lt (Go.Lib.contains a1 ([32, 32] : List UInt8)) fun x22 =>
some ((((!decide (a1 = ([] : List UInt8))) && (decide ((a1.length : Int) ≤ 60))) && (decide (x18 = a1))) && (!x22))
def kj (a1 : List UInt8) (rec4 : Int → Option Bool) (y3 : Int) : Option Bool :=
bif decide (y3 < (a1.length : Int)) then
  grd (cx y3 a1.length) <|
  lt (at_ a1 y3) fun x8 =>
  lt (Go.Lib.indexByte tM x8) fun x10 =>
  bif decide (x10 < 0) then
    some false
  else
    grd (okI (y3 + 1)) <|
    rec4 (y3 + 1)
else
  il a1
def ki (a1 : List UInt8) (n : Nat) : Int → Option Bool :=
  loop (fun rec x => kj a1 rec x) n
def nR (F : Nat) (a1 : List UInt8) : Option Bool :=
ki a1 F 0
def nQ (F : Nat) (a1 : List UInt8) : Option Bool :=
bnd (nR F a1) fun x3 =>
some (!x3)
def fO : Option Int :=
some (-1)
def iP (F : Nat) (a1 : List (List UInt8)) (rec5 : Int → Option Int) (y4 : Int) : Option Int :=
bif decide (y4 < (a1.length : Int)) then
  grd (cx y4 a1.length) <|
  lt (at_ a1 y4) fun x9 =>
  bnd (nQ F x9) fun x11 =>
  bif x11 then
    some y4
  else
    grd (okI (y4 + 1)) <|
    rec5 (y4 + 1)
else
  fO
def iO (F : Nat) (a1 : List (List UInt8)) (n : Nat) : Int → Option Int :=
  loop (fun rec x => iP F a1 rec x) n
def lr (F : Nat) (a1 : List (List UInt8)) : Option Int :=
iO F a1 F 0
def iU (F : Nat) (a1 : List (List UInt8)) : Option Bool :=
bnd (lr F a1) fun x4 =>
some (decide (0 ≤ x4))
def jz (a6 : List UInt8) (x10 : List UInt8) (y24 : List UInt8) : Option ((List UInt8)) :=
grd (bu (y24.length + x10.length)) <|
lt (y24 ++ x10) fun x29 =>
grd (bu (x29.length + a6.length)) <|
lt (x29 ++ a6) fun x33 =>
grd (bu (x33.length + ([13, 10] : List UInt8).length)) <|
lt (x33 ++ ([13, 10] : List UInt8)) fun x37 =>
some x37
def pV (F : Nat) (a2 : List UInt8) (a4 : List UInt8) (a5 : List UInt8) (a6 : List UInt8) : Option ((List UInt8)) :=
gm (kd F ([(([67, 111, 110, 116, 101, 110, 116, 45, 84, 121, 112, 101] : List UInt8), a5), (nu, ([113, 117, 111, 116, 101, 100, 45, 112, 114, 105, 110, 116, 97, 98, 108, 101] : List UInt8))] : List ((List UInt8) × List UInt8))) fun x10 x11 =>
grd (bu (([45, 45] : List UInt8).length + a4.length)) <|
lt (([45, 45] : List UInt8) ++ a4) fun x14 =>
grd (bu (x14.length + ([13, 10] : List UInt8).length)) <|
lt (x14 ++ ([13, 10] : List UInt8)) fun x17 =>
grd (bu (a2.length + x17.length)) <|
lt (a2 ++ x17) fun x21 =>
jz a6 x10 x21
def ip (x34 : List UInt8) (y54 : List UInt8) : Option ((List UInt8) × (List UInt8) × Int) :=
grd (bu (([45, 45] : List UInt8).length + x34.length)) <|
lt (([45, 45] : List UInt8) ++ x34) fun x58 =>
grd (bu (x58.length + ([45, 45] : List UInt8).length)) <|
lt (x58 ++ ([45, 45] : List UInt8)) fun x61 =>
grd (bu (x61.length + ([13, 10] : List UInt8).length)) <|
lt (x61 ++ ([13, 10] : List UInt8)) fun x64 =>
grd (bu (y54.length + x64.length)) <|
lt (y54 ++ x64) fun x68 =>
some (x68, x34, 0)
def ko (F : Nat) (a1 : List (List UInt8)) (y31 : List (List UInt8)) (x34 : List UInt8) (rec41 : (Int × (List UInt8)) → Option ((List UInt8) × (List UInt8) × Int)) (y38 : Int) (y39 : List UInt8) : Option ((List UInt8) × (List UInt8) × Int) :=
bif decide (y38 < (y31.length : Int)) then
  grd (cx y38 y31.length) <|
  lt (at_ y31 y38) fun x45 =>
  grd (cx y38 a1.length) <|
  lt (at_ a1 y38) fun x48 =>
  bnd (pV F y39 x34 x48 x45) fun x50 =>
  grd (okI (y38 + 1)) <|
  rec41 (y38 + 1, x50)
else
  ip x34 y39
def km (F : Nat) (a1 : List (List UInt8)) (y31 : List (List UInt8)) (x34 : List UInt8) (n : Nat) : (Int × (List UInt8)) → Option ((List UInt8) × (List UInt8) × Int) :=
  loop (fun rec x => ko F a1 y31 x34 rec x.1 x.2) n
def im (F : Nat) (a1 : List (List UInt8)) (y31 : List (List UInt8)) : Option ((List UInt8) × (List UInt8) × Int) :=
bnd (jL F y31) fun x34 =>
km F a1 y31 x34 F (0, [])
def kn (F : Nat) (a1 : List (List UInt8)) (a3 : List (List UInt8)) (rec18 : ((List (List UInt8)) × Int) → Option ((List UInt8) × (List UInt8) × Int)) (y15 : List (List UInt8)) (y17 : Int) : Option ((List UInt8) × (List UInt8) × Int) :=
bif decide (y17 < (a3.length : Int)) then
  grd (cx y17 a3.length) <|
  lt (at_ a3 y17) fun x22 =>
  bnd (nN F x22) fun x24 =>
  grd (bu (y15.length + ([x24] : List (List UInt8)).length)) <|
  lt (y15 ++ ([x24] : List (List UInt8))) fun x28 =>
  grd (okI (y17 + 1)) <|
  rec18 (x28, y17 + 1)
else
  im F a1 y15
def kl (F : Nat) (a1 : List (List UInt8)) (a3 : List (List UInt8)) (n : Nat) : ((List (List UInt8)) × Int) → Option ((List UInt8) × (List UInt8) × Int) :=
  loop (fun rec x => kn F a1 a3 rec x.1 x.2) n
def nT (F : Nat) (a1 : List (List UInt8)) (a3 : List (List UInt8)) : Option ((List UInt8) × (List UInt8) × Int) :=
kW (!(((!decide ((a1.length : Int) = (a3.length : Int))) || (decide ((a3.length : Int) = 0))) || (decide (8 < (a3.length : Int))))) (iU F a1) fun x11 =>
bif (((!decide ((a1.length : Int) = (a3.length : Int))) || (decide ((a3.length : Int) = 0))) || (decide (8 < (a3.length : Int)))) || x11 then
  some ([], ([] : List UInt8), 1)
else
  kl F a1 a3 F ([], 0)
end Go.Pv
namespace Go.Proofs.YtjegcifofddgbaaGreatDoor
open Go.RowKit Go.Av Go.Pv
theorem uU : ∀ (args : Array Value) (w : World), (callFunc 30 args).run Tryz.prog w = .ok (.enter 30 args) w := fun _ _ => by kernel_rfl
theorem uT : ∀ (args : Array Value) (w : World), (callFunc 58 args).run Tryz.prog w = .ok (.enter 58 args) w := fun _ _ => by kernel_rfl
theorem uS : ∀ (args : Array Value) (w : World), (callFunc 64 args).run Tryz.prog w = .ok (.enter 64 args) w := fun _ _ => by kernel_rfl
theorem uR : ∀ (args : Array Value) (w : World), (callFunc 65 args).run Tryz.prog w = .ok (.enter 65 args) w := fun _ _ => by kernel_rfl
theorem uM : ∀ (args : Array Value) (w : World), (callFunc 72 args).run Tryz.prog w = .ok (.enter 72 args) w := fun _ _ => by kernel_rfl
theorem uL : ∀ (args : Array Value) (w : World), (callFunc 73 args).run Tryz.prog w = .ok (.enter 73 args) w := fun _ _ => by kernel_rfl
theorem uK : ∀ (args : Array Value) (w : World), (callFunc 74 args).run Tryz.prog w = .ok (.enter 74 args) w := fun _ _ => by kernel_rfl
theorem uJ : ∀ (args : Array Value) (w : World), (callFunc 75 args).run Tryz.prog w = .ok (.enter 75 args) w := fun _ _ => by kernel_rfl
theorem uI : ∀ (args : Array Value) (w : World), (callFunc 76 args).run Tryz.prog w = .ok (.enter 76 args) w := fun _ _ => by kernel_rfl
theorem uH : ∀ (args : Array Value) (w : World), (callFunc 77 args).run Tryz.prog w = .ok (.enter 77 args) w := fun _ _ => by kernel_rfl
theorem tD : ∀ (args : Array Value) (w : World), (callFunc 122 args).run Tryz.prog w = .ok (.enter 122 args) w := fun _ _ => by kernel_rfl
theorem tB : ∀ (args : Array Value) (w : World), (callFunc 123 args).run Tryz.prog w = .ok (.enter 123 args) w := fun _ _ => by kernel_rfl
theorem tA : ∀ (args : Array Value) (w : World), (callFunc 126 args).run Tryz.prog w = .ok (.enter 126 args) w := fun _ _ => by kernel_rfl
theorem tx : ∀ (args : Array Value) (w : World), (callFunc 127 args).run Tryz.prog w = .ok (.enter 127 args) w := fun _ _ => by kernel_rfl
theorem tw : ∀ (args : Array Value) (w : World), (callFunc 128 args).run Tryz.prog w = .ok (.enter 128 args) w := fun _ _ => by kernel_rfl
theorem tt : ∀ (args : Array Value) (w : World), (callFunc 178 args).run Tryz.prog w = .ok (.enter 178 args) w := fun _ _ => by kernel_rfl
set_option maxRecDepth 100000 in
set_option maxHeartbeats 1000000 in
theorem ss (F : Nat) (a1 : List UInt8) (q2 : Option Nat) (o3 : Nat) (a4 : List UInt8) (r5 : Bool) (H : nS F a1 a4 = some r5) : ACalls Tryz.prog 127 [slE Enc.byte a1 q2, .pt o3 0] [.obj o3 [S a4]] (fun e A' => e = .ret (B r5) ∧ A' = [.obj o3 [S a4]]) := by
 unfold nS at H
 refine ax Tryz.func127 rfl rfl ?_;show AW _ _ 8 _ _ _;refine af <| aa ?_;show AR _ _ _ _ _ [0] _;refine za rfl <| ag <| af ?_;obtain ⟨g6, H⟩ := ay H;obtain ⟨g8, H⟩ := ay H;obtain ⟨g9, H⟩ := ay H;obtain ⟨g10, H⟩ := ay H;obtain ⟨x11, e12, H⟩ := bf H;refine aa ?_;show AR _ _ _ _ _ [0, 1, 2, 3, 4] _;refine zS rfl (aj (av := slE _ _ _) rfl) <| zR rfl (am (i := 0) ab rfl rfl rfl rfl) <| zX rfl (cm (bytes := 1) ab ac aY rfl g6) ?_;rintro _ _ ⟨t7, rfl, rfl⟩;refine aq rfl rfl (aD rfl tw rfl (show ACalls _ _ _ [] (Ret (B x11) []) from by subst e12; exact na a1 a4 q2 (some t7) (gg g8) (of_decide_eq_true g9) (gg g10)) ?_);refine za rfl <| ag <| aL ?_;obtain rfl := ap H;exact And.intro rfl (Exists.intro _ (Exists.intro _ ⟨aI rfl (.refl _), aJ [1] rfl, rfl, rfl⟩))
set_option maxRecDepth 100000 in
set_option maxHeartbeats 1000000 in
theorem qn (F : Nat) (a1 : List (List UInt8)) (q2 : Option Nat) (o3 : Nat) (a4 : List UInt8) (r5 : Int) (H : lu F a1 a4 = some r5) : ACalls Tryz.prog 178 [slE (Enc.sl Enc.byte) a1 q2, .fn (.func 127) [] [.pt o3 0]] [.obj o3 [S a4]] (fun e A' => e = .ret (i64 r5) ∧ A' = [.obj o3 [S a4]]) := by
 unfold lu at H
 refine ax Tryz.func178 rfl rfl ?_;show AW _ _ 19 _ _ _;refine af <| aa ?_;show AR _ _ _ _ _ [0] _;refine za rfl <| ag <| bj (X := Unit) (fun _ => ⟨[], [], [.obj o3 [S a4]]⟩) (fun _ => fP = some r5) ?_ ?_
 ·refine af <| aa ?_;show AR _ _ _ _ _ [0, 1, 2] _;refine zS rfl (aj (av := slE _ _ _) rfl) <| zS rfl (aR bH rfl) <| zm rfl <| ag <| aN <| bZ (X := Nat × Int) (fun (n8, y6) => ⟨[(0, slE (Enc.sl Enc.byte) a1 q2), (1, .fn (.func 127) [] [.pt o3 0]), (7, i64 (a1.length : Int)), (8, i64 y6)], [], [.obj o3 [S a4]]⟩) (fun (n8, y6) => iQ F a1 a4 n8 y6 = some r5) (fun (n8, y6) => n8) (F, 0) H (aO [0] (.cons (.refl _) (.cons (.refl _) (.cons (.refl _) (.cons (.refl _) (.nil _))))) rfl) ?_;rintro ⟨n8, y6⟩ H;obtain ⟨n8, rfl, H⟩ := cC H;replace H : iR F a1 a4 (iQ F a1 a4 n8) y6 = some r5 := H
  unfold iR at H
  refine af <| aa ?_;show AR _ _ _ _ _ [0] _;refine zS rfl (bz rfl rfl) <| ag <| af <| az rfl (fun c9 => ?_) (fun c9 => ?_)
  ·replace H := aZ c9 H;refine aC <| af <| aN <| af <| aa ?_;show AR _ _ _ _ _ [0, 1] _;refine zm rfl <| za rfl <| ag <| af ?_;obtain ⟨g10, H⟩ := ay H;obtain ⟨x11, e12, H⟩ := bf H;obtain ⟨x13, e14, H⟩ := bN H;refine aa ?_;show AR _ _ _ _ _ [0, 1, 2, 3, 4, 5] _;refine zS rfl (aj (av := .fn _ _ _) rfl) <| zS rfl (aj (av := slE _ _ _) rfl) <| zm rfl <| zS rfl (ca (E := (Enc.sl Enc.byte)) bH (by kernel_rfl) rfl rfl g10 e12) <| zS rfl (aH ac rfl rfl) <| aq rfl rfl (AO.callFAt [0] rfl (.inl rfl) tx rfl (ss F x11 none o3 a4 x13 e14) rfl (fun c A' h => by cases h.1) ?_)
   rintro av A' ⟨h, rfl⟩; cases h
   refine ag <| az rfl (fun c15 => ?_) (fun c15 => ?_)
   ·replace H := aZ c15 H;refine af <| aa ?_;show AR _ _ _ _ _ [0, 1] _;refine zm rfl <| za rfl <| ag <| aL ?_;obtain rfl := ap H;exact And.intro rfl (Exists.intro _ (Exists.intro _ ⟨aI rfl (.refl _), aJ [0] rfl, rfl, rfl⟩))
   ·replace H := ba c15 H;refine aC ?_;obtain ⟨g16, H⟩ := ay H;refine aa ?_;show AR _ _ _ _ _ [0, 1] _;refine zS rfl (bo rfl rfl g16) <| zm rfl <| ag ?_;exact Exists.intro (n8, y6 + 1) ⟨H, Nat.lt_succ_self _, aO [0] (.cons (.refl _) (.cons (.refl _) (.cons (.refl _) (.cons (.refl _) (.nil _))))) rfl⟩
  ·replace H := ba c9 H;refine bR ?_;exact Exists.intro () ⟨H, aO [0] (.nil _) rfl⟩
 rintro _ H;replace H : fP = some r5 := H
 unfold fP at H
 refine af <| aa ?_;show AR _ _ _ _ _ [0] _;refine za rfl <| ag <| aL ?_;obtain rfl := ap H;exact And.intro rfl (Exists.intro _ (Exists.intro _ ⟨aI rfl (.refl _), aJ [0] rfl, rfl, rfl⟩))
set_option maxRecDepth 100000 in
set_option maxHeartbeats 1000000 in
theorem nI (F : Nat) (a1 : List (List UInt8)) (q2 : Option Nat) (o3 : Nat) (a4 : List UInt8) (r5 : Bool) (H : iV F a1 a4 = some r5) : ACalls Tryz.prog 126 [slE (Enc.sl Enc.byte) a1 q2, .fn (.func 127) [] [.pt o3 0]] [.obj o3 [S a4]] (fun e A' => e = .ret (B r5) ∧ A' = [.obj o3 [S a4]]) := by
 unfold iV at H
 refine ax Tryz.func126 rfl rfl ?_;show AW _ _ 9 _ _ _;refine af <| aa ?_;show AR _ _ _ _ _ [0] _;refine za rfl <| ag <| af ?_;obtain ⟨x6, e7, H⟩ := bN H;refine aa ?_;show AR _ _ _ _ _ [0, 1, 2, 3, 4] _;refine zS rfl (aj (av := slE _ _ _) rfl) <| zS rfl (aj (av := .fn _ _ _) rfl) <| aq rfl rfl (bG [0] rfl tt rfl (qn F a1 q2 o3 a4 x6 e7) rfl (fun c A' h => by cases h.1) ?_)
 rintro av A' ⟨h, rfl⟩; cases h
 refine zS rfl (dr rfl rfl) <| za rfl <| ag <| aL ?_;obtain rfl := ap H;exact And.intro rfl (Exists.intro _ (Exists.intro _ ⟨aI rfl (.refl _), aJ [0] rfl, rfl, rfl⟩))
set_option maxRecDepth 100000 in
set_option maxHeartbeats 1000000 in
theorem oU (F : Nat) (a1 : List (List UInt8)) (q2 : Option Nat) (r3 : List UInt8) (H : jL F a1 = some r3) : ACalls Tryz.prog 76 [slE (Enc.sl Enc.byte) a1 q2] [] (Ret (S r3) []) := by
 unfold jL at H
 refine ax Tryz.func76 rfl rfl ?_;show AW _ _ 15 _ _ _;refine af <| aa ?_;show AR _ _ _ _ _ [0] _;refine za rfl <| ag <| af <| aa ?_;show AR _ _ _ _ _ [0] _;refine za rfl <| ag <| aN <| bZ (X := Nat × Int) (fun (n6, y4) => ⟨[(0, slE (Enc.sl Enc.byte) a1 q2), (3, i64 y4)], [], []⟩) (fun (n6, y4) => gk F a1 n6 y4 = some r3) (fun (n6, y4) => n6) (F, 0) H (aO [] (.cons (.refl _) (.cons (.refl _) (.nil _))) rfl) ?_;rintro ⟨n6, y4⟩ H;obtain ⟨n6, rfl, H⟩ := cC H;replace H : gl F a1 (gk F a1 n6) y4 = some r3 := H
 unfold gl at H
 refine af <| aN <| af ?_;obtain ⟨g7, H⟩ := ay H;obtain ⟨x8, e9, H⟩ := bf H;obtain ⟨g10, H⟩ := ay H;obtain ⟨x11, e12, H⟩ := bf H;refine aa ?_;show AR _ _ _ _ _ [0, 1, 2, 3, 4] _;refine zm rfl <| aq rfl rfl (aD rfl uT rfl (show ACalls _ _ _ [] (Ret (S x8) []) from by subst e9; exact gJ y4 (mV g7)) ?_);refine zS rfl (cf rfl rfl g10 e12) <| zX rfl (dy (zs := [.string ⟨#[]⟩]) (by kernel_rfl)) ?_;rintro _ _ ⟨o13, rfl, rfl⟩;refine s0 rfl rfl (aw (i := 0) (c := .v _) (by kernel_rfl) rfl rfl rfl rfl (ai rfl)) <| ag <| af ?_;obtain ⟨x14, e15, H⟩ := bN H;refine aa ?_;show AR _ _ _ _ _ [0, 1, 2, 3] _;refine zS rfl (aj (av := slE _ _ _) rfl) <| zS rfl (iq rfl rfl) <| aq rfl rfl (bG [0] rfl tA rfl (nI F a1 q2 o13 x11 x14 e15) rfl (fun c A' h => by cases h.1) ?_)
 rintro av A' ⟨h, rfl⟩; cases h
 refine zS rfl (cn rfl) <| ag <| az rfl (fun c16 => ?_) (fun c16 => ?_)
 ·replace H := aZ c16 H;refine af <| aa ?_;show AR _ _ _ _ _ [0, 1] _;refine zR rfl (am (i := 0) ab rfl rfl rfl rfl) <| za rfl <| ag <| aL ?_;obtain rfl := ap H;exact And.intro rfl (Exists.intro _ (Exists.intro _ ⟨aI rfl (.refl _), aJ [] rfl, rfl, rfl⟩))
 ·replace H := ba c16 H;refine aC ?_;obtain ⟨g17, H⟩ := ay H;refine aa ?_;show AR _ _ _ _ _ [0, 1, 2] _;refine zm rfl <| zS rfl (bo rfl rfl g17) <| za rfl <| ag ?_;exact Exists.intro (n6, y4 + 1) ⟨H, Nat.lt_succ_self _, aO [] (.cons (.refl _) (.cons (.refl _) (.nil _))) rfl⟩
set_option maxRecDepth 100000 in
set_option maxHeartbeats 1000000 in
theorem sr (F : Nat) (a1 : List UInt8) (r2 : Bool) (H : nR F a1 = some r2) : ACalls Tryz.prog 74 [S a1] [] (Ret (B r2) []) := by
 unfold nR at H
 refine ax Tryz.func74 rfl rfl ?_;show AW _ _ 33 _ _ _;refine af <| aa ?_;show AR _ _ _ _ _ [0] _;refine za rfl <| ag <| bj (X := Unit) (fun _ => ⟨[(0, S a1)], [], []⟩) (fun _ => il a1 = some r2) ?_ ?_
 ·refine af <| aa ?_;show AR _ _ _ _ _ [0, 1, 2] _;refine zm rfl <| zS rfl (aU ab rfl) <| zm rfl <| ag <| aN <| bZ (X := Nat × Int) (fun (n5, y3) => ⟨[(0, S a1), (5, i64 (a1.length : Int)), (6, i64 y3)], [], []⟩) (fun (n5, y3) => ki a1 n5 y3 = some r2) (fun (n5, y3) => n5) (F, 0) H (aO [] (.cons (.refl _) (.cons (.refl _) (.cons (.refl _) (.nil _)))) rfl) ?_;rintro ⟨n5, y3⟩ H;obtain ⟨n5, rfl, H⟩ := cC H;replace H : kj a1 (ki a1 n5) y3 = some r2 := H
  unfold kj at H
  refine af <| aa ?_;show AR _ _ _ _ _ [0] _;refine zS rfl (bz rfl rfl) <| ag <| af <| az rfl (fun c6 => ?_) (fun c6 => ?_)
  ·replace H := aZ c6 H;refine aC <| af <| aN <| af <| aa ?_;show AR _ _ _ _ _ [0, 1] _;refine zm rfl <| za rfl <| ag <| af ?_;obtain ⟨g7, H⟩ := ay H;obtain ⟨x8, e9, H⟩ := bf H;obtain ⟨x10, e11, H⟩ := bf H;refine aa ?_;show AR _ _ _ _ _ [0, 1, 2, 3, 4] _;refine zm rfl <| zm rfl <| zS rfl (bg ab rfl rfl g7 e9) <| aq rfl rfl (aD rfl uS rfl (show ACalls _ _ _ [] (Ret (i64 x10) []) from by subst e11; exact dm tM x8) ?_);refine zS rfl (bz rfl rfl) <| ag <| az rfl (fun c12 => ?_) (fun c12 => ?_)
   ·replace H := aZ c12 H;refine af <| aa ?_;show AR _ _ _ _ _ [0] _;refine za rfl <| ag <| aL ?_;obtain rfl := ap H;exact And.intro rfl (Exists.intro _ (Exists.intro _ ⟨aI rfl (.refl _), aJ [] rfl, rfl, rfl⟩))
   ·replace H := ba c12 H;refine aC ?_;obtain ⟨g13, H⟩ := ay H;refine aa ?_;show AR _ _ _ _ _ [0, 1] _;refine zS rfl (bo rfl rfl g13) <| zm rfl <| ag ?_;exact Exists.intro (n5, y3 + 1) ⟨H, Nat.lt_succ_self _, aO [] (.cons (.refl _) (.cons (.refl _) (.cons (.refl _) (.nil _)))) rfl⟩
  ·replace H := ba c6 H;refine bR ?_;exact Exists.intro () ⟨H, aO [] (.cons (.refl _) (.nil _)) rfl⟩
 rintro _ H;replace H : il a1 = some r2 := H
 unfold il at H
 refine af ?_;obtain ⟨g17, H⟩ := dC H;obtain ⟨x18, e19, H⟩ := bf H;obtain ⟨g21, H⟩ := dC H;obtain ⟨x22, e23, H⟩ := bf H;refine aa ?_;show AR _ _ _ _ _ [0, 1, 2, 3, 4, 5, 6, 7, 8, 9, 10, 11, 12, 13, 14, 15, 16, 17, 18] _;refine zm rfl <| zS rfl (hB rfl rfl) <| zm rfl <| bb (l := [7, 8, 9, 10, 11, 12, 13, 14, 15, 16, 17, 18]) 21 (B ((!decide (a1 = ([] : List UInt8))) && (decide ((a1.length : Int) ≤ 60)))) (fun K => ?_) ?_
 ·rcases ak (!decide (a1 = ([] : List UInt8))) with h15 | h15
  ·refine zM h15 rfl <| zU h15 rfl (aU ab rfl) <| zU h15 rfl (dz rfl rfl) <| zS rfl (aG (av := .v _) rfl h15 rfl) ?_;exact K _ 3 _ (aA (co h15)) rfl rfl
  ·refine zF h15 rfl <| zF h15 rfl <| zF h15 rfl <| zS rfl (aF (av := .v _) rfl h15 rfl) ?_;exact K _ 3 _ (aA (cq h15)) rfl rfl
 refine zm rfl <| bb (l := [13, 14, 15, 16, 17, 18]) 27 (B (((!decide (a1 = ([] : List UInt8))) && (decide ((a1.length : Int) ≤ 60))) && (decide (x18 = a1)))) (fun K => ?_) ?_
 ·rcases ak ((!decide (a1 = ([] : List UInt8))) && (decide ((a1.length : Int) ≤ 60))) with h16 | h16
  ·refine zM h16 rfl <| zT h16 rfl (aD rfl tB rfl (show ACalls _ _ _ [] (Ret (S x18) []) from by subst e19; exact qQ a1 32 (by decide) (gg (g17 h16))) ?_);refine zM h16 rfl <| zU h16 rfl (eN rfl rfl) <| zS rfl (aG (av := .v _) rfl h16 rfl) ?_;exact K _ 4 _ (aA (co h16)) rfl rfl
  ·refine zF h16 rfl <| zF h16 rfl <| zF h16 rfl <| zF h16 rfl <| zS rfl (aF (av := .v _) rfl h16 rfl) ?_;exact K _ 4 _ (aA (cq h16)) rfl rfl
 refine zm rfl <| bb (l := [18]) 32 (B ((((!decide (a1 = ([] : List UInt8))) && (decide ((a1.length : Int) ≤ 60))) && (decide (x18 = a1))) && (!x22))) (fun K => ?_) ?_
 ·rcases ak (((!decide (a1 = ([] : List UInt8))) && (decide ((a1.length : Int) ≤ 60))) && (decide (x18 = a1))) with h20 | h20
  ·refine zM h20 rfl <| zT h20 rfl (aD rfl uR rfl (show ACalls _ _ _ [] (Ret (B x22) []) from by subst e23; exact iu a1 ([32, 32] : List UInt8) (gg (g21 h20))) ?_);refine zU h20 rfl (cn rfl) <| zS rfl (aG (av := .v _) rfl h20 rfl) ?_;exact K _ 3 _ (aA (co h20)) rfl rfl
  ·refine zF h20 rfl <| zF h20 rfl <| zF h20 rfl <| zS rfl (aF (av := .v _) rfl h20 rfl) ?_;exact K _ 3 _ (aA (cq h20)) rfl rfl
 refine za rfl <| ag <| aL ?_;obtain rfl := ap H;exact And.intro rfl (Exists.intro _ (Exists.intro _ ⟨aI rfl (.refl _), aJ [] rfl, rfl, rfl⟩))
set_option maxRecDepth 100000 in
set_option maxHeartbeats 1000000 in
theorem sq (F : Nat) (a1 : List UInt8) (r2 : Bool) (H : nQ F a1 = some r2) : ACalls Tryz.prog 73 [S a1] [] (Ret (B r2) []) := by
 unfold nQ at H
 refine ax Tryz.func73 rfl rfl ?_;show AW _ _ 6 _ _ _;refine af <| aa ?_;show AR _ _ _ _ _ [0] _;refine za rfl <| ag <| af ?_;obtain ⟨x3, e4, H⟩ := bN H;refine aa ?_;show AR _ _ _ _ _ [0, 1, 2, 3] _;refine zm rfl <| aq rfl rfl (aD rfl uK rfl (sr F a1 x3 e4) ?_);refine zS rfl (cn rfl) <| za rfl <| ag <| aL ?_;obtain rfl := ap H;exact And.intro rfl (Exists.intro _ (Exists.intro _ ⟨aI rfl (.refl _), aJ [] rfl, rfl, rfl⟩))
set_option maxRecDepth 100000 in
set_option maxHeartbeats 1000000 in
theorem qm (F : Nat) (a1 : List (List UInt8)) (q2 : Option Nat) (r3 : Int) (H : lr F a1 = some r3) : ACalls Tryz.prog 122 [slE Enc.str a1 q2, .v (.func (.func 73) #[] #[])] [] (Ret (i64 r3) []) := by
 unfold lr at H
 refine ax Tryz.func122 rfl rfl ?_;show AW _ _ 19 _ _ _;refine af <| aa ?_;show AR _ _ _ _ _ [0] _;refine za rfl <| ag <| bj (X := Unit) (fun _ => ⟨[], [], []⟩) (fun _ => fO = some r3) ?_ ?_
 ·refine af <| aa ?_;show AR _ _ _ _ _ [0, 1, 2] _;refine zS rfl (aj (av := slE _ _ _) rfl) <| zS rfl (aR ao rfl) <| zm rfl <| ag <| aN <| bZ (X := Nat × Int) (fun (n6, y4) => ⟨[(0, slE Enc.str a1 q2), (1, .v (.func (.func 73) #[] #[])), (7, i64 (a1.length : Int)), (8, i64 y4)], [], []⟩) (fun (n6, y4) => iO F a1 n6 y4 = some r3) (fun (n6, y4) => n6) (F, 0) H (aO [] (.cons (.refl _) (.cons (.refl _) (.cons (.refl _) (.cons (.refl _) (.nil _))))) rfl) ?_;rintro ⟨n6, y4⟩ H;obtain ⟨n6, rfl, H⟩ := cC H;replace H : iP F a1 (iO F a1 n6) y4 = some r3 := H
  unfold iP at H
  refine af <| aa ?_;show AR _ _ _ _ _ [0] _;refine zS rfl (bz rfl rfl) <| ag <| af <| az rfl (fun c7 => ?_) (fun c7 => ?_)
  ·replace H := aZ c7 H;refine aC <| af <| aN <| af <| aa ?_;show AR _ _ _ _ _ [0, 1] _;refine zm rfl <| za rfl <| ag <| af ?_;obtain ⟨g8, H⟩ := ay H;obtain ⟨x9, e10, H⟩ := bf H;obtain ⟨x11, e12, H⟩ := bN H;refine aa ?_;show AR _ _ _ _ _ [0, 1, 2, 3, 4, 5] _;refine zm rfl <| zS rfl (aj (av := slE _ _ _) rfl) <| zm rfl <| zS rfl (ca (E := Enc.str) ao (by kernel_rfl) rfl rfl g8 e10) <| zS rfl (aH ab rfl rfl) <| aq rfl rfl (AO.callFp rfl (.inr ⟨rfl, rfl, rfl⟩) uL rfl (sq F x9 x11 e12) ?_);refine ag <| az rfl (fun c13 => ?_) (fun c13 => ?_)
   ·replace H := aZ c13 H;refine af <| aa ?_;show AR _ _ _ _ _ [0, 1] _;refine zm rfl <| za rfl <| ag <| aL ?_;obtain rfl := ap H;exact And.intro rfl (Exists.intro _ (Exists.intro _ ⟨aI rfl (.refl _), aJ [] rfl, rfl, rfl⟩))
   ·replace H := ba c13 H;refine aC ?_;obtain ⟨g14, H⟩ := ay H;refine aa ?_;show AR _ _ _ _ _ [0, 1] _;refine zS rfl (bo rfl rfl g14) <| zm rfl <| ag ?_;exact Exists.intro (n6, y4 + 1) ⟨H, Nat.lt_succ_self _, aO [] (.cons (.refl _) (.cons (.refl _) (.cons (.refl _) (.cons (.refl _) (.nil _))))) rfl⟩
  ·replace H := ba c7 H;refine bR ?_;exact Exists.intro () ⟨H, aO [] (.nil _) rfl⟩
 rintro _ H;replace H : fO = some r3 := H
 unfold fO at H
 refine af <| aa ?_;show AR _ _ _ _ _ [0] _;refine za rfl <| ag <| aL ?_;obtain rfl := ap H;exact And.intro rfl (Exists.intro _ (Exists.intro _ ⟨aI rfl (.refl _), aJ [] rfl, rfl, rfl⟩))
set_option maxRecDepth 100000 in
set_option maxHeartbeats 1000000 in
theorem nH (F : Nat) (a1 : List (List UInt8)) (q2 : Option Nat) (r3 : Bool) (H : iU F a1 = some r3) : ACalls Tryz.prog 72 [slE Enc.str a1 q2, .v (.func (.func 73) #[] #[])] [] (Ret (B r3) []) := by
 unfold iU at H
 refine ax Tryz.func72 rfl rfl ?_;show AW _ _ 9 _ _ _;refine af <| aa ?_;show AR _ _ _ _ _ [0] _;refine za rfl <| ag <| af ?_;obtain ⟨x4, e5, H⟩ := bN H;refine aa ?_;show AR _ _ _ _ _ [0, 1, 2, 3, 4] _;refine zS rfl (aj (av := slE _ _ _) rfl) <| zm rfl <| aq rfl rfl (aD rfl tD rfl (qm F a1 q2 x4 e5) ?_);refine zS rfl (dr rfl rfl) <| za rfl <| ag <| aL ?_;obtain rfl := ap H;exact And.intro rfl (Exists.intro _ (Exists.intro _ ⟨aI rfl (.refl _), aJ [] rfl, rfl, rfl⟩))
set_option maxRecDepth 100000 in
set_option maxHeartbeats 1000000 in
theorem ug (F : Nat) (o1 : Nat) (a2 : List UInt8) (t3 : Nat) (a4 : List UInt8) (a5 : List UInt8) (a6 : List UInt8) (q7 : Option Nat) (r8 : List UInt8) (H : pV F a2 a4 a5 a6 = some r8) : ACalls Tryz.prog 77 [.pt o1 0, S a5, slE Enc.byte a6 q7] [.obj o1 [slE Enc.byte a2 (some t3), S a4], .tok t3 5] (fun e A' => e = .ret (.tup []) ∧ ∃ t9, A' = [.obj o1 [slE Enc.byte r8 (some t9), S a4], .tok t9 5]) := by
 unfold pV at H
 refine ax Tryz.func77 rfl rfl ?_;show AW _ _ 42 _ _ _;refine af ?_;obtain ⟨x10, x11, e12, H⟩ := cW H;refine aa ?_;show AR _ _ _ _ _ [0, 1, 2, 3, 4, 5, 6, 7, 8, 9] _;refine zm rfl <| zS rfl (dt (zs := [.string ⟨#[]⟩, .string ⟨#[]⟩]) (ps := [(0, 1), (1, 1)]) (cs := [S ([67, 111, 110, 116, 101, 110, 116, 45, 84, 121, 112, 101] : List UInt8), S a5]) (by kernel_rfl) rfl rfl) <| zS rfl (dt (zs := [.string ⟨#[]⟩, .string ⟨#[]⟩]) (ps := [(0, 1), (1, 1)]) (cs := [S nu, S ([113, 117, 111, 116, 101, 100, 45, 112, 114, 105, 110, 116, 97, 98, 108, 101] : List UInt8)]) (by kernel_rfl) rfl rfl) <| zR rfl (ku (E := (Enc.prod Enc.str Enc.str)) (bytes := 32) (zs := [.string ⟨#[]⟩, .string ⟨#[]⟩]) (l := ([(([67, 111, 110, 116, 101, 110, 116, 45, 84, 121, 112, 101] : List UInt8), a5), (nu, ([113, 117, 111, 116, 101, 100, 45, 112, 114, 105, 110, 116, 97, 98, 108, 101] : List UInt8))] : List ((List UInt8) × List UInt8))) dW (by kernel_rfl) (by kernel_rfl) rfl rfl rfl rfl rfl) <| aq rfl rfl (aD rfl uU rfl (uh F ([(([67, 111, 110, 116, 101, 110, 116, 45, 84, 121, 112, 101] : List UInt8), a5), (nu, ([113, 117, 111, 116, 101, 100, 45, 112, 114, 105, 110, 116, 97, 98, 108, 101] : List UInt8))] : List ((List UInt8) × List UInt8)) none x10 x11 e12) ?_)
 refine zS rfl (aj (av := .tup _) rfl) <| zS rfl (aE (av := slE _ _ _) rfl rfl) <| zS rfl (aE (av := .v _) rfl rfl) <| zS rfl (aB (av := slE _ _ _) rfl) <| za rfl <| ag <| bj (X := (List UInt8) × Nat) (fun (y24, t25) => ⟨[(0, .pt o1 0), (2, slE Enc.byte a6 q7), (6, slE Enc.byte x10 none)], [], [.obj o1 [slE Enc.byte y24 (some t25), S a4], .tok t25 5]⟩) (fun (y24, t25) => jz a6 x10 y24 = some r8) ?_ ?_
 ·obtain ⟨g13, H⟩ := ay H;obtain ⟨x14, e15, H⟩ := bf H;obtain ⟨g16, H⟩ := ay H;obtain ⟨x17, e18, H⟩ := bf H;obtain ⟨g20, H⟩ := ay H;obtain ⟨x21, e22, H⟩ := bf H;refine bx (by kernel_rfl) ?_;show AI _ _ _ _ _ 15 (Array.replicate 15 false) _;refine zk 0 rfl (aj (av := .pt _ _) rfl) ?_;show AI _ _ _ _ _ _ #[true, false, false, false, false, false, false, false, false, false, false, false, false, false, false] _;refine zk 1 rfl (aj (av := .pt _ _) rfl) ?_;show AI _ _ _ _ _ _ #[true, true, false, false, false, false, false, false, false, false, false, false, false, false, false] _;refine zk 2 rfl (ar rfl) ?_;show AI _ _ _ _ _ _ #[true, true, true, false, false, false, false, false, false, false, false, false, false, false, false] _;refine zk 3 rfl (al (n := 0) (by kernel_rfl) rfl) ?_;show AI _ _ _ _ _ _ #[true, true, true, true, false, false, false, false, false, false, false, false, false, false, false] _;refine zk 5 rfl (aj (av := .pt _ _) rfl) ?_;show AI _ _ _ _ _ _ #[true, true, true, true, false, true, false, false, false, false, false, false, false, false, false] _;refine zk 6 rfl (ar rfl) ?_;show AI _ _ _ _ _ _ #[true, true, true, true, false, true, true, false, false, false, false, false, false, false, false] _;refine zk 7 rfl (al (n := 1) (by kernel_rfl) rfl) ?_;show AI _ _ _ _ _ _ #[true, true, true, true, false, true, true, true, false, false, false, false, false, false, false] _;refine dx (i := 4) (j := 8) (by kernel_rfl) rfl rfl rfl rfl ?_ ?_
  ·refine aW rfl (am (i := 0) ac rfl rfl rfl rfl) ?_;show AI _ _ _ _ _ _ #[true, true, true, true, true, true, true, true, false, false, false, false, false, false, false] _;refine aX (i := 8) (by kernel_rfl) rfl rfl <| aW rfl (am (i := 0) ab rfl rfl rfl rfl) ?_;show AI _ _ _ _ _ _ #[true, true, true, true, true, true, true, true, true, false, false, false, false, false, false] _;refine zk 9 rfl (cf rfl rfl g13 e15) ?_;show AI _ _ _ _ _ _ #[true, true, true, true, true, true, true, true, true, true, false, false, false, false, false] _;refine zk 10 rfl (cf rfl rfl g16 e18) ?_;show AI _ _ _ _ _ _ #[true, true, true, true, true, true, true, true, true, true, true, false, false, false, false] _;refine aX (i := 11) (by kernel_rfl) rfl rfl <| cb rfl (bk (bytes := 1) 1 ac ab rfl (by kernel_rfl) rfl rfl rfl rfl g20 e22) ?_;rintro _ _ ⟨t19, rfl, rfl⟩;show AI _ _ _ _ _ _ #[true, true, true, true, true, true, true, true, true, true, true, true, false, false, false] _;refine zk 12 rfl (ar rfl) ?_;show AI _ _ _ _ _ _ #[true, true, true, true, true, true, true, true, true, true, true, true, true, false, false] _;refine zk 13 rfl (al (n := 0) (by kernel_rfl) rfl) ?_;show AI _ _ _ _ _ _ #[true, true, true, true, true, true, true, true, true, true, true, true, true, true, false] _;refine aX (i := 14) (by kernel_rfl) rfl rfl <| cj (aw (i := 0) (c := slE _ _ _) (by kernel_rfl) rfl rfl rfl rfl (ai rfl)) ?_
   show AI _ _ _ _ _ _ #[true, true, true, true, true, true, true, true, true, true, true, true, true, true, true] _;refine bB rfl ?_;exact Exists.intro (x21, t19) ⟨H, aO [0, 0] (.cons (.refl _) (.cons (.refl _) (.cons (.refl _) (.nil _)))) rfl⟩
  ·refine aW rfl (am (i := 0) ab rfl rfl rfl rfl) ?_;show AI _ _ _ _ _ _ #[true, true, true, true, false, true, true, true, true, false, false, false, false, false, false] _;refine zk 9 rfl (cf rfl rfl g13 e15) ?_;show AI _ _ _ _ _ _ #[true, true, true, true, false, true, true, true, true, true, false, false, false, false, false] _;refine zk 10 rfl (cf rfl rfl g16 e18) ?_;show AI _ _ _ _ _ _ #[true, true, true, true, false, true, true, true, true, true, true, false, false, false, false] _;refine aX (i := 4) (by kernel_rfl) rfl rfl <| aW rfl (am (i := 0) ac rfl rfl rfl rfl) ?_;show AI _ _ _ _ _ _ #[true, true, true, true, true, true, true, true, true, true, true, false, false, false, false] _;refine aX (i := 11) (by kernel_rfl) rfl rfl <| cb rfl (bk (bytes := 1) 1 ac ab rfl (by kernel_rfl) rfl rfl rfl rfl g20 e22) ?_;rintro _ _ ⟨t23, rfl, rfl⟩;show AI _ _ _ _ _ _ #[true, true, true, true, true, true, true, true, true, true, true, true, false, false, false] _;refine zk 12 rfl (ar rfl) ?_;show AI _ _ _ _ _ _ #[true, true, true, true, true, true, true, true, true, true, true, true, true, false, false] _;refine zk 13 rfl (al (n := 0) (by kernel_rfl) rfl) ?_;show AI _ _ _ _ _ _ #[true, true, true, true, true, true, true, true, true, true, true, true, true, true, false] _;refine aX (i := 14) (by kernel_rfl) rfl rfl <| cj (aw (i := 0) (c := slE _ _ _) (by kernel_rfl) rfl rfl rfl rfl (ai rfl)) ?_
   show AI _ _ _ _ _ _ #[true, true, true, true, true, true, true, true, true, true, true, true, true, true, true] _;refine bB rfl ?_;exact Exists.intro (x21, t23) ⟨H, aO [0, 0] (.cons (.refl _) (.cons (.refl _) (.cons (.refl _) (.nil _)))) rfl⟩
 rintro ⟨y24, t25⟩ H;replace H : jz a6 x10 y24 = some r8 := H
 unfold jz at H
 obtain ⟨g28, H⟩ := ay H;obtain ⟨x29, e30, H⟩ := bf H;obtain ⟨g32, H⟩ := ay H;obtain ⟨x33, e34, H⟩ := bf H;obtain ⟨g36, H⟩ := ay H;obtain ⟨x37, e38, H⟩ := bf H;refine aa ?_;show AR _ _ _ _ _ [0, 1, 2, 3, 4, 5, 6, 7, 8, 9, 10, 11, 12] _;refine zS rfl (aj (av := .pt _ _) rfl) <| zS rfl (aj (av := .pt _ _) rfl) <| zS rfl (ar rfl) <| zS rfl (al (n := 0) (by kernel_rfl) rfl) <| zR rfl (am (i := 0) ac rfl rfl rfl rfl) <| zS rfl (aj (av := slE _ _ _) rfl) <| zX rfl (cz (E := Enc.byte) (bytes := 1) 1 ac ac rfl (by kernel_rfl) rfl rfl rfl rfl g28 e30) ?_;rintro _ _ ⟨t27, rfl, rfl⟩;refine zS rfl (aj (av := slE _ _ _) rfl) <| zX rfl (cz (E := Enc.byte) (bytes := 1) 1 ac ac rfl (by kernel_rfl) rfl rfl rfl rfl g32 e34) ?_;rintro _ _ ⟨t31, rfl, rfl⟩;refine zX rfl (bk (bytes := 1) 1 ac ab rfl (by kernel_rfl) rfl rfl rfl rfl g36 e38) ?_;rintro _ _ ⟨t35, rfl, rfl⟩;refine zS rfl (ar rfl) <| zS rfl (al (n := 0) (by kernel_rfl) rfl) <| s0 rfl rfl (aw (i := 0) (c := slE _ _ _) (by kernel_rfl) rfl rfl rfl rfl (ai rfl)) <| ag ?_;obtain rfl := ap H;exact And.intro rfl (Exists.intro _ (Exists.intro _ ⟨cd rfl, aJ [0, 0] rfl, rfl, t35, rfl⟩))
set_option maxRecDepth 100000 in
set_option maxHeartbeats 1000000 in
theorem su (F : Nat) (a1 : List (List UInt8)) (q2 : Option Nat) (a3 : List (List UInt8)) (q4 : Option Nat) (r5 : List UInt8) (r6 : List UInt8) (r7 : Int) (H : nT F a1 a3 = some (r5, r6, r7)) : ACalls Tryz.prog 29 [slE Enc.str a1 q2, slE (Enc.sl Enc.byte) a3 q4] [] (Ret (.tup [slE Enc.byte r5 none, S r6, i64 r7]) []) := by
 unfold nT at H
 refine ax Tryz.func29 rfl rfl ?_;show AW _ _ 82 _ _ _;refine af <| aa ?_;show AR _ _ _ _ _ [0, 1, 2] _;refine za rfl <| za rfl <| za rfl <| ag <| af <| af ?_;obtain ⟨x11, e12, H⟩ := eU H;refine aa ?_;show AR _ _ _ _ _ [0, 1, 2, 3, 4, 5, 6, 7, 8, 9, 10, 11, 12, 13, 14, 15, 16, 17, 18] _;refine zS rfl (aj (av := slE _ _ _) rfl) <| zS rfl (aR ao rfl) <| zS rfl (aj (av := slE _ _ _) rfl) <| zS rfl (aR bH rfl) <| zS rfl (de rfl rfl) <| zm rfl <| bb (l := [10, 11, 12, 13, 14, 15, 16, 17, 18]) 23 (B ((!decide ((a1.length : Int) = (a3.length : Int))) || (decide ((a3.length : Int) = 0)))) (fun K => ?_) ?_
 ·rcases ak (!decide ((a1.length : Int) = (a3.length : Int))) with h8 | h8
  ·refine zF h8 rfl <| zF h8 rfl <| zF h8 rfl <| zS rfl (aG (av := .v _) rfl h8 rfl) ?_;exact K _ 3 _ (aA (fF h8)) rfl rfl
  ·refine zU h8 rfl (aj (av := slE _ _ _) rfl) <| zU h8 rfl (aR bH rfl) <| zU h8 rfl (cw rfl rfl) <| zS rfl (aF (av := .v _) rfl h8 rfl) ?_;exact K _ 3 _ (aA (fG h8)) rfl rfl
 refine zm rfl <| bb (l := [15, 16, 17, 18]) 28 (B (((!decide ((a1.length : Int) = (a3.length : Int))) || (decide ((a3.length : Int) = 0))) || (decide (8 < (a3.length : Int))))) (fun K => ?_) ?_
 ·rcases ak ((!decide ((a1.length : Int) = (a3.length : Int))) || (decide ((a3.length : Int) = 0))) with h9 | h9
  ·refine zF h9 rfl <| zF h9 rfl <| zF h9 rfl <| zS rfl (aG (av := .v _) rfl h9 rfl) ?_;exact K _ 3 _ (aA (fF h9)) rfl rfl
  ·refine zU h9 rfl (aj (av := slE _ _ _) rfl) <| zU h9 rfl (aR bH rfl) <| zU h9 rfl (cP rfl rfl) <| zS rfl (aF (av := .v _) rfl h9 rfl) ?_;exact K _ 3 _ (aA (fG h9)) rfl rfl
 refine zm rfl <| bb (l := []) 32 (B ((((!decide ((a1.length : Int) = (a3.length : Int))) || (decide ((a3.length : Int) = 0))) || (decide (8 < (a3.length : Int)))) || x11)) (fun K => ?_) ?_
 ·rcases ak (((!decide ((a1.length : Int) = (a3.length : Int))) || (decide ((a3.length : Int) = 0))) || (decide (8 < (a3.length : Int)))) with h10 | h10
  ·refine zF h10 rfl <| zF h10 rfl <| zS rfl (aG (av := .v _) rfl h10 rfl) ?_;exact K _ 2 _ (aA (fF h10)) rfl rfl
  ·refine zU h10 rfl (aj (av := slE _ _ _) rfl) <| zT h10 rfl (aD rfl uM rfl (nH F a1 q2 x11 (e12 (nf h10))) ?_);refine zS rfl (aF (av := .v _) rfl h10 rfl) ?_;exact K _ 2 _ (aA (fG h10)) rfl rfl
 refine ag <| az rfl (fun c13 => ?_) (fun c13 => ?_)
 ·replace H := aZ c13 H;refine af <| aa ?_;show AR _ _ _ _ _ [0, 1, 2] _;refine za rfl <| za rfl <| za rfl <| ag <| aL ?_;obtain ⟨rfl, rfl, rfl⟩ := qH H;exact And.intro rfl (Exists.intro _ (Exists.intro _ ⟨dq rfl (.nil _) (.refl _) (.refl _), aJ [] rfl, rfl, rfl⟩))
 ·replace H := ba c13 H;refine aC <| af <| aa ?_;show AR _ _ _ _ _ [0] _;refine za rfl <| ag ?_
  refine dY 7 1 32 rfl fun t14 => ?_
  show AW _ _ _ _ _ ⟨(7, slE (Enc.sl Enc.byte) [] (some t14)) :: _, _, _⟩;refine bj (X := (List (List UInt8)) × Nat) (fun (y31, t32) => ⟨[(0, slE Enc.str a1 q2), (7, slE (Enc.sl Enc.byte) y31 (some t32))], [], [.tok t32 32]⟩) (fun (y31, t32) => im F a1 y31 = some (r5, r6, r7)) ?_ ?_
  ·refine af <| aa ?_;show AR _ _ _ _ _ [0, 1, 2] _;refine zS rfl (aj (av := slE _ _ _) rfl) <| zS rfl (aR bH rfl) <| zm rfl <| ag <| aN <| bZ (X := Nat × (List (List UInt8)) × Nat × Int) (fun (n19, y15, t16, y17) => ⟨[(0, slE Enc.str a1 q2), (7, slE (Enc.sl Enc.byte) y15 (some t16)), (33, slE (Enc.sl Enc.byte) a3 q4), (34, i64 (a3.length : Int)), (35, i64 y17)], [], [.tok t16 32]⟩) (fun (n19, y15, t16, y17) => kl F a1 a3 n19 (y15, y17) = some (r5, r6, r7)) (fun (n19, y15, t16, y17) => n19) (F, [], t14, 0) H (aO [0] (.cons (.refl _) (.cons (.refl _) (.cons (.refl _) (.cons (.refl _) (.cons (.refl _) (.nil _)))))) rfl) ?_;rintro ⟨n19, y15, t16, y17⟩ H;obtain ⟨n19, rfl, H⟩ := cC H;replace H : kn F a1 a3 (kl F a1 a3 n19) y15 y17 = some (r5, r6, r7) := H
   unfold kn at H
   refine af <| aa ?_;show AR _ _ _ _ _ [0] _;refine zS rfl (bz rfl rfl) <| ag <| af <| az rfl (fun c20 => ?_) (fun c20 => ?_)
   ·replace H := aZ c20 H;refine aC <| af <| aN <| af ?_;obtain ⟨g21, H⟩ := ay H;obtain ⟨x22, e23, H⟩ := bf H;refine aa ?_;show AR _ _ _ _ _ [0, 1, 2] _;refine zS rfl (ca (E := (Enc.sl Enc.byte)) bH (by kernel_rfl) rfl rfl g21 e23) <| zS rfl (aH ac rfl rfl) <| zS rfl (aB (av := slE _ _ _) rfl) <| ag ?_;obtain ⟨x24, e25, H⟩ := bN H;obtain ⟨g27, H⟩ := ay H;obtain ⟨x28, e29, H⟩ := bf H;refine aa ?_;show AR _ _ _ _ _ [0, 1, 2, 3, 4, 5] _;refine zS rfl (aj (av := slE _ _ _) rfl) <| zS rfl (aj (av := slE _ _ _) rfl) <| aq rfl rfl (aD rfl uJ rfl (sp F x22 none x24 e25) ?_);refine zR rfl (bK (E := (Enc.sl Enc.byte)) (bytes := 24) (xs := [.tmp 41]) (l := ([x24] : List (List UInt8))) bH (by kernel_rfl) rfl rfl (by decide) rfl rfl) <| zX rfl (cz (E := (Enc.sl Enc.byte)) (bytes := 24) 0 bH bH rfl (by kernel_rfl) rfl rfl rfl rfl g27 e29) ?_;rintro _ _ ⟨t26, rfl, rfl⟩;refine zS rfl (aB (av := slE _ _ _) rfl) <| ag ?_;obtain ⟨g30, H⟩ := ay H;refine aa ?_;show AR _ _ _ _ _ [0, 1] _;refine zS rfl (bo rfl rfl g30) <| zm rfl <| ag ?_;exact Exists.intro (n19, x28, t26, y17 + 1) ⟨H, Nat.lt_succ_self _, aO [0] (.cons (.refl _) (.cons (.refl _) (.cons (.refl _) (.cons (.refl _) (.cons (.refl _) (.nil _)))))) rfl⟩
   ·replace H := ba c20 H;refine bR ?_;exact Exists.intro (y15, t16) ⟨H, aO [0] (.cons (.refl _) (.cons (.refl _) (.nil _))) rfl⟩
  rintro ⟨y31, t32⟩ H;replace H : im F a1 y31 = some (r5, r6, r7) := H
  unfold im at H
  refine af ?_;obtain ⟨x34, e35, H⟩ := bN H;refine aa ?_;show AR _ _ _ _ _ [0, 1, 2, 3, 4] _;refine zS rfl (aj (av := slE _ _ _) rfl) <| aq rfl rfl (aD rfl uI rfl (oU F y31 (some t32) x34 e35) ?_);refine zS rfl (dt (zs := [.slice none 0 0, .string ⟨#[]⟩]) (ps := [(0, 1), (1, 1)]) (cs := [ah, S x34]) (by kernel_rfl) rfl rfl) <| zX rfl (pb rfl (.inr ⟨_, rfl⟩)) ?_;rintro _ _ ⟨o36, rfl, rfl⟩;refine zS rfl (aB (av := .pt _ _) rfl) <| ag ?_
  refine eb 0 0 1 5 rfl rfl fun t37 => ?_
  show AW _ _ _ _ _ ⟨_, _, [.tok t37 5, .obj o36 [slE Enc.byte [] (some t37), S x34], .tok t32 32]⟩;refine af <| aa ?_;show AR _ _ _ _ _ [0, 1, 2] _;refine zS rfl (aj (av := .pt _ _) rfl) <| zS rfl (iq rfl rfl) <| zS rfl (aB (av := .fn _ _ _) rfl) <| ag <| bj (X := (List UInt8) × Nat) (fun (y54, t55) => ⟨[(10, .pt o36 0)], [], [.obj o36 [slE Enc.byte y54 (some t55), S x34], .tok t55 5]⟩) (fun (y54, t55) => ip x34 y54 = some (r5, r6, r7)) ?_ ?_
  ·refine af <| aa ?_;show AR _ _ _ _ _ [0, 1, 2] _;refine zS rfl (aj (av := slE _ _ _) rfl) <| zS rfl (aR bH rfl) <| zm rfl <| ag <| aN <| bZ (X := Nat × Int × (List UInt8) × Nat) (fun (n42, y38, y39, t40) => ⟨[(0, slE Enc.str a1 q2), (10, .pt o36 0), (11, .fn (.func 77) [.pt o36 0] []), (51, slE (Enc.sl Enc.byte) y31 (some t32)), (52, i64 (y31.length : Int)), (53, i64 y38)], [], [.obj o36 [slE Enc.byte y39 (some t40), S x34], .tok t32 32, .tok t40 5]⟩) (fun (n42, y38, y39, t40) => km F a1 y31 x34 n42 (y38, y39) = some (r5, r6, r7)) (fun (n42, y38, y39, t40) => n42) (F, 0, [], t37) H (aO [1, 1, 0] (.cons (.refl _) (.cons (.refl _) (.cons (.refl _) (.cons (.refl _) (.cons (.refl _) (.cons (.refl _) (.nil _))))))) rfl) ?_;rintro ⟨n42, y38, y39, t40⟩ H;obtain ⟨n42, rfl, H⟩ := cC H;replace H : ko F a1 y31 x34 (km F a1 y31 x34 n42) y38 y39 = some (r5, r6, r7) := H
   unfold ko at H
   refine af <| aa ?_;show AR _ _ _ _ _ [0] _;refine zS rfl (bz rfl rfl) <| ag <| af <| az rfl (fun c43 => ?_) (fun c43 => ?_)
   ·replace H := aZ c43 H;refine aC <| af <| aN <| af ?_;obtain ⟨g44, H⟩ := ay H;obtain ⟨x45, e46, H⟩ := bf H;refine aa ?_;show AR _ _ _ _ _ [0, 1, 2, 3, 4] _;refine zm rfl <| zS rfl (ca (E := (Enc.sl Enc.byte)) bH (by kernel_rfl) rfl rfl g44 e46) <| zS rfl (aH ac rfl rfl) <| za rfl <| zS rfl (aB (av := slE _ _ _) rfl) <| ag ?_;obtain ⟨g47, H⟩ := ay H;obtain ⟨x48, e49, H⟩ := bf H;obtain ⟨x50, e51, H⟩ := bN H;refine aa ?_;show AR _ _ _ _ _ [0, 1, 2, 3, 4, 5, 6] _;refine zS rfl (aj (av := .fn _ _ _) rfl) <| zS rfl (aj (av := slE _ _ _) rfl) <| zm rfl <| zS rfl (ca (E := Enc.str) ao (by kernel_rfl) rfl rfl g47 e49) <| zS rfl (aH ab rfl rfl) <| zS rfl (aj (av := slE _ _ _) rfl) <| aq rfl rfl (AO.callFAt [0, 1] rfl (.inl rfl) uH rfl (ug F o36 y39 t40 x34 x48 x45 none x50 e51) rfl (fun c A' h => by cases h.1) ?_)
    rintro av A' ⟨h, t52, rfl⟩; cases h
    refine ag ?_;obtain ⟨g53, H⟩ := ay H;refine aa ?_;show AR _ _ _ _ _ [0, 1] _;refine zS rfl (bo rfl rfl g53) <| zm rfl <| ag ?_;exact Exists.intro (n42, y38 + 1, x50, t52) ⟨H, Nat.lt_succ_self _, aO [0, 1, 0] (.cons (.refl _) (.cons (.refl _) (.cons (.refl _) (.cons (.refl _) (.cons (.refl _) (.cons (.refl _) (.nil _))))))) rfl⟩
   ·replace H := ba c43 H;refine bR ?_;exact Exists.intro (y39, t40) ⟨H, aO [0, 1] (.cons (.refl _) (.nil _)) rfl⟩
  rintro ⟨y54, t55⟩ H;replace H : ip x34 y54 = some (r5, r6, r7) := H
  unfold ip at H
  refine af ?_;obtain ⟨g57, H⟩ := ay H;obtain ⟨x58, e59, H⟩ := bf H;obtain ⟨g60, H⟩ := ay H;obtain ⟨x61, e62, H⟩ := bf H;obtain ⟨g63, H⟩ := ay H;obtain ⟨x64, e65, H⟩ := bf H;obtain ⟨g67, H⟩ := ay H;obtain ⟨x68, e69, H⟩ := bf H;refine bx (by kernel_rfl) ?_;show AI _ _ _ _ _ 19 (Array.replicate 19 false) _;refine zk 0 rfl (aj (av := .pt _ _) rfl) ?_;show AI _ _ _ _ _ _ #[true, false, false, false, false, false, false, false, false, false, false, false, false, false, false, false, false, false, false] _;refine zk 1 rfl (ar rfl) ?_;show AI _ _ _ _ _ _ #[true, true, false, false, false, false, false, false, false, false, false, false, false, false, false, false, false, false, false] _;refine zk 2 rfl (al (n := 0) (by kernel_rfl) rfl) ?_;show AI _ _ _ _ _ _ #[true, true, true, false, false, false, false, false, false, false, false, false, false, false, false, false, false, false, false] _;refine zk 4 rfl (aj (av := .pt _ _) rfl) ?_;show AI _ _ _ _ _ _ #[true, true, true, false, true, false, false, false, false, false, false, false, false, false, false, false, false, false, false] _;refine zk 5 rfl (ar rfl) ?_;show AI _ _ _ _ _ _ #[true, true, true, false, true, true, false, false, false, false, false, false, false, false, false, false, false, false, false] _;refine zk 6 rfl (al (n := 1) (by kernel_rfl) rfl) ?_;show AI _ _ _ _ _ _ #[true, true, true, false, true, true, true, false, false, false, false, false, false, false, false, false, false, false, false] _
  refine zk 12 rfl (aj (av := .pt _ _) rfl) ?_;show AI _ _ _ _ _ _ #[true, true, true, false, true, true, true, false, false, false, false, false, true, false, false, false, false, false, false] _;refine zk 13 rfl (ar rfl) ?_;show AI _ _ _ _ _ _ #[true, true, true, false, true, true, true, false, false, false, false, false, true, true, false, false, false, false, false] _;refine zk 14 rfl (al (n := 1) (by kernel_rfl) rfl) ?_;show AI _ _ _ _ _ _ #[true, true, true, false, true, true, true, false, false, false, false, false, true, true, true, false, false, false, false] _;refine tZ (i := 3) (j := 7) (l := 15) (by kernel_rfl) rfl rfl rfl rfl rfl rfl ?_ ?_ ?_
  ·refine aW rfl (am (i := 0) ac rfl rfl rfl rfl) ?_;show AI _ _ _ _ _ _ #[true, true, true, true, true, true, true, false, false, false, false, false, true, true, true, false, false, false, false] _;refine dx (i := 7) (j := 15) (by kernel_rfl) rfl rfl rfl rfl ?_ ?_
   ·refine aW rfl (am (i := 0) ab rfl rfl rfl rfl) ?_;show AI _ _ _ _ _ _ #[true, true, true, true, true, true, true, true, false, false, false, false, true, true, true, false, false, false, false] _;refine zk 8 rfl (cf rfl rfl g57 e59) ?_;show AI _ _ _ _ _ _ #[true, true, true, true, true, true, true, true, true, false, false, false, true, true, true, false, false, false, false] _;refine zk 9 rfl (cf rfl rfl g60 e62) ?_;show AI _ _ _ _ _ _ #[true, true, true, true, true, true, true, true, true, true, false, false, true, true, true, false, false, false, false] _;refine zk 10 rfl (cf rfl rfl g63 e65) ?_;show AI _ _ _ _ _ _ #[true, true, true, true, true, true, true, true, true, true, true, false, true, true, true, false, false, false, false] _;refine dx (i := 11) (j := 15) (by kernel_rfl) rfl rfl rfl rfl ?_ ?_
    ·refine cb rfl (bk (bytes := 1) 1 ac ab rfl (by kernel_rfl) rfl rfl rfl rfl g67 e69) ?_;rintro _ _ ⟨t66, rfl, rfl⟩;show AI _ _ _ _ _ _ #[true, true, true, true, true, true, true, true, true, true, true, true, true, true, true, false, false, false, false] _;refine zk 16 rfl (aB (av := slE _ _ _) rfl) ?_;show AI _ _ _ _ _ _ #[true, true, true, true, true, true, true, true, true, true, true, true, true, true, true, false, true, false, false] _;refine aX (i := 15) (by kernel_rfl) rfl rfl <| aW rfl (am (i := 0) ab rfl rfl rfl rfl) ?_;show AI _ _ _ _ _ _ #[true, true, true, true, true, true, true, true, true, true, true, true, true, true, true, true, true, false, false] _;refine zk 17 rfl (asg rfl) ?_;show AI _ _ _ _ _ _ #[true, true, true, true, true, true, true, true, true, true, true, true, true, true, true, true, true, true, false] _;refine zk 18 rfl (asg rfl) ?_;show AI _ _ _ _ _ _ #[true, true, true, true, true, true, true, true, true, true, true, true, true, true, true, true, true, true, true] _;refine bB rfl <| aL ?_;obtain ⟨rfl, rfl, rfl⟩ := qH H;exact And.intro rfl (Exists.intro _ (Exists.intro _ ⟨dq rfl (.tok _ _ _) (.refl _) (.refl _), aJ [] rfl, rfl, rfl⟩))
    ·refine aW rfl (am (i := 0) ab rfl rfl rfl rfl) ?_;show AI _ _ _ _ _ _ #[true, true, true, true, true, true, true, true, true, true, true, false, true, true, true, true, false, false, false] _;refine aX (i := 11) (by kernel_rfl) rfl rfl <| cb rfl (bk (bytes := 1) 1 ac ab rfl (by kernel_rfl) rfl rfl rfl rfl g67 e69) ?_;rintro _ _ ⟨t70, rfl, rfl⟩;show AI _ _ _ _ _ _ #[true, true, true, true, true, true, true, true, true, true, true, true, true, true, true, true, false, false, false] _;refine zk 16 rfl (aB (av := slE _ _ _) rfl) ?_;show AI _ _ _ _ _ _ #[true, true, true, true, true, true, true, true, true, true, true, true, true, true, true, true, true, false, false] _;refine zk 17 rfl (asg rfl) ?_;show AI _ _ _ _ _ _ #[true, true, true, true, true, true, true, true, true, true, true, true, true, true, true, true, true, true, false] _;refine zk 18 rfl (asg rfl) ?_;show AI _ _ _ _ _ _ #[true, true, true, true, true, true, true, true, true, true, true, true, true, true, true, true, true, true, true] _;refine bB rfl <| aL ?_;obtain ⟨rfl, rfl, rfl⟩ := qH H;exact And.intro rfl (Exists.intro _ (Exists.intro _ ⟨dq rfl (.tok _ _ _) (.refl _) (.refl _), aJ [] rfl, rfl, rfl⟩))
   ·refine aW rfl (am (i := 0) ab rfl rfl rfl rfl) ?_;show AI _ _ _ _ _ _ #[true, true, true, true, true, true, true, false, false, false, false, false, true, true, true, true, false, false, false] _;refine aX (i := 7) (by kernel_rfl) rfl rfl <| aW rfl (am (i := 0) ab rfl rfl rfl rfl) ?_;show AI _ _ _ _ _ _ #[true, true, true, true, true, true, true, true, false, false, false, false, true, true, true, true, false, false, false] _;refine zk 8 rfl (cf rfl rfl g57 e59) ?_;show AI _ _ _ _ _ _ #[true, true, true, true, true, true, true, true, true, false, false, false, true, true, true, true, false, false, false] _;refine zk 9 rfl (cf rfl rfl g60 e62) ?_;show AI _ _ _ _ _ _ #[true, true, true, true, true, true, true, true, true, true, false, false, true, true, true, true, false, false, false] _;refine zk 10 rfl (cf rfl rfl g63 e65) ?_;show AI _ _ _ _ _ _ #[true, true, true, true, true, true, true, true, true, true, true, false, true, true, true, true, false, false, false] _;refine aX (i := 11) (by kernel_rfl) rfl rfl <| cb rfl (bk (bytes := 1) 1 ac ab rfl (by kernel_rfl) rfl rfl rfl rfl g67 e69) ?_;rintro _ _ ⟨t71, rfl, rfl⟩;show AI _ _ _ _ _ _ #[true, true, true, true, true, true, true, true, true, true, true, true, true, true, true, true, false, false, false] _;refine zk 16 rfl (aB (av := slE _ _ _) rfl) ?_;show AI _ _ _ _ _ _ #[true, true, true, true, true, true, true, true, true, true, true, true, true, true, true, true, true, false, false] _
    refine zk 17 rfl (asg rfl) ?_;show AI _ _ _ _ _ _ #[true, true, true, true, true, true, true, true, true, true, true, true, true, true, true, true, true, true, false] _;refine zk 18 rfl (asg rfl) ?_;show AI _ _ _ _ _ _ #[true, true, true, true, true, true, true, true, true, true, true, true, true, true, true, true, true, true, true] _;refine bB rfl <| aL ?_;obtain ⟨rfl, rfl, rfl⟩ := qH H;exact And.intro rfl (Exists.intro _ (Exists.intro _ ⟨dq rfl (.tok _ _ _) (.refl _) (.refl _), aJ [] rfl, rfl, rfl⟩))
  ·refine aW rfl (am (i := 0) ab rfl rfl rfl rfl) ?_;show AI _ _ _ _ _ _ #[true, true, true, false, true, true, true, true, false, false, false, false, true, true, true, false, false, false, false] _;refine zk 8 rfl (cf rfl rfl g57 e59) ?_;show AI _ _ _ _ _ _ #[true, true, true, false, true, true, true, true, true, false, false, false, true, true, true, false, false, false, false] _;refine zk 9 rfl (cf rfl rfl g60 e62) ?_;show AI _ _ _ _ _ _ #[true, true, true, false, true, true, true, true, true, true, false, false, true, true, true, false, false, false, false] _;refine zk 10 rfl (cf rfl rfl g63 e65) ?_;show AI _ _ _ _ _ _ #[true, true, true, false, true, true, true, true, true, true, true, false, true, true, true, false, false, false, false] _;refine dx (i := 3) (j := 15) (by kernel_rfl) rfl rfl rfl rfl ?_ ?_
   ·refine aW rfl (am (i := 0) ac rfl rfl rfl rfl) ?_;show AI _ _ _ _ _ _ #[true, true, true, true, true, true, true, true, true, true, true, false, true, true, true, false, false, false, false] _;refine dx (i := 11) (j := 15) (by kernel_rfl) rfl rfl rfl rfl ?_ ?_
    ·refine cb rfl (bk (bytes := 1) 1 ac ab rfl (by kernel_rfl) rfl rfl rfl rfl g67 e69) ?_;rintro _ _ ⟨t72, rfl, rfl⟩;show AI _ _ _ _ _ _ #[true, true, true, true, true, true, true, true, true, true, true, true, true, true, true, false, false, false, false] _;refine zk 16 rfl (aB (av := slE _ _ _) rfl) ?_;show AI _ _ _ _ _ _ #[true, true, true, true, true, true, true, true, true, true, true, true, true, true, true, false, true, false, false] _;refine aX (i := 15) (by kernel_rfl) rfl rfl <| aW rfl (am (i := 0) ab rfl rfl rfl rfl) ?_;show AI _ _ _ _ _ _ #[true, true, true, true, true, true, true, true, true, true, true, true, true, true, true, true, true, false, false] _;refine zk 17 rfl (asg rfl) ?_;show AI _ _ _ _ _ _ #[true, true, true, true, true, true, true, true, true, true, true, true, true, true, true, true, true, true, false] _;refine zk 18 rfl (asg rfl) ?_;show AI _ _ _ _ _ _ #[true, true, true, true, true, true, true, true, true, true, true, true, true, true, true, true, true, true, true] _;refine bB rfl <| aL ?_;obtain ⟨rfl, rfl, rfl⟩ := qH H;exact And.intro rfl (Exists.intro _ (Exists.intro _ ⟨dq rfl (.tok _ _ _) (.refl _) (.refl _), aJ [] rfl, rfl, rfl⟩))
    ·refine aW rfl (am (i := 0) ab rfl rfl rfl rfl) ?_;show AI _ _ _ _ _ _ #[true, true, true, true, true, true, true, true, true, true, true, false, true, true, true, true, false, false, false] _;refine aX (i := 11) (by kernel_rfl) rfl rfl <| cb rfl (bk (bytes := 1) 1 ac ab rfl (by kernel_rfl) rfl rfl rfl rfl g67 e69) ?_;rintro _ _ ⟨t73, rfl, rfl⟩;show AI _ _ _ _ _ _ #[true, true, true, true, true, true, true, true, true, true, true, true, true, true, true, true, false, false, false] _;refine zk 16 rfl (aB (av := slE _ _ _) rfl) ?_;show AI _ _ _ _ _ _ #[true, true, true, true, true, true, true, true, true, true, true, true, true, true, true, true, true, false, false] _;refine zk 17 rfl (asg rfl) ?_;show AI _ _ _ _ _ _ #[true, true, true, true, true, true, true, true, true, true, true, true, true, true, true, true, true, true, false] _;refine zk 18 rfl (asg rfl) ?_;show AI _ _ _ _ _ _ #[true, true, true, true, true, true, true, true, true, true, true, true, true, true, true, true, true, true, true] _;refine bB rfl <| aL ?_;obtain ⟨rfl, rfl, rfl⟩ := qH H;exact And.intro rfl (Exists.intro _ (Exists.intro _ ⟨dq rfl (.tok _ _ _) (.refl _) (.refl _), aJ [] rfl, rfl, rfl⟩))
   ·refine aW rfl (am (i := 0) ab rfl rfl rfl rfl) ?_;show AI _ _ _ _ _ _ #[true, true, true, false, true, true, true, true, true, true, true, false, true, true, true, true, false, false, false] _;refine aX (i := 3) (by kernel_rfl) rfl rfl <| aW rfl (am (i := 0) ac rfl rfl rfl rfl) ?_;show AI _ _ _ _ _ _ #[true, true, true, true, true, true, true, true, true, true, true, false, true, true, true, true, false, false, false] _;refine aX (i := 11) (by kernel_rfl) rfl rfl <| cb rfl (bk (bytes := 1) 1 ac ab rfl (by kernel_rfl) rfl rfl rfl rfl g67 e69) ?_;rintro _ _ ⟨t74, rfl, rfl⟩;show AI _ _ _ _ _ _ #[true, true, true, true, true, true, true, true, true, true, true, true, true, true, true, true, false, false, false] _;refine zk 16 rfl (aB (av := slE _ _ _) rfl) ?_;show AI _ _ _ _ _ _ #[true, true, true, true, true, true, true, true, true, true, true, true, true, true, true, true, true, false, false] _;refine zk 17 rfl (asg rfl) ?_;show AI _ _ _ _ _ _ #[true, true, true, true, true, true, true, true, true, true, true, true, true, true, true, true, true, true, false] _;refine zk 18 rfl (asg rfl) ?_;show AI _ _ _ _ _ _ #[true, true, true, true, true, true, true, true, true, true, true, true, true, true, true, true, true, true, true] _;refine bB rfl <| aL ?_;obtain ⟨rfl, rfl, rfl⟩ := qH H;exact And.intro rfl (Exists.intro _ (Exists.intro _ ⟨dq rfl (.tok _ _ _) (.refl _) (.refl _), aJ [] rfl, rfl, rfl⟩))
  ·refine aW rfl (am (i := 0) ab rfl rfl rfl rfl) ?_;show AI _ _ _ _ _ _ #[true, true, true, false, true, true, true, false, false, false, false, false, true, true, true, true, false, false, false] _;refine dx (i := 3) (j := 7) (by kernel_rfl) rfl rfl rfl rfl ?_ ?_
   ·refine aW rfl (am (i := 0) ac rfl rfl rfl rfl) ?_;show AI _ _ _ _ _ _ #[true, true, true, true, true, true, true, false, false, false, false, false, true, true, true, true, false, false, false] _;refine aX (i := 7) (by kernel_rfl) rfl rfl <| aW rfl (am (i := 0) ab rfl rfl rfl rfl) ?_;show AI _ _ _ _ _ _ #[true, true, true, true, true, true, true, true, false, false, false, false, true, true, true, true, false, false, false] _;refine zk 8 rfl (cf rfl rfl g57 e59) ?_;show AI _ _ _ _ _ _ #[true, true, true, true, true, true, true, true, true, false, false, false, true, true, true, true, false, false, false] _;refine zk 9 rfl (cf rfl rfl g60 e62) ?_;show AI _ _ _ _ _ _ #[true, true, true, true, true, true, true, true, true, true, false, false, true, true, true, true, false, false, false] _;refine zk 10 rfl (cf rfl rfl g63 e65) ?_;show AI _ _ _ _ _ _ #[true, true, true, true, true, true, true, true, true, true, true, false, true, true, true, true, false, false, false] _;refine aX (i := 11) (by kernel_rfl) rfl rfl <| cb rfl (bk (bytes := 1) 1 ac ab rfl (by kernel_rfl) rfl rfl rfl rfl g67 e69) ?_;rintro _ _ ⟨t75, rfl, rfl⟩;show AI _ _ _ _ _ _ #[true, true, true, true, true, true, true, true, true, true, true, true, true, true, true, true, false, false, false] _;refine zk 16 rfl (aB (av := slE _ _ _) rfl) ?_;show AI _ _ _ _ _ _ #[true, true, true, true, true, true, true, true, true, true, true, true, true, true, true, true, true, false, false] _
    refine zk 17 rfl (asg rfl) ?_;show AI _ _ _ _ _ _ #[true, true, true, true, true, true, true, true, true, true, true, true, true, true, true, true, true, true, false] _;refine zk 18 rfl (asg rfl) ?_;show AI _ _ _ _ _ _ #[true, true, true, true, true, true, true, true, true, true, true, true, true, true, true, true, true, true, true] _;refine bB rfl <| aL ?_;obtain ⟨rfl, rfl, rfl⟩ := qH H;exact And.intro rfl (Exists.intro _ (Exists.intro _ ⟨dq rfl (.tok _ _ _) (.refl _) (.refl _), aJ [] rfl, rfl, rfl⟩))
   ·refine aW rfl (am (i := 0) ab rfl rfl rfl rfl) ?_;show AI _ _ _ _ _ _ #[true, true, true, false, true, true, true, true, false, false, false, false, true, true, true, true, false, false, false] _;refine zk 8 rfl (cf rfl rfl g57 e59) ?_;show AI _ _ _ _ _ _ #[true, true, true, false, true, true, true, true, true, false, false, false, true, true, true, true, false, false, false] _;refine zk 9 rfl (cf rfl rfl g60 e62) ?_;show AI _ _ _ _ _ _ #[true, true, true, false, true, true, true, true, true, true, false, false, true, true, true, true, false, false, false] _;refine zk 10 rfl (cf rfl rfl g63 e65) ?_;show AI _ _ _ _ _ _ #[true, true, true, false, true, true, true, true, true, true, true, false, true, true, true, true, false, false, false] _;refine aX (i := 3) (by kernel_rfl) rfl rfl <| aW rfl (am (i := 0) ac rfl rfl rfl rfl) ?_;show AI _ _ _ _ _ _ #[true, true, true, true, true, true, true, true, true, true, true, false, true, true, true, true, false, false, false] _;refine aX (i := 11) (by kernel_rfl) rfl rfl <| cb rfl (bk (bytes := 1) 1 ac ab rfl (by kernel_rfl) rfl rfl rfl rfl g67 e69) ?_;rintro _ _ ⟨t76, rfl, rfl⟩;show AI _ _ _ _ _ _ #[true, true, true, true, true, true, true, true, true, true, true, true, true, true, true, true, false, false, false] _;refine zk 16 rfl (aB (av := slE _ _ _) rfl) ?_;show AI _ _ _ _ _ _ #[true, true, true, true, true, true, true, true, true, true, true, true, true, true, true, true, true, false, false] _
    refine zk 17 rfl (asg rfl) ?_;show AI _ _ _ _ _ _ #[true, true, true, true, true, true, true, true, true, true, true, true, true, true, true, true, true, true, false] _;refine zk 18 rfl (asg rfl) ?_;show AI _ _ _ _ _ _ #[true, true, true, true, true, true, true, true, true, true, true, true, true, true, true, true, true, true, true] _;refine bB rfl <| aL ?_;obtain ⟨rfl, rfl, rfl⟩ := qH H;exact And.intro rfl (Exists.intro _ (Exists.intro _ ⟨dq rfl (.tok _ _ _) (.refl _) (.refl _), aJ [] rfl, rfl, rfl⟩))
end Go.Proofs.YtjegcifofddgbaaGreatDoor
namespace Go.Pv
def sc : List UInt8 := [116, 101, 120, 116, 47, 112, 108, 97, 105, 110, 59, 32, 99, 104, 97, 114, 115, 101, 116, 61, 117, 116, 102, 45, 56]
def sb : List UInt8 := [116, 101, 120, 116, 47, 104, 116, 109, 108, 59, 32, 99, 104, 97, 114, 115, 101, 116, 61, 117, 116, 102, 45, 56]
def digb_k3 : List UInt8 := [109, 117, 108, 116, 105, 112, 97, 114, 116, 47, 97, 108, 116, 101, 114, 110, 97, 116, 105, 118, 101, 59, 32, 98, 111, 117, 110, 100, 97, 114, 121, 61, 34]
def lB (F : Nat) (a1 : Int) (a2 : Int) : Option ((List UInt8)) :=
grd (okI a1) <|
lt (Go.Lib.itoa a1) fun x5 =>
grd (bu (([68, 105, 103, 101, 115, 116, 32] : List UInt8).length + x5.length)) <|
lt (([68, 105, 103, 101, 115, 116, 32] : List UInt8) ++ x5) fun x8 =>
grd (bu (x8.length + ([58, 32] : List UInt8).length)) <|
lt (x8 ++ ([58, 32] : List UInt8)) fun x11 =>
grd (okI a2) <|
lt (Go.Lib.itoa a2) fun x14 =>
grd (bu (x11.length + x14.length)) <|
lt (x11 ++ x14) fun x17 =>
bif decide (a2 = 1) then
  grd (bu (x17.length + ([32, 101, 110, 116, 114, 121] : List UInt8).length)) <|
  lt (x17 ++ ([32, 101, 110, 116, 114, 121] : List UInt8)) fun x21 =>
  some x21
else
  grd (bu (x17.length + ([32, 101, 110, 116, 114, 105, 101, 115] : List UInt8).length)) <|
  lt (x17 ++ ([32, 101, 110, 116, 114, 105, 101, 115] : List UInt8)) fun x24 =>
  some x24
def oo (F : Nat) (a1 : List UInt8) (a2 : Int) (a3 : Int) (a4 : Int) (a5 : Int) (a6 : List (Int × Int × (List UInt8) × (List UInt8) × (List UInt8) × (List UInt8) × Int)) : Option ((List UInt8) × Int) :=
gm (qh F a2 a3) fun x10 x11 =>
bif !decide (x11 = 0) then
  some ([], x11)
else
  bnd (lD F a1) fun x14 =>
  bif !x14 then
    some ([], 1)
  else
    bif decide ((a6.length : Int) = 0) then
      some ([], 3)
    else
      gm (mz F a4 a5) fun x18 x19 =>
      bif !decide (x19 = 0) then
        some ([], x19)
      else
        bnd (nA F a6) fun x22 =>
        grd (bu x22.length) <|
        bnd (jk F a6) fun x26 =>
        grd (bu x26.length) <|
        bnd3 (nT F ([sc, sb] : List (List UInt8)) ([x22, x26] : List (List UInt8))) fun x30 x31 x32 =>
        bif !decide (x32 = 0) then
          some ([], x32)
        else
          bnd (lB F a3 (a6.length : Int)) fun x35 =>
          grd (bu (digb_k3.length + x31.length)) <|
          lt (digb_k3 ++ x31) fun x38 =>
          grd (bu (x38.length + ([34] : List UInt8).length)) <|
          lt (x38 ++ ([34] : List UInt8)) fun x41 =>
          gm (kd F ([(([70, 114, 111, 109] : List UInt8), ([100, 105, 103, 101, 115, 116, 64, 109, 97, 105, 108, 99, 111, 97, 99, 104] : List UInt8)), (([84, 111] : List UInt8), a1), (([83, 117, 98, 106, 101, 99, 116] : List UInt8), x35), (([68, 97, 116, 101] : List UInt8), x18), (([77, 101, 115, 115, 97, 103, 101, 45, 73, 68] : List UInt8), x10), (([77, 73, 77, 69, 45, 86, 101, 114, 115, 105, 111, 110] : List UInt8), ([49, 46, 48] : List UInt8)), (([67, 111, 110, 116, 101, 110, 116, 45, 84, 121, 112, 101] : List UInt8), x41)] : List ((List UInt8) × List UInt8))) fun x43 x44 =>
          grd (bu (x43.length + x30.length)) <|
          lt (x43 ++ x30) fun x50 =>
          some (x50, x44)
end Go.Pv
namespace Go.Proofs.YtjegcifofddgbaaGreatDoor
open Go.RowKit Go.Av Go.Pv
theorem wM : ∀ (args : Array Value) (w : World), (callFunc 11 args).run Tryz.prog w = .ok (.enter 11 args) w := fun _ _ => by kernel_rfl
theorem wI : ∀ (args : Array Value) (w : World), (callFunc 17 args).run Tryz.prog w = .ok (.enter 17 args) w := fun _ _ => by kernel_rfl
theorem wE : ∀ (args : Array Value) (w : World), (callFunc 21 args).run Tryz.prog w = .ok (.enter 21 args) w := fun _ _ => by kernel_rfl
theorem ws : ∀ (args : Array Value) (w : World), (callFunc 27 args).run Tryz.prog w = .ok (.enter 27 args) w := fun _ _ => by kernel_rfl
theorem wr : ∀ (args : Array Value) (w : World), (callFunc 28 args).run Tryz.prog w = .ok (.enter 28 args) w := fun _ _ => by kernel_rfl
theorem wq : ∀ (args : Array Value) (w : World), (callFunc 29 args).run Tryz.prog w = .ok (.enter 29 args) w := fun _ _ => by kernel_rfl
theorem wp : ∀ (args : Array Value) (w : World), (callFunc 30 args).run Tryz.prog w = .ok (.enter 30 args) w := fun _ _ => by kernel_rfl
theorem wo : ∀ (args : Array Value) (w : World), (callFunc 31 args).run Tryz.prog w = .ok (.enter 31 args) w := fun _ _ => by kernel_rfl
theorem ra : ∀ (args : Array Value) (w : World), (callFunc 58 args).run Tryz.prog w = .ok (.enter 58 args) w := fun _ _ => by kernel_rfl
set_option maxRecDepth 100000 in
set_option maxHeartbeats 1000000 in
theorem qs (F : Nat) (a1 : Int) (a2 : Int) (r3 : List UInt8) (H : lB F a1 a2 = some r3) : ACalls Tryz.prog 31 [i64 a1, i64 a2] [] (Ret (S r3) []) := by
 unfold lB at H
 refine ax Tryz.func31 rfl rfl ?_;show AW _ _ 19 _ _ _;refine af <| aa ?_;show AR _ _ _ _ _ [0] _;refine za rfl <| ag <| af ?_;obtain ⟨g4, H⟩ := ay H;obtain ⟨x5, e6, H⟩ := bf H;obtain ⟨g7, H⟩ := ay H;obtain ⟨x8, e9, H⟩ := bf H;obtain ⟨g10, H⟩ := ay H;obtain ⟨x11, e12, H⟩ := bf H;obtain ⟨g13, H⟩ := ay H;obtain ⟨x14, e15, H⟩ := bf H;obtain ⟨g16, H⟩ := ay H;obtain ⟨x17, e18, H⟩ := bf H;refine aa ?_;show AR _ _ _ _ _ [0, 1, 2, 3, 4, 5, 6, 7] _;refine zm rfl <| aq rfl rfl (aD rfl ra rfl (show ACalls _ _ _ [] (Ret (S x5) []) from by subst e6; exact gJ a1 (mV g4)) ?_);refine zS rfl (cf rfl rfl g7 e9) <| zS rfl (cf rfl rfl g10 e12) <| zm rfl <| aq rfl rfl (aD rfl ra rfl (show ACalls _ _ _ [] (Ret (S x14) []) from by subst e15; exact gJ a2 (mV g13)) ?_);refine zS rfl (cf rfl rfl g16 e18) <| za rfl <| ag <| af <| af <| aa ?_;show AR _ _ _ _ _ [0, 1] _;refine zm rfl <| zS rfl (cw rfl rfl) <| ag <| az rfl (fun c19 => ?_) (fun c19 => ?_)
 ·replace H := aZ c19 H;refine af ?_;obtain ⟨g20, H⟩ := ay H;obtain ⟨x21, e22, H⟩ := bf H;refine aa ?_;show AR _ _ _ _ _ [0, 1, 2] _;refine zm rfl <| zS rfl (cf rfl rfl g20 e22) <| za rfl <| ag <| aL ?_;obtain rfl := ap H;exact And.intro rfl (Exists.intro _ (Exists.intro _ ⟨aI rfl (.refl _), aJ [] rfl, rfl, rfl⟩))
 ·replace H := ba c19 H;refine aC <| af ?_;obtain ⟨g23, H⟩ := ay H;obtain ⟨x24, e25, H⟩ := bf H;refine aa ?_;show AR _ _ _ _ _ [0, 1, 2] _;refine zm rfl <| zS rfl (cf rfl rfl g23 e25) <| za rfl <| ag <| aL ?_;obtain rfl := ap H;exact And.intro rfl (Exists.intro _ (Exists.intro _ ⟨aI rfl (.refl _), aJ [] rfl, rfl, rfl⟩))
set_option maxRecDepth 100000 in
set_option maxHeartbeats 1000000 in
theorem sG (F : Nat) (a1 : List UInt8) (a2 : Int) (a3 : Int) (a4 : Int) (a5 : Int) (a6 : List (Int × Int × (List UInt8) × (List UInt8) × (List UInt8) × (List UInt8) × Int)) (q7 : Option Nat) (r8 : List UInt8) (r9 : Int) (H : oo F a1 a2 a3 a4 a5 a6 = some (r8, r9)) : ACalls Tryz.prog 13 [S a1, i64 a2, i64 a3, i64 a4, i64 a5, slE (Enc.prod Enc.int (Enc.prod Enc.int (Enc.prod Enc.str (Enc.prod Enc.str (Enc.prod Enc.str (Enc.prod Enc.str Enc.int)))))) a6 q7] [] (Ret (.tup [slE Enc.byte r8 none, i64 r9]) []) := by
 unfold oo at H
 refine ax Tryz.func13 rfl rfl ?_;show AW _ _ 89 _ _ _;refine af <| aa ?_;show AR _ _ _ _ _ [0, 1] _;refine za rfl <| za rfl <| ag <| af ?_;obtain ⟨x10, x11, e12, H⟩ := cW H;refine aa ?_;show AR _ _ _ _ _ [0, 1, 2, 3, 4, 5, 6, 7] _;refine zm rfl <| zm rfl <| aq rfl rfl (aD rfl wE rfl (pO F a2 a3 x10 x11 e12) ?_);refine zS rfl (aj (av := .tup _) rfl) <| zS rfl (aE (av := .v _) rfl rfl) <| zS rfl (aE (av := .v _) rfl rfl) <| za rfl <| za rfl <| ag <| af <| aN <| af <| aa ?_;show AR _ _ _ _ _ [0, 1, 2] _;refine zm rfl <| zS rfl (de rfl rfl) <| za rfl <| ag <| az rfl (fun c13 => ?_) (fun c13 => ?_)
 ·replace H := aZ c13 H;refine af <| aa ?_;show AR _ _ _ _ _ [0, 1, 2] _;refine zm rfl <| za rfl <| za rfl <| ag <| aL ?_;obtain ⟨rfl, rfl⟩ := df H;exact And.intro rfl (Exists.intro _ (Exists.intro _ ⟨be rfl (.nil _) (.refl _), aJ [] rfl, rfl, rfl⟩))
 ·replace H := ba c13 H;refine af ?_;obtain ⟨x14, e15, H⟩ := bN H;refine aa ?_;show AR _ _ _ _ _ [0, 1, 2, 3] _;refine zm rfl <| aq rfl rfl (aD rfl ws rfl (qt F a1 x14 e15) ?_);refine zS rfl (cn rfl) <| za rfl <| ag <| az rfl (fun c16 => ?_) (fun c16 => ?_)
  ·replace H := aZ c16 H;refine af <| aa ?_;show AR _ _ _ _ _ [0, 1] _;refine za rfl <| za rfl <| ag <| aL ?_;obtain ⟨rfl, rfl⟩ := df H;exact And.intro rfl (Exists.intro _ (Exists.intro _ ⟨be rfl (.nil _) (.refl _), aJ [] rfl, rfl, rfl⟩))
  ·replace H := ba c16 H;refine af <| aa ?_;show AR _ _ _ _ _ [0, 1, 2, 3] _;refine zS rfl (aj (av := slE _ _ _) rfl) <| zS rfl (aR bI rfl) <| zS rfl (cw rfl rfl) <| za rfl <| ag <| az rfl (fun c17 => ?_) (fun c17 => ?_)
   ·replace H := aZ c17 H;refine af <| aa ?_;show AR _ _ _ _ _ [0, 1] _;refine za rfl <| za rfl <| ag <| aL ?_;obtain ⟨rfl, rfl⟩ := df H;exact And.intro rfl (Exists.intro _ (Exists.intro _ ⟨be rfl (.nil _) (.refl _), aJ [] rfl, rfl, rfl⟩))
   ·replace H := ba c17 H;refine aC <| af ?_;obtain ⟨x18, x19, e20, H⟩ := cW H;refine aa ?_;show AR _ _ _ _ _ [0, 1, 2, 3, 4, 5, 6, 7] _;refine zm rfl <| zm rfl <| aq rfl rfl (aD rfl wr rfl (rz F a4 a5 x18 x19 e20) ?_);refine zS rfl (aj (av := .tup _) rfl) <| zS rfl (aE (av := .v _) rfl rfl) <| zS rfl (aE (av := .v _) rfl rfl) <| za rfl <| za rfl <| ag <| af <| af <| aa ?_;show AR _ _ _ _ _ [0, 1] _;refine zm rfl <| zS rfl (de rfl rfl) <| ag <| az rfl (fun c21 => ?_) (fun c21 => ?_)
    ·replace H := aZ c21 H;refine af <| aa ?_;show AR _ _ _ _ _ [0, 1, 2] _;refine zm rfl <| za rfl <| za rfl <| ag <| aL ?_;obtain ⟨rfl, rfl⟩ := df H;exact And.intro rfl (Exists.intro _ (Exists.intro _ ⟨be rfl (.nil _) (.refl _), aJ [] rfl, rfl, rfl⟩))
    ·replace H := ba c21 H;refine aC <| af ?_;obtain ⟨x22, e23, H⟩ := bN H;obtain ⟨g24, H⟩ := ay H;obtain ⟨x26, e27, H⟩ := bN H;obtain ⟨g28, H⟩ := ay H;obtain ⟨x30, x31, x32, e33, H⟩ := bnd3_s H;refine aa ?_;show AR _ _ _ _ _ [0, 1, 2, 3, 4, 5, 6, 7, 8, 9, 10, 11, 12, 13, 14, 15] _;refine zR rfl (bK (E := Enc.str) (bytes := 16) (xs := [.const _, .const _]) (l := ([sc, sb] : List (List UInt8))) ao (by kernel_rfl) rfl rfl (by decide) rfl rfl) <| zS rfl (aj (av := slE _ _ _) rfl) <| aq rfl rfl (aD rfl wI rfl (px F a6 q7 x22 e23) ?_);refine zX rfl (cm (bytes := 1) ab ac aY rfl g24) ?_;rintro _ _ ⟨t25, rfl, rfl⟩;refine zS rfl (aj (av := slE _ _ _) rfl) <| aq rfl rfl (aD rfl wM rfl (mu F a6 q7 x26 e27) ?_);refine zX rfl (cm (bytes := 1) ab ac aY rfl g28) ?_;rintro _ _ ⟨t29, rfl, rfl⟩;refine zR rfl (rq 51 (.tok _ _ _) <| rq 54 (.tok _ _ _) <| bK (E := (Enc.sl Enc.byte)) (bytes := 24) (xs := [.tmp 51, .tmp 54]) (l := ([x22, x26] : List (List UInt8))) bH (by kernel_rfl) rfl rfl (by decide) rfl rfl) <| aq rfl rfl (aD rfl wq rfl (su F ([sc, sb] : List (List UInt8)) none ([x22, x26] : List (List UInt8)) none x30 x31 x32 e33) ?_)
     refine zS rfl (aj (av := .tup _) rfl) <| zS rfl (aE (av := slE _ _ _) rfl rfl) <| zS rfl (aE (av := .v _) rfl rfl) <| zS rfl (aE (av := .v _) rfl rfl) <| zS rfl (aB (av := slE _ _ _) rfl) <| za rfl <| za rfl <| ag <| af <| af <| aa ?_;show AR _ _ _ _ _ [0, 1] _;refine zm rfl <| zS rfl (de rfl rfl) <| ag <| az rfl (fun c34 => ?_) (fun c34 => ?_)
     ·replace H := aZ c34 H;refine af <| aa ?_;show AR _ _ _ _ _ [0, 1, 2] _;refine zm rfl <| za rfl <| za rfl <| ag <| aL ?_;obtain ⟨rfl, rfl⟩ := df H;exact And.intro rfl (Exists.intro _ (Exists.intro _ ⟨be rfl (.nil _) (.refl _), aJ [] rfl, rfl, rfl⟩))
     ·replace H := ba c34 H;refine aC <| af ?_;obtain ⟨x35, e36, H⟩ := bN H;obtain ⟨g37, H⟩ := ay H;obtain ⟨x38, e39, H⟩ := bf H;obtain ⟨g40, H⟩ := ay H;obtain ⟨x41, e42, H⟩ := bf H;obtain ⟨x43, x44, e45, H⟩ := cW H;refine aa ?_;show AR _ _ _ _ _ [0, 1, 2, 3, 4, 5, 6, 7, 8, 9, 10, 11, 12, 13, 14, 15, 16, 17, 18, 19, 20, 21, 22, 23] _;refine zS rfl (dt (zs := [.string ⟨#[]⟩, .string ⟨#[]⟩]) (ps := [(0, 1), (1, 1)]) (cs := [S ([70, 114, 111, 109] : List UInt8), S ([100, 105, 103, 101, 115, 116, 64, 109, 97, 105, 108, 99, 111, 97, 99, 104] : List UInt8)]) (by kernel_rfl) rfl rfl) <| zm rfl <| zS rfl (dt (zs := [.string ⟨#[]⟩, .string ⟨#[]⟩]) (ps := [(0, 1), (1, 1)]) (cs := [S ([84, 111] : List UInt8), S a1]) (by kernel_rfl) rfl rfl) <| zm rfl <| zS rfl (aj (av := slE _ _ _) rfl) <| zS rfl (aR bI rfl) <| aq rfl rfl (aD rfl wo rfl (qs F a3 (a6.length : Int) x35 e36) ?_)
      refine zS rfl (dt (zs := [.string ⟨#[]⟩, .string ⟨#[]⟩]) (ps := [(0, 1), (1, 1)]) (cs := [S ([83, 117, 98, 106, 101, 99, 116] : List UInt8), S x35]) (by kernel_rfl) rfl rfl) <| zm rfl <| zS rfl (dt (zs := [.string ⟨#[]⟩, .string ⟨#[]⟩]) (ps := [(0, 1), (1, 1)]) (cs := [S ([68, 97, 116, 101] : List UInt8), S x18]) (by kernel_rfl) rfl rfl) <| zm rfl <| zS rfl (dt (zs := [.string ⟨#[]⟩, .string ⟨#[]⟩]) (ps := [(0, 1), (1, 1)]) (cs := [S ([77, 101, 115, 115, 97, 103, 101, 45, 73, 68] : List UInt8), S x10]) (by kernel_rfl) rfl rfl) <| zS rfl (dt (zs := [.string ⟨#[]⟩, .string ⟨#[]⟩]) (ps := [(0, 1), (1, 1)]) (cs := [S ([77, 73, 77, 69, 45, 86, 101, 114, 115, 105, 111, 110] : List UInt8), S ([49, 46, 48] : List UInt8)]) (by kernel_rfl) rfl rfl) <| zm rfl <| zS rfl (cf rfl rfl g37 e39) <| zS rfl (cf rfl rfl g40 e42) <| zS rfl (dt (zs := [.string ⟨#[]⟩, .string ⟨#[]⟩]) (ps := [(0, 1), (1, 1)]) (cs := [S ([67, 111, 110, 116, 101, 110, 116, 45, 84, 121, 112, 101] : List UInt8), S x41]) (by kernel_rfl) rfl rfl) <| zR rfl (ku (E := (Enc.prod Enc.str Enc.str)) (bytes := 32) (zs := [.string ⟨#[]⟩, .string ⟨#[]⟩]) (l := ([(([70, 114, 111, 109] : List UInt8), ([100, 105, 103, 101, 115, 116, 64, 109, 97, 105, 108, 99, 111, 97, 99, 104] : List UInt8)), (([84, 111] : List UInt8), a1), (([83, 117, 98, 106, 101, 99, 116] : List UInt8), x35), (([68, 97, 116, 101] : List UInt8), x18), (([77, 101, 115, 115, 97, 103, 101, 45, 73, 68] : List UInt8), x10), (([77, 73, 77, 69, 45, 86, 101, 114, 115, 105, 111, 110] : List UInt8), ([49, 46, 48] : List UInt8)), (([67, 111, 110, 116, 101, 110, 116, 45, 84, 121, 112, 101] : List UInt8), x41)] : List ((List UInt8) × List UInt8))) dW (by kernel_rfl) (by kernel_rfl) rfl rfl rfl rfl rfl) <| aq rfl rfl (bG [] rfl wp rfl (sy F ([(([70, 114, 111, 109] : List UInt8), ([100, 105, 103, 101, 115, 116, 64, 109, 97, 105, 108, 99, 111, 97, 99, 104] : List UInt8)), (([84, 111] : List UInt8), a1), (([83, 117, 98, 106, 101, 99, 116] : List UInt8), x35), (([68, 97, 116, 101] : List UInt8), x18), (([77, 101, 115, 115, 97, 103, 101, 45, 73, 68] : List UInt8), x10), (([77, 73, 77, 69, 45, 86, 101, 114, 115, 105, 111, 110] : List UInt8), ([49, 46, 48] : List UInt8)), (([67, 111, 110, 116, 101, 110, 116, 45, 84, 121, 112, 101] : List UInt8), x41)] : List ((List UInt8) × List UInt8)) none x43 x44 e45) rfl (fun c A' h => by obtain ⟨_, _, h, _⟩ := h; cases h) ?_)
      rintro av A' ⟨t46, c47, h, rfl, hc47⟩; cases h
      refine zS rfl (aj (av := .tup _) rfl) <| zS rfl (aE (av := slE _ _ _) rfl rfl) <| zS rfl (aE (av := .v _) rfl rfl) <| zS rfl (aB (av := slE _ _ _) rfl) <| za rfl <| ag <| af ?_;obtain ⟨g49, H⟩ := ay H;obtain ⟨x50, e51, H⟩ := bf H;refine aa ?_;show AR _ _ _ _ _ [0, 1, 2, 3, 4, 5] _;refine zS rfl (aj (av := slE _ _ _) rfl) <| zS rfl (aj (av := slE _ _ _) rfl) <| zX rfl (vY (E := Enc.byte) (bytes := 1) 0 hc47 ac ac rfl (by kernel_rfl) rfl rfl rfl rfl g49 e51) ?_;rintro _ _ ⟨t48, c52, hc52, rfl, rfl⟩;refine zm rfl <| zS rfl (aB (av := slE _ _ _) rfl) <| za rfl <| ag <| aL ?_;obtain ⟨rfl, rfl⟩ := df H;exact And.intro rfl (Exists.intro _ (Exists.intro _ ⟨be rfl (.tok _ _ _) (.refl _), aJ [] rfl, rfl, rfl⟩))
end Go.Proofs.YtjegcifofddgbaaGreatDoor
namespace Go.Pv
def vC : List UInt8 := [60, 117, 108, 62, 10, 60, 108, 105, 62, 60, 97, 32, 104, 114, 101, 102, 61, 34, 117, 34, 62, 84, 60, 47, 97, 62, 60, 47, 108, 105, 62, 10, 60, 47, 117, 108, 62, 10]
def gK (F : Nat) : Option Bool :=
gm (qh F 3 12) fun x2 x3 =>
bnd3 (om F ([60, 49, 50, 46, 51, 64, 109, 97, 105, 108, 99, 111, 97, 99, 104, 62] : List UInt8)) fun x5 x6 x7 =>
gm (oo F ([97, 64, 98] : List UInt8) 1 1 0 0 ([(0, 0, (([] : List UInt8), ([84] : List UInt8), ([117] : List UInt8), ([60, 112, 62, 120] : List UInt8), 0))] : List (Int × Int × (List UInt8) × (List UInt8) × (List UInt8) × (List UInt8) × Int))) fun x9 x10 =>
kW ((((((decide (x3 = 0)) && (decide (x7 = 0))) && (decide (x10 = 0))) && (decide (x2 = ([60, 49, 50, 46, 51, 64, 109, 97, 105, 108, 99, 111, 97, 99, 104, 62] : List UInt8)))) && (decide (x5 = 3))) && (decide (x6 = 12))) (nA F ([(0, 0, (([] : List UInt8), ([84] : List UInt8), ([117] : List UInt8), ([60, 112, 62, 120] : List UInt8), 0))] : List (Int × Int × (List UInt8) × (List UInt8) × (List UInt8) × (List UInt8) × Int))) fun x18 =>
kW (((((((decide (x3 = 0)) && (decide (x7 = 0))) && (decide (x10 = 0))) && (decide (x2 = ([60, 49, 50, 46, 51, 64, 109, 97, 105, 108, 99, 111, 97, 99, 104, 62] : List UInt8)))) && (decide (x5 = 3))) && (decide (x6 = 12))) && (decide (x18 = ([84, 10, 117, 10, 120, 10, 10] : List UInt8)))) (jk F ([(0, 0, (([] : List UInt8), ([84] : List UInt8), ([117] : List UInt8), ([60, 112, 62, 120] : List UInt8), 0))] : List (Int × Int × (List UInt8) × (List UInt8) × (List UInt8) × (List UInt8) × Int))) fun x21 =>
some ((((((((decide (x3 = 0)) && (decide (x7 = 0))) && (decide (x10 = 0))) && (decide (x2 = ([60, 49, 50, 46, 51, 64, 109, 97, 105, 108, 99, 111, 97, 99, 104, 62] : List UInt8)))) && (decide (x5 = 3))) && (decide (x6 = 12))) && (decide (x18 = ([84, 10, 117, 10, 120, 10, 10] : List UInt8)))) && (decide (x21 = vC)))
def ij : Option Bool :=
some true
def fU (a1 : List (Int × Int × (List UInt8) × (List UInt8) × (List UInt8) × (List UInt8) × Int)) (rec7 : Int → Option Bool) (y6 : Int) : Option Bool :=
bif decide (y6 < (a1.length : Int)) then
  grd (cx y6 a1.length) <|
  lt (at_ a1 y6) fun x11 =>
  bif (((decide (300 < (x11.2.2.1.length : Int))) || (decide (300 < (x11.2.2.2.1.length : Int)))) || (decide (300 < (x11.2.2.2.2.1.length : Int)))) || (decide (300 < (x11.2.2.2.2.2.1.length : Int))) then
    some false
  else
    grd (okI (y6 + 1)) <|
    rec7 (y6 + 1)
else
  ij
def fT (a1 : List (Int × Int × (List UInt8) × (List UInt8) × (List UInt8) × (List UInt8) × Int)) (n : Nat) : Int → Option Bool :=
  loop (fun rec x => fU a1 rec x) n
def iH (F : Nat) (a1 : List (Int × Int × (List UInt8) × (List UInt8) × (List UInt8) × (List UInt8) × Int)) (a3 : Int) : Option Bool :=
bif decide (a3 < (a1.length : Int)) then
  some false
else
  fT a1 F 0
end Go.Pv
namespace Go.Proofs.YtjegcifofddgbaaGreatDoor
open Go.RowKit Go.Av Go.Pv
theorem wL : ∀ (args : Array Value) (w : World), (callFunc 11 args).run Tryz.prog w = .ok (.enter 11 args) w := fun _ _ => by kernel_rfl
theorem wK : ∀ (args : Array Value) (w : World), (callFunc 13 args).run Tryz.prog w = .ok (.enter 13 args) w := fun _ _ => by kernel_rfl
theorem wJ : ∀ (args : Array Value) (w : World), (callFunc 15 args).run Tryz.prog w = .ok (.enter 15 args) w := fun _ _ => by kernel_rfl
theorem wH : ∀ (args : Array Value) (w : World), (callFunc 17 args).run Tryz.prog w = .ok (.enter 17 args) w := fun _ _ => by kernel_rfl
theorem wD : ∀ (args : Array Value) (w : World), (callFunc 21 args).run Tryz.prog w = .ok (.enter 21 args) w := fun _ _ => by kernel_rfl
set_option maxRecDepth 100000 in
set_option maxHeartbeats 1000000 in
theorem qo (F : Nat) (r1 : Bool) (H : gK F = some r1) : ACalls Tryz.prog 9 [] [] (Ret (B r1) []) := by
 unfold gK at H
 refine ax Tryz.func9 rfl rfl ?_;show AW _ _ 58 _ _ _;refine af <| aa ?_;show AR _ _ _ _ _ [0] _;refine za rfl <| ag <| af ?_;obtain ⟨x2, x3, e4, H⟩ := cW H;refine aa ?_;show AR _ _ _ _ _ [0, 1, 2, 3, 4, 5] _;refine aq rfl rfl (aD rfl wD rfl (pO F 3 12 x2 x3 e4) ?_);refine zS rfl (aj (av := .tup _) rfl) <| zS rfl (aE (av := .v _) rfl rfl) <| zS rfl (aE (av := .v _) rfl rfl) <| za rfl <| za rfl <| ag <| af ?_;obtain ⟨x5, x6, x7, e8, H⟩ := bnd3_s H;refine aa ?_;show AR _ _ _ _ _ [0, 1, 2, 3, 4, 5, 6, 7] _;refine aq rfl rfl (aD rfl wJ rfl (sE F ([60, 49, 50, 46, 51, 64, 109, 97, 105, 108, 99, 111, 97, 99, 104, 62] : List UInt8) x5 x6 x7 e8) ?_);refine zS rfl (aj (av := .tup _) rfl) <| zS rfl (aE (av := .v _) rfl rfl) <| zS rfl (aE (av := .v _) rfl rfl) <| zS rfl (aE (av := .v _) rfl rfl) <| za rfl <| za rfl <| za rfl <| ag <| af <| aa ?_;show AR _ _ _ _ _ [0, 1, 2, 3] _
 refine zS rfl (dt (zs := [.string ⟨#[]⟩, .string ⟨#[]⟩, .string ⟨#[]⟩, .string ⟨#[]⟩, .int .i64 0]) (ps := [(0, 1), (1, 1), (2, 1), (3, 1), (4, 1)]) (cs := [S ([] : List UInt8), S ([84] : List UInt8), S ([117] : List UInt8), S ([60, 112, 62, 120] : List UInt8), i64 0]) (by kernel_rfl) rfl rfl) <| zS rfl (dt (zs := [.int .i64 0, .int .i64 0, .string ⟨#[]⟩, .string ⟨#[]⟩, .string ⟨#[]⟩, .string ⟨#[]⟩, .int .i64 0]) (ps := [(0, 1), (1, 1), (2, 5)]) (cs := [i64 0, i64 0, S ([] : List UInt8), S ([84] : List UInt8), S ([117] : List UInt8), S ([60, 112, 62, 120] : List UInt8), i64 0]) (by kernel_rfl) rfl rfl) <| zR rfl (ku (E := (Enc.prod Enc.int (Enc.prod Enc.int (Enc.prod Enc.str (Enc.prod Enc.str (Enc.prod Enc.str (Enc.prod Enc.str Enc.int))))))) (bytes := 88) (zs := [.int .i64 0, .int .i64 0, .string ⟨#[]⟩, .string ⟨#[]⟩, .string ⟨#[]⟩, .string ⟨#[]⟩, .int .i64 0]) (l := ([(0, 0, (([] : List UInt8), ([84] : List UInt8), ([117] : List UInt8), ([60, 112, 62, 120] : List UInt8), 0))] : List (Int × Int × (List UInt8) × (List UInt8) × (List UInt8) × (List UInt8) × Int))) bI (by kernel_rfl) (by kernel_rfl) rfl rfl rfl rfl rfl) <| zS rfl (aB (av := slE _ _ _) rfl) <| ag <| af ?_;obtain ⟨x9, x10, e11, H⟩ := cW H;refine aa ?_;show AR _ _ _ _ _ [0, 1, 2, 3, 4, 5, 6] _
 refine zS rfl (aj (av := slE _ _ _) rfl) <| aq rfl rfl (aD rfl wK rfl (sG F ([97, 64, 98] : List UInt8) 1 1 0 0 ([(0, 0, (([] : List UInt8), ([84] : List UInt8), ([117] : List UInt8), ([60, 112, 62, 120] : List UInt8), 0))] : List (Int × Int × (List UInt8) × (List UInt8) × (List UInt8) × (List UInt8) × Int)) none x9 x10 e11) ?_);refine zS rfl (aj (av := .tup _) rfl) <| zS rfl (aE (av := slE _ _ _) rfl rfl) <| zS rfl (aE (av := .v _) rfl rfl) <| zS rfl (aB (av := slE _ _ _) rfl) <| za rfl <| ag <| af ?_;obtain ⟨x18, e19, H⟩ := eU H;obtain ⟨x21, e22, H⟩ := eU H;refine aa ?_;show AR _ _ _ _ _ [0, 1, 2, 3, 4, 5, 6, 7, 8, 9, 10, 11, 12, 13, 14, 15, 16, 17, 18, 19, 20, 21, 22, 23, 24, 25, 26, 27, 28, 29, 30, 31, 32] _;refine zm rfl <| zS rfl (cw rfl rfl) <| zm rfl <| bb (l := [6, 7, 8, 9, 10, 11, 12, 13, 14, 15, 16, 17, 18, 19, 20, 21, 22, 23, 24, 25, 26, 27, 28, 29, 30, 31, 32]) 31 (B ((decide (x3 = 0)) && (decide (x7 = 0)))) (fun K => ?_) ?_
 ·rcases ak (decide (x3 = 0)) with h12 | h12
  ·refine zM h12 rfl <| zU h12 rfl (cw rfl rfl) <| zS rfl (aG (av := .v _) rfl h12 rfl) ?_;exact K _ 2 _ (aA (co h12)) rfl rfl
  ·refine zF h12 rfl <| zF h12 rfl <| zS rfl (aF (av := .v _) rfl h12 rfl) ?_;exact K _ 2 _ (aA (cq h12)) rfl rfl
 refine zm rfl <| bb (l := [10, 11, 12, 13, 14, 15, 16, 17, 18, 19, 20, 21, 22, 23, 24, 25, 26, 27, 28, 29, 30, 31, 32]) 35 (B (((decide (x3 = 0)) && (decide (x7 = 0))) && (decide (x10 = 0)))) (fun K => ?_) ?_
 ·rcases ak ((decide (x3 = 0)) && (decide (x7 = 0))) with h13 | h13
  ·refine zM h13 rfl <| zU h13 rfl (cw rfl rfl) <| zS rfl (aG (av := .v _) rfl h13 rfl) ?_;exact K _ 2 _ (aA (co h13)) rfl rfl
  ·refine zF h13 rfl <| zF h13 rfl <| zS rfl (aF (av := .v _) rfl h13 rfl) ?_;exact K _ 2 _ (aA (cq h13)) rfl rfl
 refine zm rfl <| bb (l := [14, 15, 16, 17, 18, 19, 20, 21, 22, 23, 24, 25, 26, 27, 28, 29, 30, 31, 32]) 39 (B ((((decide (x3 = 0)) && (decide (x7 = 0))) && (decide (x10 = 0))) && (decide (x2 = ([60, 49, 50, 46, 51, 64, 109, 97, 105, 108, 99, 111, 97, 99, 104, 62] : List UInt8))))) (fun K => ?_) ?_
 ·rcases ak (((decide (x3 = 0)) && (decide (x7 = 0))) && (decide (x10 = 0))) with h14 | h14
  ·refine zM h14 rfl <| zU h14 rfl (eN rfl rfl) <| zS rfl (aG (av := .v _) rfl h14 rfl) ?_;exact K _ 2 _ (aA (co h14)) rfl rfl
  ·refine zF h14 rfl <| zF h14 rfl <| zS rfl (aF (av := .v _) rfl h14 rfl) ?_;exact K _ 2 _ (aA (cq h14)) rfl rfl
 refine zm rfl <| bb (l := [18, 19, 20, 21, 22, 23, 24, 25, 26, 27, 28, 29, 30, 31, 32]) 43 (B (((((decide (x3 = 0)) && (decide (x7 = 0))) && (decide (x10 = 0))) && (decide (x2 = ([60, 49, 50, 46, 51, 64, 109, 97, 105, 108, 99, 111, 97, 99, 104, 62] : List UInt8)))) && (decide (x5 = 3)))) (fun K => ?_) ?_
 ·rcases ak ((((decide (x3 = 0)) && (decide (x7 = 0))) && (decide (x10 = 0))) && (decide (x2 = ([60, 49, 50, 46, 51, 64, 109, 97, 105, 108, 99, 111, 97, 99, 104, 62] : List UInt8)))) with h15 | h15
  ·refine zM h15 rfl <| zU h15 rfl (cw rfl rfl) <| zS rfl (aG (av := .v _) rfl h15 rfl) ?_;exact K _ 2 _ (aA (co h15)) rfl rfl
  ·refine zF h15 rfl <| zF h15 rfl <| zS rfl (aF (av := .v _) rfl h15 rfl) ?_;exact K _ 2 _ (aA (cq h15)) rfl rfl
 refine zm rfl <| bb (l := [22, 23, 24, 25, 26, 27, 28, 29, 30, 31, 32]) 47 (B ((((((decide (x3 = 0)) && (decide (x7 = 0))) && (decide (x10 = 0))) && (decide (x2 = ([60, 49, 50, 46, 51, 64, 109, 97, 105, 108, 99, 111, 97, 99, 104, 62] : List UInt8)))) && (decide (x5 = 3))) && (decide (x6 = 12)))) (fun K => ?_) ?_
 ·rcases ak (((((decide (x3 = 0)) && (decide (x7 = 0))) && (decide (x10 = 0))) && (decide (x2 = ([60, 49, 50, 46, 51, 64, 109, 97, 105, 108, 99, 111, 97, 99, 104, 62] : List UInt8)))) && (decide (x5 = 3))) with h16 | h16
  ·refine zM h16 rfl <| zU h16 rfl (cw rfl rfl) <| zS rfl (aG (av := .v _) rfl h16 rfl) ?_;exact K _ 2 _ (aA (co h16)) rfl rfl
  ·refine zF h16 rfl <| zF h16 rfl <| zS rfl (aF (av := .v _) rfl h16 rfl) ?_;exact K _ 2 _ (aA (cq h16)) rfl rfl
 refine zm rfl <| bb (l := [27, 28, 29, 30, 31, 32]) 52 (B (((((((decide (x3 = 0)) && (decide (x7 = 0))) && (decide (x10 = 0))) && (decide (x2 = ([60, 49, 50, 46, 51, 64, 109, 97, 105, 108, 99, 111, 97, 99, 104, 62] : List UInt8)))) && (decide (x5 = 3))) && (decide (x6 = 12))) && (decide (x18 = ([84, 10, 117, 10, 120, 10, 10] : List UInt8))))) (fun K => ?_) ?_
 ·rcases ak ((((((decide (x3 = 0)) && (decide (x7 = 0))) && (decide (x10 = 0))) && (decide (x2 = ([60, 49, 50, 46, 51, 64, 109, 97, 105, 108, 99, 111, 97, 99, 104, 62] : List UInt8)))) && (decide (x5 = 3))) && (decide (x6 = 12))) with h17 | h17
  ·refine zU h17 rfl (aj (av := slE _ _ _) rfl) <| zT h17 rfl (aD rfl wH rfl (px F ([(0, 0, (([] : List UInt8), ([84] : List UInt8), ([117] : List UInt8), ([60, 112, 62, 120] : List UInt8), 0))] : List (Int × Int × (List UInt8) × (List UInt8) × (List UInt8) × (List UInt8) × Int)) none x18 (e19 h17)) ?_);refine zU h17 rfl (eN rfl rfl) <| zS rfl (aG (av := .v _) rfl h17 rfl) ?_;exact K _ 3 _ (aA (co h17)) rfl rfl
  ·refine zF h17 rfl <| zF h17 rfl <| zF h17 rfl <| zS rfl (aF (av := .v _) rfl h17 rfl) ?_;exact K _ 3 _ (aA (cq h17)) rfl rfl
 refine zm rfl <| bb (l := [32]) 57 (B ((((((((decide (x3 = 0)) && (decide (x7 = 0))) && (decide (x10 = 0))) && (decide (x2 = ([60, 49, 50, 46, 51, 64, 109, 97, 105, 108, 99, 111, 97, 99, 104, 62] : List UInt8)))) && (decide (x5 = 3))) && (decide (x6 = 12))) && (decide (x18 = ([84, 10, 117, 10, 120, 10, 10] : List UInt8)))) && (decide (x21 = vC)))) (fun K => ?_) ?_
 ·rcases ak (((((((decide (x3 = 0)) && (decide (x7 = 0))) && (decide (x10 = 0))) && (decide (x2 = ([60, 49, 50, 46, 51, 64, 109, 97, 105, 108, 99, 111, 97, 99, 104, 62] : List UInt8)))) && (decide (x5 = 3))) && (decide (x6 = 12))) && (decide (x18 = ([84, 10, 117, 10, 120, 10, 10] : List UInt8)))) with h20 | h20
  ·refine zU h20 rfl (aj (av := slE _ _ _) rfl) <| zT h20 rfl (aD rfl wL rfl (mu F ([(0, 0, (([] : List UInt8), ([84] : List UInt8), ([117] : List UInt8), ([60, 112, 62, 120] : List UInt8), 0))] : List (Int × Int × (List UInt8) × (List UInt8) × (List UInt8) × (List UInt8) × Int)) none x21 (e22 h20)) ?_);refine zU h20 rfl (eN rfl rfl) <| zS rfl (aG (av := .v _) rfl h20 rfl) ?_;exact K _ 3 _ (aA (co h20)) rfl rfl
  ·refine zF h20 rfl <| zF h20 rfl <| zF h20 rfl <| zS rfl (aF (av := .v _) rfl h20 rfl) ?_;exact K _ 3 _ (aA (cq h20)) rfl rfl
 refine za rfl <| ag <| aL ?_;obtain rfl := ap H;exact And.intro rfl (Exists.intro _ (Exists.intro _ ⟨aI rfl (.refl _), aJ [] rfl, rfl, rfl⟩))
set_option maxRecDepth 100000 in
set_option maxHeartbeats 1000000 in
theorem so (F : Nat) (a1 : List (Int × Int × (List UInt8) × (List UInt8) × (List UInt8) × (List UInt8) × Int)) (q2 : Option Nat) (a3 : Int) (r4 : Bool) (H : iH F a1 a3 = some r4) : ACalls Tryz.prog 10 [slE (Enc.prod Enc.int (Enc.prod Enc.int (Enc.prod Enc.str (Enc.prod Enc.str (Enc.prod Enc.str (Enc.prod Enc.str Enc.int)))))) a1 q2, i64 a3] [] (Ret (B r4) []) := by
 unfold iH at H
 refine ax Tryz.func10 rfl rfl ?_;show AW _ _ 44 _ _ _;refine af <| aa ?_;show AR _ _ _ _ _ [0] _;refine za rfl <| ag <| af <| af <| aa ?_;show AR _ _ _ _ _ [0, 1, 2, 3] _;refine zS rfl (aj (av := slE _ _ _) rfl) <| zS rfl (aR bI rfl) <| zm rfl <| zS rfl (cP rfl rfl) <| ag <| az rfl (fun c5 => ?_) (fun c5 => ?_)
 ·replace H := aZ c5 H;refine af <| aa ?_;show AR _ _ _ _ _ [0] _;refine za rfl <| ag <| aL ?_;obtain rfl := ap H;exact And.intro rfl (Exists.intro _ (Exists.intro _ ⟨aI rfl (.refl _), aJ [] rfl, rfl, rfl⟩))
 ·replace H := ba c5 H;refine aC <| bj (X := Unit) (fun _ => ⟨[], [], []⟩) (fun _ => ij = some r4) ?_ ?_
  ·refine af <| aa ?_;show AR _ _ _ _ _ [0] _;refine za rfl <| ag <| aN <| bZ (X := Nat × Int) (fun (n8, y6) => ⟨[(0, slE (Enc.prod Enc.int (Enc.prod Enc.int (Enc.prod Enc.str (Enc.prod Enc.str (Enc.prod Enc.str (Enc.prod Enc.str Enc.int)))))) a1 q2), (5, i64 y6)], [], []⟩) (fun (n8, y6) => fT a1 n8 y6 = some r4) (fun (n8, y6) => n8) (F, 0) H (aO [] (.cons (.refl _) (.cons (.refl _) (.nil _))) rfl) ?_;rintro ⟨n8, y6⟩ H;obtain ⟨n8, rfl, H⟩ := cC H;replace H : fU a1 (fT a1 n8) y6 = some r4 := H
   unfold fU at H
   refine af <| af <| aa ?_;show AR _ _ _ _ _ [0, 1, 2, 3] _;refine zm rfl <| zS rfl (aj (av := slE _ _ _) rfl) <| zS rfl (aR bI rfl) <| zS rfl (bz rfl rfl) <| ag <| az rfl (fun c9 => ?_) (fun c9 => ?_)
   ·replace H := aZ c9 H;refine aC <| af <| aN <| af ?_;obtain ⟨g10, H⟩ := ay H;obtain ⟨x11, e12, H⟩ := bf H;refine aa ?_;show AR _ _ _ _ _ [0, 1, 2, 3, 4, 5, 6] _;refine zS rfl (aj (av := slE _ _ _) rfl) <| zm rfl <| zS rfl (ca (E := (Enc.prod Enc.int (Enc.prod Enc.int (Enc.prod Enc.str (Enc.prod Enc.str (Enc.prod Enc.str (Enc.prod Enc.str Enc.int))))))) bI (by kernel_rfl) rfl rfl g10 e12) <| zS rfl (aQ (n := 2) (by kernel_rfl) rfl (ai rfl)) <| zS rfl (dU Tryz.underlying27 rfl (n := 5) (by kernel_rfl) rfl (ai rfl)) <| zX rfl (dy (zs := [.string ⟨#[]⟩, .string ⟨#[]⟩, .string ⟨#[]⟩, .string ⟨#[]⟩, .int .i64 0]) (by kernel_rfl)) ?_;rintro _ _ ⟨o13, rfl, rfl⟩;refine s0 rfl rfl (cQ (i := 0) (vs := [S x11.2.2.1, S x11.2.2.2.1, S x11.2.2.2.2.1, S x11.2.2.2.2.2.1, i64 x11.2.2.2.2.2.2]) (by kernel_rfl) rfl rfl (by simp [cM, slE]) rfl (ai rfl)) <| AR.freezeCp 6 0 rfl rfl ?_;show AR _ _ _ _ _ _ ⟨_, _, []⟩;refine ag <| af <| aa ?_;show AR _ _ _ _ _ [0, 1, 2, 3, 4, 5, 6, 7, 8, 9, 10, 11, 12, 13, 14, 15, 16, 17, 18, 19, 20, 21] _
    refine zS rfl (aQ (n := 0) (by kernel_rfl) rfl (ai rfl)) <| zS rfl (aH ab rfl rfl) <| zS rfl (aU ab rfl) <| zS rfl (cP rfl rfl) <| zm rfl <| bb (l := [10, 11, 12, 13, 14, 15, 16, 17, 18, 19, 20, 21]) 31 (B ((decide (300 < (x11.2.2.1.length : Int))) || (decide (300 < (x11.2.2.2.1.length : Int))))) (fun K => ?_) ?_
    ·rcases ak (decide (300 < (x11.2.2.1.length : Int))) with h14 | h14
     ·refine zF h14 rfl <| zF h14 rfl <| zF h14 rfl <| zF h14 rfl <| zS rfl (aG (av := .v _) rfl h14 rfl) ?_;exact K _ 4 _ (aA (fF h14)) rfl rfl
     ·refine zU h14 rfl (aQ (n := 1) (by kernel_rfl) rfl (ai rfl)) <| zU h14 rfl (aH ab rfl rfl) <| zU h14 rfl (aU ab rfl) <| zU h14 rfl (cP rfl rfl) <| zS rfl (aF (av := .v _) rfl h14 rfl) ?_;exact K _ 4 _ (aA (fG h14)) rfl rfl
    refine zm rfl <| bb (l := [16, 17, 18, 19, 20, 21]) 37 (B (((decide (300 < (x11.2.2.1.length : Int))) || (decide (300 < (x11.2.2.2.1.length : Int)))) || (decide (300 < (x11.2.2.2.2.1.length : Int))))) (fun K => ?_) ?_
    ·rcases ak ((decide (300 < (x11.2.2.1.length : Int))) || (decide (300 < (x11.2.2.2.1.length : Int)))) with h15 | h15
     ·refine zF h15 rfl <| zF h15 rfl <| zF h15 rfl <| zF h15 rfl <| zS rfl (aG (av := .v _) rfl h15 rfl) ?_;exact K _ 4 _ (aA (fF h15)) rfl rfl
     ·refine zU h15 rfl (aQ (n := 2) (by kernel_rfl) rfl (ai rfl)) <| zU h15 rfl (aH ab rfl rfl) <| zU h15 rfl (aU ab rfl) <| zU h15 rfl (cP rfl rfl) <| zS rfl (aF (av := .v _) rfl h15 rfl) ?_;exact K _ 4 _ (aA (fG h15)) rfl rfl
    refine zm rfl <| bb (l := []) 43 (B ((((decide (300 < (x11.2.2.1.length : Int))) || (decide (300 < (x11.2.2.2.1.length : Int)))) || (decide (300 < (x11.2.2.2.2.1.length : Int)))) || (decide (300 < (x11.2.2.2.2.2.1.length : Int))))) (fun K => ?_) ?_
    ·rcases ak (((decide (300 < (x11.2.2.1.length : Int))) || (decide (300 < (x11.2.2.2.1.length : Int)))) || (decide (300 < (x11.2.2.2.2.1.length : Int)))) with h16 | h16
     ·refine zF h16 rfl <| zF h16 rfl <| zF h16 rfl <| zF h16 rfl <| zS rfl (aG (av := .v _) rfl h16 rfl) ?_;exact K _ 4 _ (aA (fF h16)) rfl rfl
     ·refine zU h16 rfl (aQ (n := 3) (by kernel_rfl) rfl (ai rfl)) <| zU h16 rfl (aH ab rfl rfl) <| zU h16 rfl (aU ab rfl) <| zU h16 rfl (cP rfl rfl) <| zS rfl (aF (av := .v _) rfl h16 rfl) ?_;exact K _ 4 _ (aA (fG h16)) rfl rfl
    refine ag <| az rfl (fun c17 => ?_) (fun c17 => ?_)
    ·replace H := aZ c17 H;refine af <| aa ?_;show AR _ _ _ _ _ [0] _;refine za rfl <| ag <| aL ?_;obtain rfl := ap H;exact And.intro rfl (Exists.intro _ (Exists.intro _ ⟨aI rfl (.refl _), aJ [] rfl, rfl, rfl⟩))
    ·replace H := ba c17 H;refine aC ?_;obtain ⟨g18, H⟩ := ay H;refine aa ?_;show AR _ _ _ _ _ [0, 1, 2] _;refine zm rfl <| zS rfl (bo rfl rfl g18) <| za rfl <| ag ?_;exact Exists.intro (n8, y6 + 1) ⟨H, Nat.lt_succ_self _, aO [] (.cons (.refl _) (.cons (.refl _) (.nil _))) rfl⟩
   ·replace H := ba c9 H;refine bR ?_;exact Exists.intro () ⟨H, aO [] (.nil _) rfl⟩
  rintro _ H;replace H : ij = some r4 := H
  unfold ij at H
  refine af <| aa ?_;show AR _ _ _ _ _ [0] _;refine za rfl <| ag <| aL ?_;obtain rfl := ap H;exact And.intro rfl (Exists.intro _ (Exists.intro _ ⟨aI rfl (.refl _), aJ [] rfl, rfl, rfl⟩))
end Go.Proofs.YtjegcifofddgbaaGreatDoor
namespace Go.Pv
def eJ (y44 : List UInt8) : Option ((List UInt8)) :=
some y44
def cR (y6 : Int) (rec7 : ((List UInt8) × Int) → Option ((List UInt8))) (y40 : List UInt8) : Option ((List UInt8)) :=
grd (okI (y6 + 1)) <|
rec7 (y40, y6 + 1)
def eK (a1 : List UInt8) (rec7 : ((List UInt8) × Int) → Option ((List UInt8))) (y4 : List UInt8) (y6 : Int) : Option ((List UInt8)) :=
bif decide (y6 < (a1.length : Int)) then
  grd (cx y6 a1.length) <|
  lt (at_ a1 y6) fun x11 =>
  bif decide (x11 = 38) then
    grd (bu (y4.length + ([38, 97, 109, 112, 59] : List UInt8).length)) <|
    lt (y4 ++ ([38, 97, 109, 112, 59] : List UInt8)) fun x16 =>
    cR y6 rec7 x16
  else
    bif decide (x11 = 60) then
      grd (bu (y4.length + ([38, 108, 116, 59] : List UInt8).length)) <|
      lt (y4 ++ ([38, 108, 116, 59] : List UInt8)) fun x21 =>
      cR y6 rec7 x21
    else
      bif decide (x11 = 62) then
        grd (bu (y4.length + ([38, 103, 116, 59] : List UInt8).length)) <|
        lt (y4 ++ ([38, 103, 116, 59] : List UInt8)) fun x26 =>
        cR y6 rec7 x26
      else
        bif decide (x11 = 34) then
          grd (bu (y4.length + ([38, 113, 117, 111, 116, 59] : List UInt8).length)) <|
          lt (y4 ++ ([38, 113, 117, 111, 116, 59] : List UInt8)) fun x31 =>
          cR y6 rec7 x31
        else
          grd (cx y6 a1.length) <|
          lt (at_ a1 y6) fun x34 =>
          grd (bu (y4.length + ([x34] : List UInt8).length)) <|
          lt (y4 ++ ([x34] : List UInt8)) fun x38 =>
          cR y6 rec7 x38
else
  eJ y4
def dh (a1 : List UInt8) (n : Nat) : ((List UInt8) × Int) → Option ((List UInt8)) :=
  loop (fun rec x => eK a1 rec x.1 x.2) n
def fh (F : Nat) (a1 : List UInt8) : Option ((List UInt8)) :=
dh a1 F ([], 0)
end Go.Pv
namespace Go.Proofs.YtjegcifofddgbaaGreatDoor
open Go.RowKit Go.Av Go.Pv
set_option maxRecDepth 100000 in
set_option maxHeartbeats 1000000 in
theorem lb (F : Nat) (a1 : List UInt8) (r2 : List UInt8) (H : fh F a1 = some r2) : ACalls Tryz.prog 12 [S a1] [] (Ret (S r2) []) := by
 unfold fh at H
 refine ax Tryz.func12 rfl rfl ?_;show AW _ _ 38 _ _ _;refine af <| aa ?_;show AR _ _ _ _ _ [0] _;refine za rfl <| ag <| af <| aa ?_;show AR _ _ _ _ _ [0] _;refine za rfl <| ag ?_
 refine dY 3 1 5 rfl fun t3 => ?_
 show AW _ _ _ _ _ ⟨(3, slE Enc.byte [] (some t3)) :: _, _, _⟩;refine bj (X := (List UInt8) × Nat) (fun (y44, t45) => ⟨[(3, slE Enc.byte y44 (some t45))], [], [.tok t45 5]⟩) (fun (y44, t45) => eJ y44 = some r2) ?_ ?_
 ·refine af <| aa ?_;show AR _ _ _ _ _ [0] _;refine za rfl <| ag <| aN <| bZ (X := Nat × (List UInt8) × Nat × Int) (fun (n8, y4, t5, y6) => ⟨[(0, S a1), (3, slE Enc.byte y4 (some t5)), (4, i64 y6)], [], [.tok t5 5]⟩) (fun (n8, y4, t5, y6) => dh a1 n8 (y4, y6) = some r2) (fun (n8, y4, t5, y6) => n8) (F, [], t3, 0) H (aO [0] (.cons (.refl _) (.cons (.refl _) (.cons (.refl _) (.nil _)))) rfl) ?_;rintro ⟨n8, y4, t5, y6⟩ H;obtain ⟨n8, rfl, H⟩ := cC H;replace H : eK a1 (dh a1 n8) y4 y6 = some r2 := H
  unfold eK at H
  refine af <| af <| aa ?_;show AR _ _ _ _ _ [0, 1, 2, 3] _;refine zm rfl <| zm rfl <| zS rfl (aU ab rfl) <| zS rfl (bz rfl rfl) <| ag <| az rfl (fun c9 => ?_) (fun c9 => ?_)
  ·replace H := aZ c9 H;refine aC <| bj (X := (List UInt8) × Nat) (fun (y40, t41) => ⟨[(0, S a1), (3, slE Enc.byte y40 (some t41)), (4, i64 y6)], [], [.tok t41 5]⟩) (fun (y40, t41) => cR y6 (dh a1 n8) y40 = some r2) ?_ ?_
   ·refine aN <| af ?_;obtain ⟨g10, H⟩ := ay H;obtain ⟨x11, e12, H⟩ := bf H;refine aa ?_;show AR _ _ _ _ _ [0, 1, 2] _;refine zm rfl <| zm rfl <| zS rfl (bg ab rfl rfl g10 e12) <| ag <| aN <| af <| aa ?_;show AR _ _ _ _ _ [0, 1] _;refine zS rfl (el (a := x11) (b := 38) rfl rfl) <| za rfl <| ag <| az rfl (fun c13 => ?_) (fun c13 => ?_)
    ·replace H := aZ c13 H;obtain ⟨g15, H⟩ := ay H;obtain ⟨x16, e17, H⟩ := bf H;refine aa ?_;show AR _ _ _ _ _ [0, 1, 2] _;refine zS rfl (aj (av := slE _ _ _) rfl) <| zX rfl (bk (bytes := 1) 0 ac ab rfl (by kernel_rfl) rfl rfl rfl rfl g15 e17) ?_;rintro _ _ ⟨t14, rfl, rfl⟩;refine zS rfl (aB (av := slE _ _ _) rfl) <| ag ?_;exact Exists.intro (x16, t14) ⟨H, aO [0] (.cons (.refl _) (.cons (.refl _) (.cons (.refl _) (.nil _)))) rfl⟩
    ·replace H := ba c13 H;refine af <| aa ?_;show AR _ _ _ _ _ [0, 1] _;refine zS rfl (el (a := x11) (b := 60) rfl rfl) <| za rfl <| ag <| az rfl (fun c18 => ?_) (fun c18 => ?_)
     ·replace H := aZ c18 H;obtain ⟨g20, H⟩ := ay H;obtain ⟨x21, e22, H⟩ := bf H;refine aa ?_;show AR _ _ _ _ _ [0, 1, 2] _;refine zS rfl (aj (av := slE _ _ _) rfl) <| zX rfl (bk (bytes := 1) 0 ac ab rfl (by kernel_rfl) rfl rfl rfl rfl g20 e22) ?_;rintro _ _ ⟨t19, rfl, rfl⟩;refine zS rfl (aB (av := slE _ _ _) rfl) <| ag ?_;exact Exists.intro (x21, t19) ⟨H, aO [0] (.cons (.refl _) (.cons (.refl _) (.cons (.refl _) (.nil _)))) rfl⟩
     ·replace H := ba c18 H;refine af <| aa ?_;show AR _ _ _ _ _ [0, 1] _;refine zS rfl (el (a := x11) (b := 62) rfl rfl) <| za rfl <| ag <| az rfl (fun c23 => ?_) (fun c23 => ?_)
      ·replace H := aZ c23 H;obtain ⟨g25, H⟩ := ay H;obtain ⟨x26, e27, H⟩ := bf H;refine aa ?_;show AR _ _ _ _ _ [0, 1, 2] _;refine zS rfl (aj (av := slE _ _ _) rfl) <| zX rfl (bk (bytes := 1) 0 ac ab rfl (by kernel_rfl) rfl rfl rfl rfl g25 e27) ?_;rintro _ _ ⟨t24, rfl, rfl⟩;refine zS rfl (aB (av := slE _ _ _) rfl) <| ag ?_;exact Exists.intro (x26, t24) ⟨H, aO [0] (.cons (.refl _) (.cons (.refl _) (.cons (.refl _) (.nil _)))) rfl⟩
      ·replace H := ba c23 H;refine af <| aa ?_;show AR _ _ _ _ _ [0, 1] _;refine zS rfl (el (a := x11) (b := 34) rfl rfl) <| za rfl <| ag <| az rfl (fun c28 => ?_) (fun c28 => ?_)
       ·replace H := aZ c28 H;obtain ⟨g30, H⟩ := ay H;obtain ⟨x31, e32, H⟩ := bf H;refine aa ?_;show AR _ _ _ _ _ [0, 1, 2] _;refine zS rfl (aj (av := slE _ _ _) rfl) <| zX rfl (bk (bytes := 1) 0 ac ab rfl (by kernel_rfl) rfl rfl rfl rfl g30 e32) ?_;rintro _ _ ⟨t29, rfl, rfl⟩;refine zS rfl (aB (av := slE _ _ _) rfl) <| ag ?_;exact Exists.intro (x31, t29) ⟨H, aO [0] (.cons (.refl _) (.cons (.refl _) (.cons (.refl _) (.nil _)))) rfl⟩
       ·replace H := ba c28 H;obtain ⟨g33, H⟩ := ay H;obtain ⟨x34, e35, H⟩ := bf H;obtain ⟨g37, H⟩ := ay H;obtain ⟨x38, e39, H⟩ := bf H;refine aa ?_;show AR _ _ _ _ _ [0, 1, 2, 3, 4, 5, 6] _;refine zS rfl (aj (av := slE _ _ _) rfl) <| zm rfl <| zm rfl <| zS rfl (bg ab rfl rfl g33 e35) <| zR rfl (bK (E := Enc.byte) (bytes := 1) (xs := [.tmp 17]) (l := ([x34] : List UInt8)) ac (by kernel_rfl) rfl rfl (by decide) rfl rfl) <| zX rfl (cz (E := Enc.byte) (bytes := 1) 0 ac ac rfl (by kernel_rfl) rfl rfl rfl rfl g37 e39) ?_;rintro _ _ ⟨t36, rfl, rfl⟩;refine zS rfl (aB (av := slE _ _ _) rfl) <| ag ?_;exact Exists.intro (x38, t36) ⟨H, aO [0] (.cons (.refl _) (.cons (.refl _) (.cons (.refl _) (.nil _)))) rfl⟩
   rintro ⟨y40, t41⟩ H;replace H : cR y6 (dh a1 n8) y40 = some r2 := H
   unfold cR at H
   obtain ⟨g43, H⟩ := ay H;refine aa ?_;show AR _ _ _ _ _ [0, 1, 2] _;refine zm rfl <| zS rfl (bo rfl rfl g43) <| za rfl <| ag ?_;exact Exists.intro (n8, y40, t41, y6 + 1) ⟨H, Nat.lt_succ_self _, aO [0] (.cons (.refl _) (.cons (.refl _) (.cons (.refl _) (.nil _)))) rfl⟩
  ·replace H := ba c9 H;refine bR ?_;exact Exists.intro (y4, t5) ⟨H, aO [0] (.cons (.refl _) (.nil _)) rfl⟩
 rintro ⟨y44, t45⟩ H;replace H : eJ y44 = some r2 := H
 unfold eJ at H
 refine af <| aa ?_;show AR _ _ _ _ _ [0, 1, 2] _;refine zS rfl (aj (av := slE _ _ _) rfl) <| zS rfl (cG ac aY ab rfl) <| za rfl <| ag <| aL ?_;obtain rfl := ap H;exact And.intro rfl (Exists.intro _ (Exists.intro _ ⟨aI rfl (.refl _), aJ [] rfl, rfl, rfl⟩))
end Go.Proofs.YtjegcifofddgbaaGreatDoor
namespace Go.Pv
def cE (a1 : List (Int × Int × (List UInt8) × (List UInt8) × (List UInt8) × (List UInt8) × Int)) (x10 : List UInt8) (y25 : Int) (y49 : Int) : Option Bool :=
grd (okI (4 * (a1.length : Int))) <|
grd (okI (2 + (4 * (a1.length : Int)))) <|
some ((decide (y25 = 2 + (4 * (a1.length : Int)))) && (decide ((x10.length : Int) = y49)))
def cD (F : Nat) (a1 : List (Int × Int × (List UInt8) × (List UInt8) × (List UInt8) × (List UInt8) × Int)) (y27 : Int) (y28 : Int) (rec29 : (Int × Int) → Option Bool) (y36 : List UInt8) : Option Bool :=
grd (okI (y27 + 25)) <|
grd (cx y28 a1.length) <|
lt (at_ a1 y28) fun x40 =>
bnd (fh F x40.2.2.2.2.1) fun x42 =>
grd (okI ((y27 + 25) + (x42.length : Int))) <|
bnd (fh F y36) fun x45 =>
grd (okI (((y27 + 25) + (x42.length : Int)) + (x45.length : Int))) <|
grd (okI (y28 + 1)) <|
rec29 (((y27 + 25) + (x42.length : Int)) + (x45.length : Int), y28 + 1)
def dp (F : Nat) (a1 : List (Int × Int × (List UInt8) × (List UInt8) × (List UInt8) × (List UInt8) × Int)) (x10 : List UInt8) (y25 : Int) (rec29 : (Int × Int) → Option Bool) (y27 : Int) (y28 : Int) : Option Bool :=
bif decide (y28 < (a1.length : Int)) then
  grd (cx y28 a1.length) <|
  lt (at_ a1 y28) fun x33 =>
  bif decide (x33.2.2.2.1 = ([] : List UInt8)) then
    cD F a1 y27 y28 rec29 ([40, 117, 110, 116, 105, 116, 108, 101, 100, 41] : List UInt8)
  else
    cD F a1 y27 y28 rec29 x33.2.2.2.1
else
  cE a1 x10 y25 y27
def cr (F : Nat) (a1 : List (Int × Int × (List UInt8) × (List UInt8) × (List UInt8) × (List UInt8) × Int)) (x10 : List UInt8) (y25 : Int) (n : Nat) : (Int × Int) → Option Bool :=
  loop (fun rec x => dp F a1 x10 y25 rec x.1 x.2) n
def cU (F : Nat) (a1 : List (Int × Int × (List UInt8) × (List UInt8) × (List UInt8) × (List UInt8) × Int)) (x10 : List UInt8) (y25 : Int) : Option Bool :=
cr F a1 x10 y25 F (11, 0)
def cT (y13 : Int) (rec14 : (Int × Int) → Option Bool) (y22 : Int) : Option Bool :=
grd (okI (y13 + 1)) <|
rec14 (y22, y13 + 1)
def dn (F : Nat) (a1 : List (Int × Int × (List UInt8) × (List UInt8) × (List UInt8) × (List UInt8) × Int)) (x10 : List UInt8) (rec14 : (Int × Int) → Option Bool) (y12 : Int) (y13 : Int) : Option Bool :=
bif decide (y13 < (x10.length : Int)) then
  grd (cx y13 x10.length) <|
  lt (at_ x10 y13) fun x18 =>
  bif decide (x18 = 60) then
    grd (okI (y12 + 1)) <|
    cT y13 rec14 (y12 + 1)
  else
    cT y13 rec14 y12
else
  cU F a1 x10 y12
def cF (F : Nat) (a1 : List (Int × Int × (List UInt8) × (List UInt8) × (List UInt8) × (List UInt8) × Int)) (x10 : List UInt8) (n : Nat) : (Int × Int) → Option Bool :=
  loop (fun rec x => dn F a1 x10 rec x.1 x.2) n
def dV (F : Nat) (a1 : List (Int × Int × (List UInt8) × (List UInt8) × (List UInt8) × (List UInt8) × Int)) : Option Bool :=
bnd (gK F) fun x4 =>
bnd (iH F a1 12) fun x6 =>
bif (!x4) || (!x6) then
  some x4
else
  bnd (jk F a1) fun x10 =>
  cF F a1 x10 F (0, 0)
end Go.Pv
namespace Go.Proofs.YtjegcifofddgbaaGreatDoor
open Go.RowKit Go.Av Go.Pv
theorem nM : ∀ (args : Array Value) (w : World), (callFunc 9 args).run Tryz.prog w = .ok (.enter 9 args) w := fun _ _ => by kernel_rfl
theorem nd : ∀ (args : Array Value) (w : World), (callFunc 10 args).run Tryz.prog w = .ok (.enter 10 args) w := fun _ _ => by kernel_rfl
theorem nc : ∀ (args : Array Value) (w : World), (callFunc 11 args).run Tryz.prog w = .ok (.enter 11 args) w := fun _ _ => by kernel_rfl
theorem jm : ∀ (args : Array Value) (w : World), (callFunc 12 args).run Tryz.prog w = .ok (.enter 12 args) w := fun _ _ => by kernel_rfl
set_option maxRecDepth 100000 in
set_option maxHeartbeats 1000000 in
theorem lU (F : Nat) (a1 : List (Int × Int × (List UInt8) × (List UInt8) × (List UInt8) × (List UInt8) × Int)) (q2 : Option Nat) (r3 : Bool) (H : dV F a1 = some r3) : ACalls Tryz.prog 3 [slE (Enc.prod Enc.int (Enc.prod Enc.int (Enc.prod Enc.str (Enc.prod Enc.str (Enc.prod Enc.str (Enc.prod Enc.str Enc.int)))))) a1 q2] [] (Ret (B r3) []) := by
 unfold dV at H
 refine ax Tryz.func3 rfl rfl ?_;show AW _ _ 76 _ _ _;refine af <| aa ?_;show AR _ _ _ _ _ [0] _;refine za rfl <| ag <| af ?_;obtain ⟨x4, e5, H⟩ := bN H;refine aa ?_;show AR _ _ _ _ _ [0, 1] _;refine aq rfl rfl (aD rfl nM rfl (qo F x4 e5) ?_);refine za rfl <| ag <| af ?_;obtain ⟨x6, e7, H⟩ := bN H;refine aa ?_;show AR _ _ _ _ _ [0, 1, 2] _;refine zS rfl (aj (av := slE _ _ _) rfl) <| aq rfl rfl (aD rfl nd rfl (so F a1 q2 12 x6 e7) ?_);refine za rfl <| ag <| af <| af <| aa ?_;show AR _ _ _ _ _ [0, 1, 2, 3, 4, 5] _;refine zm rfl <| zS rfl (cn rfl) <| zm rfl <| bb (l := []) 19 (B ((!x4) || (!x6))) (fun K => ?_) ?_
 ·rcases ak (!x4) with h8 | h8
  ·refine zF h8 rfl <| zF h8 rfl <| zS rfl (aG (av := .v _) rfl h8 rfl) ?_;exact K _ 2 _ (aA (fF h8)) rfl rfl
  ·refine zM h8 rfl <| zU h8 rfl (cn rfl) <| zS rfl (aF (av := .v _) rfl h8 rfl) ?_;exact K _ 2 _ (aA (fG h8)) rfl rfl
 refine ag <| az rfl (fun c9 => ?_) (fun c9 => ?_)
 ·replace H := aZ c9 H;refine af <| aa ?_;show AR _ _ _ _ _ [0, 1] _;refine zm rfl <| za rfl <| ag <| aL ?_;obtain rfl := ap H;exact And.intro rfl (Exists.intro _ (Exists.intro _ ⟨aI rfl (.refl _), aJ [] rfl, rfl, rfl⟩))
 ·replace H := ba c9 H;refine aC <| af ?_;obtain ⟨x10, e11, H⟩ := bN H;refine aa ?_;show AR _ _ _ _ _ [0, 1, 2] _;refine zS rfl (aj (av := slE _ _ _) rfl) <| aq rfl rfl (aD rfl nc rfl (mu F a1 q2 x10 e11) ?_);refine za rfl <| ag <| af <| aa ?_;show AR _ _ _ _ _ [0] _;refine za rfl <| ag <| bj (X := Int) (fun y25 => ⟨[(0, slE (Enc.prod Enc.int (Enc.prod Enc.int (Enc.prod Enc.str (Enc.prod Enc.str (Enc.prod Enc.str (Enc.prod Enc.str Enc.int)))))) a1 q2), (5, S x10), (6, i64 y25)], [], []⟩) (fun y25 => cU F a1 x10 y25 = some r3) ?_ ?_
  ·refine af <| aa ?_;show AR _ _ _ _ _ [0] _;refine za rfl <| ag <| aN <| bZ (X := Nat × Int × Int) (fun (n15, y12, y13) => ⟨[(0, slE (Enc.prod Enc.int (Enc.prod Enc.int (Enc.prod Enc.str (Enc.prod Enc.str (Enc.prod Enc.str (Enc.prod Enc.str Enc.int)))))) a1 q2), (5, S x10), (6, i64 y12), (7, i64 y13)], [], []⟩) (fun (n15, y12, y13) => cF F a1 x10 n15 (y12, y13) = some r3) (fun (n15, y12, y13) => n15) (F, 0, 0) H (aO [] (.cons (.refl _) (.cons (.refl _) (.cons (.refl _) (.cons (.refl _) (.nil _))))) rfl) ?_;rintro ⟨n15, y12, y13⟩ H;obtain ⟨n15, rfl, H⟩ := cC H;replace H : dn F a1 x10 (cF F a1 x10 n15) y12 y13 = some r3 := H
   unfold dn at H
   refine af <| af <| aa ?_;show AR _ _ _ _ _ [0, 1, 2, 3] _;refine zm rfl <| zm rfl <| zS rfl (aU ab rfl) <| zS rfl (bz rfl rfl) <| ag <| az rfl (fun c16 => ?_) (fun c16 => ?_)
   ·replace H := aZ c16 H;refine aC <| bj (X := Int) (fun y22 => ⟨[(0, slE (Enc.prod Enc.int (Enc.prod Enc.int (Enc.prod Enc.str (Enc.prod Enc.str (Enc.prod Enc.str (Enc.prod Enc.str Enc.int)))))) a1 q2), (5, S x10), (6, i64 y22), (7, i64 y13)], [], []⟩) (fun y22 => cT y13 (cF F a1 x10 n15) y22 = some r3) ?_ ?_
    ·refine aN <| af ?_;obtain ⟨g17, H⟩ := ay H;obtain ⟨x18, e19, H⟩ := bf H;refine aa ?_;show AR _ _ _ _ _ [0, 1, 2, 3] _;refine zm rfl <| zm rfl <| zS rfl (bg ab rfl rfl g17 e19) <| zS rfl (el (a := x18) (b := 60) rfl rfl) <| ag <| az rfl (fun c20 => ?_) (fun c20 => ?_)
     ·replace H := aZ c20 H;obtain ⟨g21, H⟩ := ay H;refine aa ?_;show AR _ _ _ _ _ [0, 1, 2] _;refine zm rfl <| zS rfl (bo rfl rfl g21) <| za rfl <| ag ?_;exact Exists.intro (y12 + 1) ⟨H, aO [] (.cons (.refl _) (.cons (.refl _) (.cons (.refl _) (.cons (.refl _) (.nil _))))) rfl⟩
     ·replace H := ba c20 H;refine aC ?_;exact Exists.intro y12 ⟨H, aO [] (.cons (.refl _) (.cons (.refl _) (.cons (.refl _) (.cons (.refl _) (.nil _))))) rfl⟩
    rintro y22 H;replace H : cT y13 (cF F a1 x10 n15) y22 = some r3 := H
    unfold cT at H
    obtain ⟨g24, H⟩ := ay H;refine aa ?_;show AR _ _ _ _ _ [0, 1, 2] _;refine zm rfl <| zS rfl (bo rfl rfl g24) <| za rfl <| ag ?_;exact Exists.intro (n15, y22, y13 + 1) ⟨H, Nat.lt_succ_self _, aO [] (.cons (.refl _) (.cons (.refl _) (.cons (.refl _) (.cons (.refl _) (.nil _))))) rfl⟩
   ·replace H := ba c16 H;refine bR ?_;exact Exists.intro y12 ⟨H, aO [] (.cons (.refl _) (.cons (.refl _) (.cons (.refl _) (.nil _)))) rfl⟩
  rintro y25 H;replace H : cU F a1 x10 y25 = some r3 := H
  unfold cU at H
  refine af <| aa ?_;show AR _ _ _ _ _ [0] _;refine za rfl <| ag <| bj (X := Int) (fun y49 => ⟨[(0, slE (Enc.prod Enc.int (Enc.prod Enc.int (Enc.prod Enc.str (Enc.prod Enc.str (Enc.prod Enc.str (Enc.prod Enc.str Enc.int)))))) a1 q2), (5, S x10), (6, i64 y25), (8, i64 y49)], [], []⟩) (fun y49 => cE a1 x10 y25 y49 = some r3) ?_ ?_
  ·refine af <| aa ?_;show AR _ _ _ _ _ [0] _;refine za rfl <| ag <| aN <| bZ (X := Nat × Int × Int) (fun (n30, y27, y28) => ⟨[(0, slE (Enc.prod Enc.int (Enc.prod Enc.int (Enc.prod Enc.str (Enc.prod Enc.str (Enc.prod Enc.str (Enc.prod Enc.str Enc.int)))))) a1 q2), (5, S x10), (6, i64 y25), (8, i64 y27), (9, i64 y28)], [], []⟩) (fun (n30, y27, y28) => cr F a1 x10 y25 n30 (y27, y28) = some r3) (fun (n30, y27, y28) => n30) (F, 11, 0) H (aO [] (.cons (.refl _) (.cons (.refl _) (.cons (.refl _) (.cons (.refl _) (.cons (.refl _) (.nil _)))))) rfl) ?_;rintro ⟨n30, y27, y28⟩ H;obtain ⟨n30, rfl, H⟩ := cC H;replace H : dp F a1 x10 y25 (cr F a1 x10 y25 n30) y27 y28 = some r3 := H
   unfold dp at H
   refine af <| af <| aa ?_;show AR _ _ _ _ _ [0, 1, 2, 3] _;refine zm rfl <| zS rfl (aj (av := slE _ _ _) rfl) <| zS rfl (aR bI rfl) <| zS rfl (bz rfl rfl) <| ag <| az rfl (fun c31 => ?_) (fun c31 => ?_)
   ·replace H := aZ c31 H;refine aC <| af <| aN <| af ?_;obtain ⟨g32, H⟩ := ay H;obtain ⟨x33, e34, H⟩ := bf H;refine aa ?_;show AR _ _ _ _ _ [0, 1, 2, 3, 4, 5, 6] _;refine zS rfl (aj (av := slE _ _ _) rfl) <| zm rfl <| zS rfl (ca (E := (Enc.prod Enc.int (Enc.prod Enc.int (Enc.prod Enc.str (Enc.prod Enc.str (Enc.prod Enc.str (Enc.prod Enc.str Enc.int))))))) bI (by kernel_rfl) rfl rfl g32 e34) <| zS rfl (aQ (n := 2) (by kernel_rfl) rfl (ai rfl)) <| zS rfl (aQ (n := 1) (by kernel_rfl) rfl (ai rfl)) <| zS rfl (aH ab rfl rfl) <| za rfl <| ag <| bj (X := (List UInt8)) (fun y36 => ⟨[(0, slE (Enc.prod Enc.int (Enc.prod Enc.int (Enc.prod Enc.str (Enc.prod Enc.str (Enc.prod Enc.str (Enc.prod Enc.str Enc.int)))))) a1 q2), (5, S x10), (6, i64 y25), (8, i64 y27), (9, i64 y28), (10, S y36)], [], []⟩) (fun y36 => cD F a1 y27 y28 (cr F a1 x10 y25 n30) y36 = some r3) ?_ ?_
    ·refine af <| aa ?_;show AR _ _ _ _ _ [0, 1] _;refine zm rfl <| zS rfl (eN rfl rfl) <| ag <| az rfl (fun c35 => ?_) (fun c35 => ?_)
     ·replace H := aZ c35 H;refine aa ?_;show AR _ _ _ _ _ [0] _;refine za rfl <| ag ?_;exact Exists.intro ([40, 117, 110, 116, 105, 116, 108, 101, 100, 41] : List UInt8) ⟨H, aO [] (.cons (.refl _) (.cons (.refl _) (.cons (.refl _) (.cons (.refl _) (.cons (.refl _) (.cons (.refl _) (.nil _))))))) rfl⟩
     ·replace H := ba c35 H;refine aC ?_;exact Exists.intro x33.2.2.2.1 ⟨H, aO [] (.cons (.refl _) (.cons (.refl _) (.cons (.refl _) (.cons (.refl _) (.cons (.refl _) (.cons (.refl _) (.nil _))))))) rfl⟩
    rintro y36 H;replace H : cD F a1 y27 y28 (cr F a1 x10 y25 n30) y36 = some r3 := H
    unfold cD at H
    obtain ⟨g38, H⟩ := ay H;obtain ⟨g39, H⟩ := ay H;obtain ⟨x40, e41, H⟩ := bf H;obtain ⟨x42, e43, H⟩ := bN H;obtain ⟨g44, H⟩ := ay H;obtain ⟨x45, e46, H⟩ := bN H;obtain ⟨g47, H⟩ := ay H;refine aa ?_;show AR _ _ _ _ _ [0, 1, 2, 3, 4, 5, 6, 7, 8, 9, 10, 11, 12, 13, 14, 15] _;refine zm rfl <| zS rfl (bo rfl rfl g38) <| zS rfl (aj (av := slE _ _ _) rfl) <| zm rfl <| zS rfl (ca (E := (Enc.prod Enc.int (Enc.prod Enc.int (Enc.prod Enc.str (Enc.prod Enc.str (Enc.prod Enc.str (Enc.prod Enc.str Enc.int))))))) bI (by kernel_rfl) rfl rfl g39 e41) <| zS rfl (aQ (n := 2) (by kernel_rfl) rfl (ai rfl)) <| zS rfl (aQ (n := 2) (by kernel_rfl) rfl (ai rfl)) <| zS rfl (aH ab rfl rfl) <| aq rfl rfl (aD rfl jm rfl (lb F x40.2.2.2.2.1 x42 e43) ?_);refine zS rfl (aU ab rfl) <| zS rfl (bo rfl rfl g44) <| zm rfl <| aq rfl rfl (aD rfl jm rfl (lb F y36 x45 e46) ?_);refine zS rfl (aU ab rfl) <| zS rfl (bo rfl rfl g47) <| za rfl <| ag ?_;obtain ⟨g48, H⟩ := ay H;refine aa ?_;show AR _ _ _ _ _ [0, 1, 2] _;refine zm rfl <| zS rfl (bo rfl rfl g48) <| za rfl <| ag ?_;exact Exists.intro (n30, ((y27 + 25) + (x42.length : Int)) + (x45.length : Int), y28 + 1) ⟨H, Nat.lt_succ_self _, aO [] (.cons (.refl _) (.cons (.refl _) (.cons (.refl _) (.cons (.refl _) (.cons (.refl _) (.nil _)))))) rfl⟩
   ·replace H := ba c31 H;refine bR ?_;exact Exists.intro y27 ⟨H, aO [] (.cons (.refl _) (.cons (.refl _) (.cons (.refl _) (.cons (.refl _) (.nil _))))) rfl⟩
  rintro y49 H;replace H : cE a1 x10 y25 y49 = some r3 := H
  unfold cE at H
  refine af ?_;obtain ⟨g51, H⟩ := ay H;obtain ⟨g52, H⟩ := ay H;refine aa ?_;show AR _ _ _ _ _ [0, 1, 2, 3, 4, 5, 6, 7, 8, 9, 10, 11, 12] _;refine zm rfl <| zS rfl (aj (av := slE _ _ _) rfl) <| zS rfl (aR bI rfl) <| zS rfl (ib rfl rfl g51) <| zS rfl (bo rfl rfl g52) <| zS rfl (cw rfl rfl) <| zm rfl <| bb (l := [12]) 75 (B ((decide (y25 = 2 + (4 * (a1.length : Int)))) && (decide ((x10.length : Int) = y49)))) (fun K => ?_) ?_
  ·rcases ak (decide (y25 = 2 + (4 * (a1.length : Int)))) with h53 | h53
   ·refine zM h53 rfl <| zU h53 rfl (aU ab rfl) <| zM h53 rfl <| zU h53 rfl (cw rfl rfl) <| zS rfl (aG (av := .v _) rfl h53 rfl) ?_;exact K _ 4 _ (aA (co h53)) rfl rfl
   ·refine zF h53 rfl <| zF h53 rfl <| zF h53 rfl <| zF h53 rfl <| zS rfl (aF (av := .v _) rfl h53 rfl) ?_;exact K _ 4 _ (aA (cq h53)) rfl rfl
  refine za rfl <| ag <| aL ?_;obtain rfl := ap H;exact And.intro rfl (Exists.intro _ (Exists.intro _ ⟨aI rfl (.refl _), aJ [] rfl, rfl, rfl⟩))
end Go.Proofs.YtjegcifofddgbaaGreatDoor
namespace Go.Dg
open Go.Pv Go.Av
open Go.Lib (decDigits)
abbrev Bs := List UInt8
def val (v : Nat) : Bs → Nat
  | [] => v
  | c :: r => val (10 * v + (c.toNat - 48)) r
end Go.Dg
namespace Go.Dg
open Go.Pv Go.Av
open Go.Lib (decDigits)
theorem fo (x : Bool) : (false || x) = x := Eq.symm (Eq.symm rfl)
theorem nfl : (!false) = true := Eq.symm (Eq.symm rfl)
theorem ntr : (!true) = false := Eq.symm (Eq.symm rfl)
theorem cfl {α : Type} (a b : α) : (bif false then a else b) = b := Eq.symm (Eq.symm rfl)
theorem ctr {α : Type} (a b : α) : (bif true then a else b) = a := Eq.symm (Eq.symm rfl)
def tl : Bs := [64, 109, 97, 105, 108, 99, 111, 97, 99, 104, 62]
def okId (sub no : Int) : Prop := (0 ≤ sub ∧ sub ≤ 7) ∧ (1 ≤ no ∧ no ≤ 1073741824)
instance (sub no : Int) : Decidable (okId sub no) := by unfold okId; exact inferInstance
end Go.Dg
namespace Go.Pn
open Go.Pv Go.Av
abbrev Bs := List UInt8
def bl (c : UInt8) : Bool := (((decide (c = 9)) || (decide (c = 10))) || (decide (c = 13))) || (decide (c = 32))
mutual
/-- Behind a sign. -/
def T1 : Bs → Bs
  | [] => []
  | c :: r => bif bl c then T2 r else c :: T1 r
/-- In a gap behind a sign. -/
def T2 : Bs → Bs
  | [] => []
  | c :: r => bif bl c then T2 r else 32 :: c :: T1 r
end
def trim : Bs → Bs
  | [] => []
  | c :: r => bif bl c then trim r else c :: T1 r
def tl (out : Bs) (gap : Bool) (r : Bs) : Bs := if out = [] then trim r else bif gap then T2 r else T1 r
end Go.Pn
namespace Go.Pn
open Go.Pv Go.Av
def ke (c : UInt8) : Option Bs := if c = 38 then some [38, 97, 109, 112, 59] else if c = 60 then some [38, 108, 116, 59] else if c = 62 then some [38, 103, 116, 59] else if c = 34 then some [38, 113, 117, 111, 116, 59] else none
def e1 (c : UInt8) : Bs := (ke c).getD [c]
def enc (s : Bs) : Bs := s.flatMap e1
theorem of_all8 (p : UInt8 → Bool) (h : ∀ k : Fin 256, p (UInt8.ofNat k.val) = true) (b : UInt8) : p b = true := by
  have := h ⟨b.toNat, b.toNat_lt⟩
  simpa using this
theorem vj (c : UInt8) : at_ gY (c.toNat : Int) = ke c := by
  have := of_all8 (fun c => at_ gY (c.toNat : Int) == ke c) (by decide +kernel) c
  simpa using this
theorem tab_ne (c : UInt8) : decide (ke c ≠ some []) = true := by
  have := of_all8 (fun c => decide (ke c ≠ some [])) (by decide +kernel) c
  exact this
theorem rS (c : UInt8) : 1 ≤ (e1 c).length ∧ (e1 c).length ≤ 6 := by
  have := of_all8 (fun c => decide (1 ≤ (e1 c).length ∧ (e1 c).length ≤ 6)) (by decide +kernel) c
  exact of_decide_eq_true this
theorem tI {c : UInt8} (h : (ke c).isNone = false) : (ke c).getD [] = e1 c := by
  unfold e1
  cases hc : ke c with
  | none => rw [hc] at h; cases h
  | some l => rfl
theorem pP {c : UInt8} (h : (ke c).isNone = true) : e1 c = [c] := by
  unfold e1
  cases hc : ke c with
  | none => rfl
  | some l => rw [hc] at h; cases h
def dl (s : Bs) : Int := ((enc s).length : Int) - s.length
def sps (s : Bs) : Bool := s.any fun c => !(ke c).isNone
theorem jj (c : UInt8) (r : Bs) : enc (c :: r) = e1 c ++ enc r := rfl
theorem kT (s : Bs) : s.length ≤ (enc s).length ∧ (enc s).length ≤ 6 * s.length := by
  induction s with
  | nil => simp [enc]
  | cons c r ih =>
    have := rS c
    rw [jj]
    simp only [List.length_append, List.length_cons]
    omega
theorem enc_no {s : Bs} (h : sps s = false) : enc s = s := by
  induction s with
  | nil => rfl
  | cons c r ih =>
    simp only [sps, List.any_cons, Bool.or_eq_false_iff, Bool.not_eq_false'] at h
    rw [jj, pP h.1, ih h.2]; rfl
theorem pS (c : UInt8) (r : Bs) : sps (c :: r) = (!(ke c).isNone || sps r) := rfl
theorem lay_loop (s : Bs) (hs : s.length ≤ 1000) (n : Int) (hn : 0 ≤ n ∧ n ≤ 10000) : ∀ (k i : Nat) (done buf : Bs), s.length - i < k → i ≤ s.length → (buf.length : Int) = n → buf.take done.length = done → (done.length : Int) + (enc (s.drop i)).length = n →
    ee s n k ((done.length : Int), (i : Int), buf) = some (done ++ enc (s.drop i)) := by
  intro k
  induction k with
  | zero => intro i done buf h; omega
  | succ k ih =>
    intro i done buf hk hi hb ht hl;show fv s n (ee s n k) (done.length : Int) (i : Int) buf = _
    unfold fv ft eS
    have hnn : (n.toNat : Int) = n := Int.toNat_of_nonneg hn.1
    by_cases h : i < s.length
    · have hd : s.drop i = s[i] :: s.drop (i + 1) := bE h
      have h8 := s[i].toNat_lt
      have htl := rS s[i]
      have hd1 : (done.length : Int).toNat = done.length := Int.toNat_natCast _
      rw [hd, jj] at hl ⊢
      simp only [List.length_append] at hl
      have hgA : ∀ q : Option Bs, grd (cx (s[i].toNat : Int) 256) q = q := fun q => fp (by omega)
      rw [bT (by omega), fp (by omega), dZ, kU h, hgA, dZ, vj, tab_ne, grd_t]
      cases hc : (ke s[i]).isNone with
      | false =>
        have e := tI hc
        simp only [Bool.not_false, cond_true]
        rw [ua (by omega), hgA, dZ, e, hd1]
        rw [ua (by omega), ua (by omega), dZ, ek (by omega), ek (by omega), ht]
        have hlen : (done ++ e1 s[i]).length = done.length + (e1 s[i]).length := by simp
        have ec : (done.length : Int) + ((e1 s[i]).length : Int) = ((done ++ e1 s[i]).length : Int) := by rw [hlen]; omega
        rw [ec, cY, ih (i + 1) (done ++ e1 s[i]) _ (by omega) (by omega) (by simp; omega) (by rw [List.take_append_of_le_length (Nat.le_refl _), List.take_length]) (by rw [hlen]; omega)]
        simp
      | true =>
        have e := pP hc
        rw [e] at hl ⊢
        simp only [List.length_singleton] at hl
        simp only [Bool.not_true, cond_false]
        rw [fp (by omega), fp (by omega), dZ, ek (by omega), ek (by omega), hd1]
        have ec : (done.length : Int) + 1 = ((done ++ [s[i]]).length : Int) := by simp
        have hlt : done.length < buf.length := by omega
        have et : (buf.set done.length s[i]).take (done ++ [s[i]]).length = done ++ [s[i]] := by
          rw [List.length_append, List.length_singleton, List.take_succ_eq_append_getElem (by simpa using hlt), List.take_set_of_le (Nat.le_refl _), ht]
          simp
        rw [ec, cY, ih (i + 1) (done ++ [s[i]]) _ (by omega) (by omega) (by simpa using hb) et (by simp; omega)]
        simp
    · have hi2 : s.drop i = [] := bt (by omega)
      rw [hi2] at hl ⊢
      rw [bF (by omega), ua (by omega)]
      have hbl : buf.length = done.length := by simp [enc] at hl; omega
      rw [← hbl, List.take_length] at ht
      rw [ht]; simp [enc]
theorem j3_eq (F : Nat) (s : Bs) (hs : s.length ≤ 1000) (hF : 1000 < F) : dk F s ((s.length : Int) + dl s) (sps s) = some (enc s) := by
  have hl := kT s
  unfold dk dl
  have e : (s.length : Int) + (((enc s).length : Int) - s.length) = (enc s).length := by omega
  rw [e]
  cases h : sps s with
  | false => rw [enc_no h, Bool.not_false, cond_true]
  | true =>
    rw [Bool.not_true, cond_false, fp (by omega)]
    have := lay_loop s hs ((enc s).length : Int) (by omega) F 0 [] (List.replicate (Int.toNat ((enc s).length : Int)) 0) (by omega) (by omega) (by simp) (by simp) (by simp)
    simpa using this
theorem vB (c : UInt8) (r : Bs) : dl (c :: r) = ((e1 c).length : Int) - 1 + dl r := by
  unfold dl; rw [jj]; simp; omega
theorem up (F : Nat) (hF : 1000 < F) (s : Bs) (hs : s.length ≤ 1000) : ∀ (k i : Nat) (n : Int) (an : Bool), s.length - i < k → i ≤ s.length → 0 ≤ n ∧ n ≤ 1000 + 6 * i →
    ed F s k (n, an, (i : Int)) = dk F s (n + dl (s.drop i)) (an || sps (s.drop i)) := by
  intro k
  induction k with
  | zero => intro i n an h; omega
  | succ k ih =>
    intro i n an hk hi hn;show fu F s (ed F s k) n an (i : Int) = _
    unfold fu eQ
    by_cases h : i < s.length
    · have hd : s.drop i = s[i] :: s.drop (i + 1) := bE h
      have h8 := s[i].toNat_lt
      have htl := rS s[i]
      have hgA : ∀ q : Option Bs, grd (cx (s[i].toNat : Int) 256) q = q := fun q => fp (by omega)
      rw [bT (by omega), fp (by omega), dZ, kU h, hgA, dZ, vj, tab_ne, grd_t, hd, vB]
      cases hc : (ke s[i]).isNone with
      | false =>
        have e := tI hc
        have es := pS s[i] (s.drop (i + 1))
        rw [hc, Bool.not_false, Bool.true_or] at es
        rw [Bool.not_false, cond_true, hgA, dZ, e, ek (by omega), ek (by omega), ek (by omega), cY, ih (i + 1) _ _ (by omega) (by omega) (by omega), es, Bool.true_or, Bool.or_true]
        congr 1; omega
      | true =>
        have e := pP hc
        have es := pS s[i] (s.drop (i + 1))
        rw [hc, Bool.not_true, Bool.false_or] at es
        rw [Bool.not_true, cond_false, ek (by omega), cY, ih (i + 1) _ _ (by omega) (by omega) (by omega), es, e]
        congr 1; simp
    · have hi2 : s.drop i = [] := bt (by omega)
      rw [bF (by omega), hi2]
      have : dl [] = 0 := rfl
      rw [this]; simp [sps]
end Go.Pn
namespace Go.Pn
open Go.Pv Go.Av
def ct (c : UInt8) (s : Bs) : Nat := s.count c
theorem ph (a c : UInt8) (s : Bs) : ct a (c :: s) = ct a s + if c = a then 1 else 0 := by
  unfold ct
  rw [List.count_cons]
  by_cases h : c = a <;> simp [h]
theorem tab_no {c : UInt8} (h1 : c ≠ 38) (h2 : c ≠ 60) (h3 : c ≠ 62) (h4 : c ≠ 34) : ke c = none := by
  unfold ke
  rw [if_neg h1, if_neg h2, if_neg h3, if_neg h4]
theorem tots (s : Bs) : dl s = (ct 34 s : Int) * 5 + (ct 62 s : Int) * 3 + (ct 60 s : Int) * 3 + (ct 38 s : Int) * 4 ∧ sps s = decide (0 < ct 34 s + ct 62 s + ct 60 s + ct 38 s) := by
  induction s with
  | nil => exact ⟨rfl, rfl⟩
  | cons c r ih =>
    obtain ⟨i1, i2⟩ := ih
    rw [vB, pS, i1, i2, ph 34, ph 62, ph 60, ph 38]
    by_cases h1 : c = 38
    · have e : (e1 c).length = 5 := by rw [h1]; rfl
      have f : (ke c).isNone = false := by rw [h1]; rfl
      rw [e, f, Bool.not_false, Bool.true_or, if_neg (show ¬ c = 34 by rw [h1]; decide), if_neg (show ¬ c = 62 by rw [h1]; decide), if_neg (show ¬ c = 60 by rw [h1]; decide), if_pos h1]
      exact ⟨by omega, Eq.symm (decide_eq_true (by omega))⟩
    by_cases h2 : c = 60
    · have e : (e1 c).length = 4 := by rw [h2]; rfl
      have f : (ke c).isNone = false := by rw [h2]; rfl
      rw [e, f, Bool.not_false, Bool.true_or, if_neg (show ¬ c = 34 by rw [h2]; decide), if_neg (show ¬ c = 62 by rw [h2]; decide), if_pos h2, if_neg h1]
      exact ⟨by omega, Eq.symm (decide_eq_true (by omega))⟩
    by_cases h3 : c = 62
    · have e : (e1 c).length = 4 := by rw [h3]; rfl
      have f : (ke c).isNone = false := by rw [h3]; rfl
      rw [e, f, Bool.not_false, Bool.true_or, if_neg (show ¬ c = 34 by rw [h3]; decide), if_pos h3, if_neg h2, if_neg h1]
      exact ⟨by omega, Eq.symm (decide_eq_true (by omega))⟩
    by_cases h4 : c = 34
    · have e : (e1 c).length = 6 := by rw [h4]; rfl
      have f : (ke c).isNone = false := by rw [h4]; rfl
      rw [e, f, Bool.not_false, Bool.true_or, if_pos h4, if_neg h3, if_neg h2, if_neg h1]
      exact ⟨by omega, Eq.symm (decide_eq_true (by omega))⟩
    · have f := tab_no h1 h2 h3 h4
      have e : (e1 c).length = 1 := by unfold e1; rw [f]; rfl
      have f' : (ke c).isNone = true := by rw [f]; rfl
      rw [e, f', Bool.not_true, Bool.false_or, if_neg h1, if_neg h2, if_neg h3, if_neg h4]
      exact ⟨by omega, rfl⟩
theorem lR (F : Nat) (s : Bs) (hs : s.length ≤ 1000) (k i : Nat) (c : UInt8) (l : Bs) (n : Int) (an : Bool) (hi : i < 4) (he : at_ entRep (i : Int) = [c]) (ht : ke c = some l) (hl : 1 ≤ l.length ∧ l.length ≤ 6) (hn : 0 ≤ n ∧ n ≤ 1000000) :
    cI F s (k + 1) (n, an, (i : Int)) = cI F s k (n + (ct c s : Int) * ((l.length : Int) - 1), an || decide (0 < ct c s), ((i + 1 : Nat) : Int)) := by
  show ef F s (cI F s k) n an (i : Int) = _
  unfold ef eR
  have hc : ct c s ≤ s.length := List.count_le_length
  have h8 := c.toNat_lt
  have hcb : Go.Lib.countByte s (at_ [c] 0) = ct c s := rfl
  have h4 : entRep.length = 4 := rfl
  rw [bT (by omega), fp (by omega), dZ, he, ua (by simp), dZ, hcb]
  generalize ct c s = q at hc ⊢
  have hm : 0 ≤ (q : Int) * ((l.length : Int) - 1) ∧ (q : Int) * ((l.length : Int) - 1) ≤ 1000 * 5 := by
    refine ⟨Int.mul_nonneg (by omega) (by omega), ?_⟩;exact Int.mul_le_mul (by omega) (by omega) (by omega) (by omega)
  by_cases h0 : q = 0
  · rw [h0, decide_eq_true (show ((0 : Nat) : Int) = 0 from rfl), Bool.not_true, cond_false, ek (by omega), cY]
    rw [decide_eq_false (show ¬ 0 < 0 by omega), Bool.or_false]
    have : n + ((0 : Nat) : Int) * ((l.length : Int) - 1) = n := by simp
    rw [this]
  · have a0 : at_ [c] 0 = c := rfl
    rw [decide_eq_false (show ¬ ((q : Int) = 0) by omega), Bool.not_false, cond_true, fp (by simp), dZ, a0, fp (by omega), dZ, vj, ht]
    have e : (Option.getD (some l) [] : Bs) = l := rfl
    rw [e, ek (by omega), ek (by omega), ek (by omega), ek (by omega), cY, decide_eq_true (show 0 < q by omega), Bool.or_true]
theorem long_end (F : Nat) (s : Bs) (k : Nat) (n : Int) (an : Bool) : cI F s (k + 1) (n, an, ((4 : Nat) : Int)) = dk F s n an := by
  show ef F s (cI F s k) n an ((4 : Nat) : Int) = _
  unfold ef
  have h4 : entRep.length = 4 := rfl
  rw [bF (by omega)]
theorem vl (F : Nat) (hF : 1000 < F) (s : Bs) (hs : s.length ≤ 1000) : fc F s = some (enc s) := by
  have h4 : entRep.length = 4 := rfl
  unfold fc
  rw [ek (by omega)]
  by_cases hL : (entRep.length : Int) * 8 ≤ (s.length : Int)
  · rw [bT hL]
    obtain ⟨k, hk⟩ : ∃ k, F = k + 1 + 1 + 1 + 1 + 1 := ⟨F - 5, by omega⟩
    have c1 : ct 34 s ≤ s.length := List.count_le_length
    have c2 : ct 62 s ≤ s.length := List.count_le_length
    have c3 : ct 60 s ≤ s.length := List.count_le_length
    have e0 : cI F s F ((s.length : Int), false, 0) = cI F s (k + 1 + 1 + 1 + 1 + 1) ((s.length : Int), false, ((0 : Nat) : Int)) := by rw [← hk]; rfl
    rw [e0, lR F s hs _ 0 34 [38, 113, 117, 111, 116, 59] _ _ (by omega) rfl rfl (by decide) (by omega), lR F s hs _ 1 62 [38, 103, 116, 59] _ _ (by omega) rfl rfl (by decide) (by simp; omega),
      lR F s hs _ 2 60 [38, 108, 116, 59] _ _ (by omega) rfl rfl (by decide) (by simp; omega), lR F s hs _ 3 38 [38, 97, 109, 112, 59] _ _ (by omega) rfl rfl (by decide) (by simp; omega)]
    refine (long_end F s k _ _).trans ?_;obtain ⟨t1, t2⟩ := tots s
    have := j3_eq F s hs hF
    rw [t1, t2] at this
    rw [← this]
    have ea : ((((false || decide (0 < ct 34 s)) || decide (0 < ct 62 s)) || decide (0 < ct 60 s)) || decide (0 < ct 38 s)) = decide (0 < ct 34 s + ct 62 s + ct 60 s + ct 38 s) := by
      rw [Bool.eq_iff_iff]
      simp only [Bool.false_or, Bool.or_eq_true, decide_eq_true_iff]
      omega
    rw [ea]
    congr 1
    simp
    omega
  · rw [bF hL]
    have := up F hF s hs F 0 (s.length : Int) false (by omega) (by omega) (by omega)
    refine Eq.trans this ?_
    rw [List.drop_zero, Bool.false_or]
    exact j3_eq F s hs hF
theorem vO (s : Bs) (hs : s.length ≤ 1000) : ∀ (k i : Nat) (out : Bs), s.length - i < k → i ≤ s.length → out.length ≤ 6 * i →
    dh s k (out, (i : Int)) = some (out ++ enc (s.drop i)) := by
  intro k
  induction k with
  | zero => intro i out h; omega
  | succ k ih =>
    intro i out hk hi ho;show eK s (dh s k) out (i : Int) = _
    unfold eK eJ cR
    by_cases h : i < s.length
    · have hd : s.drop i = s[i] :: s.drop (i + 1) := bE h
      have go : ∀ w : Bs, e1 s[i] = w → w.length ≤ 6 → dh s k (out ++ w, ((i + 1 : Nat) : Int)) = some (out ++ enc (s.drop i)) := by
        intro w hw hl
        rw [ih (i + 1) (out ++ w) (by omega) (by omega) (by simp; omega), hd, jj, hw]; simp
      rw [bT (by omega), fp (by omega), dZ, kU h]
      by_cases h1 : s[i] = 38
      · rw [bT h1, iC (by simp; omega), dZ, ek (by omega), cY]
        exact go _ (by rw [h1]; rfl) (by decide)
      rw [bF h1]
      by_cases h2 : s[i] = 60
      · rw [bT h2, iC (by simp; omega), dZ, ek (by omega), cY]
        exact go _ (by rw [h2]; rfl) (by decide)
      rw [bF h2]
      by_cases h3 : s[i] = 62
      · rw [bT h3, iC (by simp; omega), dZ, ek (by omega), cY]
        exact go _ (by rw [h3]; rfl) (by decide)
      rw [bF h3]
      by_cases h4 : s[i] = 34
      · rw [bT h4, iC (by simp; omega), dZ, ek (by omega), cY]
        exact go _ (by rw [h4]; rfl) (by decide)
      rw [bF h4, fp (by omega), dZ, iC (by simp; omega), dZ, ek (by omega), cY]
      exact go [s[i]] (by unfold e1; rw [tab_no h1 h2 h3 h4]; rfl) (by simp)
    · have hd : s.drop i = [] := bt (by omega)
      rw [bF (by omega), hd]; simp [enc]
theorem pa (F : Nat) (hF : 1000 < F) (s : Bs) (hs : s.length ≤ 1000) : fh F s = some (enc s) := by
  have := vO s hs F 0 [] (by omega) (by omega) (by simp)
  unfold fh
  simpa using this
end Go.Pn
namespace Go.Dg
open Go.Pv Go.Av
open Go.Pn (enc e1 jj kT vl pa)
abbrev It := Int × Int × (List UInt8) × (List UInt8) × (List UInt8) × (List UInt8) × Int
def unt : Bs := [40, 117, 110, 116, 105, 116, 108, 101, 100, 41]
def ttl (t : Bs) : Bs := if t = [] then unt else t
def h1 : Bs := [60, 108, 105, 62, 60, 97, 32, 104, 114, 101, 102, 61, 34]
def h2 : Bs := [34, 62]
def h3 : Bs := [60, 47, 97, 62, 60, 47, 108, 105, 62, 10]
def U : Bs := [60, 117, 108, 62, 10]
def V : Bs := [60, 47, 117, 108, 62, 10]
def hOf (x : It) : Bs := (((h1 ++ enc x.2.2.2.2.1) ++ h2) ++ enc (ttl x.2.2.2.1)) ++ h3
def Ok (x : It) : Prop := x.2.2.1.length ≤ 300 ∧ x.2.2.2.1.length ≤ 300 ∧ x.2.2.2.2.1.length ≤ 300 ∧ x.2.2.2.2.2.1.length ≤ 300
theorem rR {t : Bs} (h : t.length ≤ 300) : (ttl t).length ≤ 300 := by
  unfold ttl unt
  split
  · simp
  · exact h
theorem HtmlC_eq (F : Nat) (hF : 1000 < F) (a1 a2 a3 a4 : Bs) (a5 : Int) (q2 : a2.length ≤ 300) (q3 : a3.length ≤ 300) : kb F a1 a2 a3 a4 a5 = some ((((h1 ++ enc a3) ++ h2) ++ enc a2) ++ h3) := by
  have l2 := kT a2
  have l3 := kT a3
  unfold kb h1 h2 h3
  rw [vl F hF a3 (by omega), ge, iC (by simp; omega), dZ, iC (by simp; omega), dZ, vl F hF a2 (by omega), ge, iC (by simp; omega), dZ, iC (by simp; omega), dZ]
theorem pf {x : It} (h : Ok x) : (hOf x).length = 25 + (enc x.2.2.2.2.1).length + (enc (ttl x.2.2.2.1)).length ∧ (hOf x).length ≤ 5000 := by
  obtain ⟨_, q2, q3, _⟩ := h
  have l2 := kT (ttl x.2.2.2.1)
  have l3 := kT x.2.2.2.2.1
  have := rR q2
  unfold hOf h1 h2 h3
  simp only [List.length_append, List.length_cons, List.length_nil]
  omega
theorem wO (F : Nat) (hF : 1000 < F) (a2 : Bs) (l : List It) (h2 : a2.length ≤ 100) (hl : l.length ≤ 100) (hok : ∀ x ∈ l, Ok x) : ∀ (n i : Nat) (out : Bs), l.length - i < n → i ≤ l.length → out.length ≤ 5000 * i + 100 →
    dD F a2 l n ((i : Int), out) = some ((out ++ (l.drop i).flatMap hOf) ++ a2) := by
  intro n
  induction n with
  | zero => intro i out h; omega
  | succ n ih =>
    intro i out hn hi ho;show gV F a2 l (dD F a2 l n) (i : Int) out = _
    unfold gV
    by_cases h : i < l.length
    · have hd : l.drop i = l[i] :: l.drop (i + 1) := bE h
      have hx := hok _ (List.getElem_mem h)
      have hlen := pf hx
      obtain ⟨q1, q2, q3, q4⟩ := hx
      have key : ∀ t : Bs, t = ttl l[i].2.2.2.1 → fb F (i : Int) out l[i] (dD F a2 l n) t = some ((out ++ (l.drop i).flatMap hOf) ++ a2) := fun t ht => by
        subst ht
        unfold fb
        rw [HtmlC_eq F hF _ _ _ _ _ (rR q2) q3, ge]
        show grd (okW out (hOf l[i])) _ = _
        rw [grd_W (by omega), dZ, ek (by omega), cY]
        show dD F a2 l n (((i + 1 : Nat) : Int), out ++ hOf l[i]) = _
        rw [ih (i + 1) _ (by omega) (by omega) (by simp only [List.length_append]; omega), hd, List.flatMap_cons, List.append_assoc]
        simp only [List.append_assoc]
      rw [bT (by omega), fp (by omega), dZ, kU h]
      by_cases he : l[i].2.2.2.1 = []
      · rw [bT he]; exact key _ (by unfold ttl; rw [if_pos he]; rfl)
      · rw [bF he]; exact key _ (by unfold ttl; rw [if_neg he])
    · rw [bF (by omega), bt (by omega)]
      unfold gS
      rw [grd_W (by omega), dZ, grd_W (by simp only [List.length_append, List.length_nil]; omega), List.flatMap_nil, List.append_nil]
theorem Html_eq (F : Nat) (hF : 1000 < F) (l : List It) (hl : l.length ≤ 100) (hok : ∀ x ∈ l, Ok x) : jk F l = some ((U ++ l.flatMap hOf) ++ V) := by
  unfold jk nz
  rw [grd_W (by simp), dZ]
  have := wO F hF V l (by unfold V; simp) hl hok F 0 U (by omega) (by omega) (by unfold U; simp)
  rw [List.drop_zero] at this
  have e : dD F [60, 47, 117, 108, 62, 10] l F (0, [] ++ [60, 117, 108, 62, 10]) = some ((U ++ l.flatMap hOf) ++ V) := this
  rw [e, ge]
theorem few_loop (l : List It) (hl : l.length ≤ 100) : ∀ (n i : Nat), l.length - i < n → i ≤ l.length → ∃ b, fT l n (i : Int) = some b ∧ (b = true → ∀ x ∈ l.drop i, Ok x) := by
  intro n
  induction n with
  | zero => intro i h; omega
  | succ n ih =>
    intro i hn hi;show ∃ b, fU l (fT l n) (i : Int) = some b ∧ _
    unfold fU
    by_cases h : i < l.length
    · have hd : l.drop i = l[i] :: l.drop (i + 1) := bE h
      rw [bT (by omega), fp (by omega), dZ, kU h]
      cases hc : ((((decide (300 < (l[i].2.2.1.length : Int))) || (decide (300 < (l[i].2.2.2.1.length : Int)))) || (decide (300 < (l[i].2.2.2.2.1.length : Int)))) || (decide (300 < (l[i].2.2.2.2.2.1.length : Int)))) with
      | true => exact ⟨false, by rw [ctr], fun h => by cases h⟩
      | false =>
        obtain ⟨b, e, hb⟩ := ih (i + 1) (by omega) (by omega);refine ⟨b, by rw [cfl, ek (by omega), cY]; exact e, fun ht x hx => ?_⟩
        rw [hd] at hx
        rcases List.mem_cons.1 hx with rfl | hx
        · simp only [Bool.or_eq_false_iff, decide_eq_false_iff_not] at hc
          exact ⟨by omega, by omega, by omega, by omega⟩
        · exact hb ht x hx
    · rw [bF (by omega)]
      exact ⟨true, rfl, fun _ x hx => by rw [bt (by omega)] at hx; cases hx⟩
theorem Few_eq (F : Nat) (hF : 1000 < F) (l : List It) (m : Nat) (hm : m ≤ 100) : ∃ b, iH F l (m : Int) = some b ∧ (b = true → l.length ≤ m ∧ ∀ x ∈ l, Ok x) := by
  unfold iH
  by_cases h : m < l.length
  · rw [bT (by omega)]; exact ⟨false, rfl, fun h => by cases h⟩
  · rw [bF (by omega)]
    obtain ⟨b, e, hb⟩ := few_loop l (by omega) F 0 (by omega) (by omega);exact ⟨b, e, fun ht => ⟨by omega, by simpa using hb ht⟩⟩
theorem e1_60 (c : UInt8) : (e1 c).count 60 = 0 := by
  have := Go.Pn.of_all8 (fun c => decide ((e1 c).count 60 = 0)) (by decide +kernel) c
  exact of_decide_eq_true this
theorem vp : ∀ s : Bs, (enc s).count 60 = 0
  | [] => rfl
  | c :: r => by rw [jj, List.count_append, e1_60, vp r]
theorem hOf_60 (x : It) : (hOf x).count 60 = 4 := by
  unfold hOf
  rw [List.count_append, List.count_append, List.count_append, List.count_append, vp, vp]
  decide
theorem vy : ∀ l : List It, (l.flatMap hOf).count 60 = 4 * l.length
  | [] => rfl
  | x :: l => by rw [List.flatMap_cons, List.count_append, hOf_60, vy l, List.length_cons]; omega
def long : List It → Nat
  | [] => 0
  | x :: l => 25 + (enc x.2.2.2.2.1).length + (enc (ttl x.2.2.2.1)).length + long l
theorem tV : ∀ l : List It, (∀ x ∈ l, Ok x) → (l.flatMap hOf).length = long l
  | [], _ => rfl
  | x :: l, h => by
    rw [List.flatMap_cons, List.length_append, (pf (h x (List.mem_cons_self ..))).1, tV l fun y hy => h y (List.mem_cons_of_mem _ hy)]; rfl
theorem vx : ∀ l : List It, (∀ x ∈ l, Ok x) → (l.flatMap hOf).length ≤ 5000 * l.length
  | [], _ => by simp
  | x :: l, h => by
    have := (pf (h x (List.mem_cons_self ..))).2
    have := vx l fun y hy => h y (List.mem_cons_of_mem _ hy)
    rw [List.flatMap_cons, List.length_append, List.length_cons]; omega
end Go.Dg
namespace Go.Dg
open Go.Pv Go.Av
open Go.Pn (enc kT pa)
theorem uu (F : Nat) (hF : 1000 < F) (l : List It) (s : Bs) (c : Int) (hl : l.length ≤ 100) (hok : ∀ x ∈ l, Ok x) : ∀ (n i v : Nat), l.length - i < n → i ≤ l.length → v ≤ 5000 * i + 100 →
    cr F l s c n ((v : Int), (i : Int)) = cE l s c ((v + long (l.drop i) : Nat) : Int) := by
  intro n
  induction n with
  | zero => intro i v h; omega
  | succ n ih =>
    intro i v hn hi hv;show dp F l s c (cr F l s c n) (v : Int) (i : Int) = _
    unfold dp
    by_cases h : i < l.length
    · have hd : l.drop i = l[i] :: l.drop (i + 1) := bE h
      have hx := hok _ (List.getElem_mem h)
      have hlen := pf hx
      obtain ⟨q1, q2, q3, q4⟩ := hx
      have key : ∀ t : Bs, t = ttl l[i].2.2.2.1 → cD F l (v : Int) (i : Int) (cr F l s c n) t = cE l s c ((v + long (l.drop i) : Nat) : Int) := fun t ht => by
        subst ht
        have := rR q2
        unfold cD
        rw [ek (by omega), fp (by omega), dZ, kU h, pa F hF _ (by omega), ge, ek (by omega), pa F hF _ (by omega), ge, ek (by omega), ek (by omega), cY]
        have e : (((v : Int) + 25) + ((enc l[i].2.2.2.2.1).length : Int)) + ((enc (ttl l[i].2.2.2.1)).length : Int) = ((v + (25 + (enc l[i].2.2.2.2.1).length + (enc (ttl l[i].2.2.2.1)).length) : Nat) : Int) := by omega
        rw [e, ih (i + 1) _ (by omega) (by omega) (by omega), hd]
        congr 2
        show _ = v + (25 + (enc l[i].2.2.2.2.1).length + (enc (ttl l[i].2.2.2.1)).length + long (l.drop (i + 1)))
        omega
      rw [bT (by omega), fp (by omega), dZ, kU h]
      by_cases he : l[i].2.2.2.1 = []
      · rw [bT he]; exact key _ (by unfold ttl; rw [if_pos he]; rfl)
      · rw [bF he]; exact key _ (by unfold ttl; rw [if_neg he])
    · rw [bF (by omega), bt (by omega)]; rfl
theorem vf (F : Nat) (l : List It) (s : Bs) (hs : s.length ≤ 1000000) : ∀ (n i c : Nat), s.length - i < n → i ≤ s.length → c ≤ i →
    cF F l s n ((c : Int), (i : Int)) = cU F l s ((c + (s.drop i).count 60 : Nat) : Int) := by
  intro n
  induction n with
  | zero => intro i c h; omega
  | succ n ih =>
    intro i c hn hi hc;show dn F l s (cF F l s n) (c : Int) (i : Int) = _
    unfold dn cT
    by_cases h : i < s.length
    · have hd : s.drop i = s[i] :: s.drop (i + 1) := bE h
      rw [bT (by omega), fp (by omega), dZ, kU h, hd, List.count_cons]
      by_cases h60 : s[i] = 60
      · rw [bT h60, ek (by omega), ek (by omega), cY, cY, ih (i + 1) (c + 1) (by omega) (by omega) (by omega), if_pos (by simpa using h60)]
        congr 2; omega
      · rw [bF h60, ek (by omega), cY, ih (i + 1) c (by omega) (by omega) (by omega), if_neg (by simpa using h60)]; simp only [Nat.add_zero]
    · rw [bF (by omega), bt (by omega)]; rfl
theorem qF (F : Nat) (hF : 90000 < F) (hw : gK F = some true) (l : List It) : dV F l = some true := by
  unfold dV
  obtain ⟨b, e, hb⟩ := Few_eq F (by omega) l 12 (by omega)
  have e' : iH F l 12 = some b := e
  rw [hw, ge, e', ge]
  cases b with
  | false => rw [nfl, Bool.or_true, ctr]
  | true =>
    obtain ⟨hl, hok⟩ := hb rfl
    have hfl := vx l hok
    have hH := Html_eq F (by omega) l (by omega) hok
    have hlen : ((U ++ l.flatMap hOf) ++ V).length = 11 + (l.flatMap hOf).length := by unfold U V; simp only [List.length_append, List.length_cons, List.length_nil]; omega
    have hcount : ((U ++ l.flatMap hOf) ++ V).count 60 = 2 + 4 * l.length := by
      rw [List.count_append, List.count_append, vy]
      have h1 : U.count 60 = 1 := by decide
      have h2 : V.count 60 = 1 := by decide
      rw [h1, h2]; omega
    have c1 := vf F l ((U ++ l.flatMap hOf) ++ V) (by omega) F 0 0 (by omega) (by omega) (by omega)
    have c2 := fun c => uu F (by omega) l ((U ++ l.flatMap hOf) ++ V) c (by omega) hok F 0 11 (by omega) (by omega) (by omega)
    rw [ntr, fo, cfl, hH, ge]
    refine Eq.trans c1 ?_
    rw [List.drop_zero, hcount]
    unfold cU
    refine Eq.trans (c2 _) ?_
    unfold cE
    rw [ek (by omega), ek (by omega), List.drop_zero, ← tV l hok, hlen, decide_eq_true (show (((0 + (2 + 4 * l.length) : Nat)) : Int) = 2 + 4 * (l.length : Int) by omega), decide_eq_true (show ((11 + (l.flatMap hOf).length : Nat) : Int) = ((11 + (l.flatMap hOf).length : Nat) : Int) from rfl)]
    rfl
theorem awake16 : gK 100000 = some true := by decide +kernel
theorem DigestMarks_t (l : List It) : dV 100000 l = some true := qF 100000 (by omega) awake16 l
end Go.Dg
namespace Go.Av
open Go.RowKit Go.ChangeShapes Go.WideShapes
section
variable {H : Type} {enc : TypeId × Value → H} {P : Program} {w : World}
def qj {H : Type} (enc : TypeId × Value → H) (P : Program) (w : World) (t : TypeId) {α : Type} (E : α → List AV) (p : α → Prop) : Prop :=
  ∀ fuel cs d, DataW.trod enc P w 0 (fun _ => true) true fuel t cs = some d → ∃ x, p x ∧ RelL (Info.start w) w (E x) cs
theorem opens_int {t : TypeId} {k : IntKind} (ht : P.underlying t = some (.int k)) : qj enc P w t (fun n : Int => [.v (.int k n)]) (fun n => (Lit.int k n).wf = true) := by
  intro fuel cs d h;obtain ⟨n, rfl, _, hw⟩ := DataW.trod_int ht h;exact ⟨n, hw, .cons (.v _) .nil⟩
theorem opens_str {t : TypeId} (ht : P.underlying t = some .string) : qj enc P w t (fun s : List UInt8 => [S s]) (fun s => s.length ≤ maxLen) := by
  intro fuel cs d h;obtain ⟨s, rfl, _, hw⟩ := DataW.trod_string ht h;refine ⟨s.data.toList, by simpa using hw, .cons (pA _ _ s) .nil⟩
theorem add_add (a : Addr) (m r : Nat) : (a.add m).add r = a.add (m + r) := by
  unfold Addr.add
  by_cases hm : m = 0
  · subst hm; simp
  · by_cases hr : r = 0
    · subst hr; simp
    · simp [hm, hr, Nat.add_assoc]
theorem opens_slice {t e : TypeId} {α β : Type} {E : α → List AV} {p : α → Prop} (G : Enc β) (g : α → β) (ht : P.underlying t = some (.slice e)) (hc : P.cellsOf e = G.k)
    (h : qj enc P w e E p) (hg : ∀ x, E x = G.f (g x)) : qj enc P w t (fun l : List β => [slE G l none]) (fun l => l.length ≤ maxLen ∧ ∀ y ∈ l, ∃ x, g x = y ∧ p x) := by
  intro fuel cs d hd
  rcases DataW.trod_slice ht hd with ⟨rfl, _⟩ | ⟨a, len, cap, elems, rest, n, _, rfl, _, _, hl, hm, hlen, hel, _, _⟩
  · exact ⟨[], ⟨by simp, by simp⟩, .cons (.slz _ _ _) .nil⟩
  · have go : ∀ r i, i + r = len → ∃ (l : List β) (vs : List Value), (l.length = r ∧ ∀ y ∈ l, ∃ x, g x = y ∧ p x) ∧ RelL (Info.start w) w (G.fl l) vs ∧ ∀ j, j < vs.length → w.cell? (a.add (i * G.k + j)) = vs[j]? := by
      intro r
      induction r with
      | zero => intro i hi; exact ⟨[], [], ⟨rfl, by simp⟩, .nil, fun j hj => by simp at hj⟩
      | succ r ih =>
        intro i hi
        have hb := hel i (by omega)
        rw [aK (by omega), Option.bind_eq_some_iff] at hb
        obtain ⟨cs', hcs, hy⟩ := hb
        rw [hc] at hcs
        obtain ⟨_, hcl, hce⟩ := World.cells?_some hcs;obtain ⟨x, hx, rx⟩ := h _ _ _ hy
        rw [hg] at rx
        obtain ⟨l, vs, ⟨l1, l2⟩, rl, hv⟩ := ih (i + 1) (by omega);refine ⟨g x :: l, cs' ++ vs, ⟨by simp [l1], fun y hy => ?_⟩, by rw [G.fl_cons]; exact rx.append rl, fun j hj => ?_⟩
        · rcases List.mem_cons.1 hy with rfl | hy
          · exact ⟨x, rfl, hx⟩
          · exact l2 y hy
        · by_cases hjk : j < G.k
          · have := hce j hjk
            rw [add_add] at this
            rw [this, List.getElem?_append_left (by omega)]
          · have := hv (j - G.k) (by simp at hj; omega)
            rw [List.getElem?_append_right (by omega), hcl, ← this, Nat.succ_mul]
            congr 2; omega
    obtain ⟨l, vs, ⟨l1, l2⟩, rl, hv⟩ := go len 0 (by omega);refine ⟨l, ⟨by omega, l2⟩, .cons ?_ .nil⟩
    by_cases h0 : l = []
    · subst h0
      simp at l1
      subst l1;exact .slz _ _ _
    · have hlp := List.length_pos_iff.2 h0
      have hvl : vs.length = len * G.k := by rw [rl.1, G.fl_length, l1]
      have hpos := G.pos
      have hv0 : 0 < vs.length := by rw [hvl]; exact Nat.mul_pos (by omega) hpos
      have hx0 := hv 0 hv0
      rw [aK hv0, Nat.zero_mul] at hx0
      obtain ⟨hb, hs⟩ := vE hx0
      have hx : a = ⟨a.block, a.off, none⟩ := by
        have : a.add (0 + 0) = a := rfl
        rw [this] at hs
        cases a; simp at hs; subst hs; rfl
      have hb' : a.block < w.heap.size := hb
      rw [hx]
      have hadd : ∀ i, w.cell? ⟨a.block, a.off + i, none⟩ = w.cell? (a.add i) := fun i => by
        unfold Addr.add
        by_cases h : i = 0
        · rw [if_pos h]; subst h; rw [Nat.add_zero, ← hx]
        · rw [if_neg h]
      unfold slE
      have hfl : (G.fl l).length = vs.length := rl.1.symm
      refine .sl G.k (G.fl l) none a.block a.off len cap (fun j => vs.getD j undef) G.pos (by rw [hfl, hvl]) hl (pz hb') ?_ ?_ (fun _ h => by cases h)
      · intro j hj
        have := hv j (by omega)
        rw [Nat.zero_mul, Nat.zero_add] at this
        rw [hadd j, this, aK (by omega)]
        simp [List.getD, show j < vs.length by omega]
      · intro j hj
        have := rl.2 j hj
        simpa [List.getD, show j < vs.length by omega] using this
def sm {H : Type} (enc : TypeId × Value → H) (P : Program) (w : World) (tot off : Nat) (fs : List Field) {α : Type} (E : α → List AV) (p : α → Prop) : Prop :=
  ∀ (n : Nat) (cs : List Value), cs.length = tot → (∀ f ∈ fs, ∃ d, DataW.trod enc P w 0 (fun _ => true) true n f.type ((cs.drop f.offset).take (P.cellsOf f.type)) = some d) → ∃ x, p x ∧ RelL (Info.start w) w (E x) (cs.drop off)
theorem opensF_nil {tot : Nat} : sm enc P w tot tot [] (fun _ : Unit => []) (fun _ => True) := fun n cs hl _ => ⟨(), trivial, by rw [bt (by omega)]; exact .nil⟩
theorem opensF_cons {tot off k : Nat} {f : Field} {fs : List Field} {α β : Type} {E : α → List AV} {p : α → Prop} {F : β → List AV} {q : β → Prop} (ho : f.offset = off) (hk : P.cellsOf f.type = k)
    (h : qj enc P w f.type E p) (g : sm enc P w tot (off + k) fs F q) : sm enc P w tot off (f :: fs) (fun x : α × β => E x.1 ++ F x.2) (fun x => p x.1 ∧ q x.2) := by
  intro n cs hl H;obtain ⟨d, hd⟩ := H f (by simp);obtain ⟨x, hx, rx⟩ := h _ _ _ hd
  obtain ⟨y, hy, ry⟩ := g n cs hl fun f' hf' => H f' (by simp [hf'])
  refine ⟨(x, y), ⟨hx, hy⟩, ?_⟩
  rw [ho, hk] at rx
  have := rx.append ry
  rwa [← List.drop_drop, List.take_append_drop] at this
theorem opens_struct {t : TypeId} {fs : Array Field} {tot : Nat} {α : Type} {E : α → List AV} {p : α → Prop} (ht : P.underlying t = some (.struct fs)) (hc : P.cellsOf t = tot) (h : sm enc P w tot 0 fs.toList E p) :
    qj enc P w t E p := by
  intro fuel cs d hd;obtain ⟨xs, n, _, _, hl, hlen, each⟩ := DataW.trod_struct ht hd
  obtain ⟨x, hx, rx⟩ := h n cs (by omega) fun f hf => by
    obtain ⟨i, hi, rfl⟩ := List.getElem_of_mem hf
    have hi' : i < fs.size := by simpa using hi
    rw [each i _ (by simp [hi'])]
    exact ⟨xs[i]'(by omega), aK _⟩
  exact ⟨x, hx, by simpa using rx⟩
theorem one_of {t : TypeId} {v : Value} {d : DataW H} {ps : List MemPlace} {α : Type} {E : α → AV} {p : α → Prop} (hv : v.cells = #[v]) (hd : DataW.Trod enc P w 0 (fun _ => true) true t v d ps) (h : qj enc P w t (fun x => [E x]) p) :
    ∃ x, p x ∧ Rel (Info.start w) w (E x) v := by
  obtain ⟨fuel, hf⟩ := hd;obtain ⟨x, hx, rx⟩ := h _ _ _ hf
  rw [hv] at rx
  exact ⟨x, hx, rx.head⟩
end
end Go.Av
