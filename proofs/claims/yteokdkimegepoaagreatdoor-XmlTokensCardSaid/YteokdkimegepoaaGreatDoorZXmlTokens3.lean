/-
  Texts in one (only what XmlTokens needs): NumW, AnyP, AnyW, EntBP, EntBW, XmlAP, XmlAW, XmlBP.
-/
import Derived.Test.YteokdkimegepoaaGreatDoorZXmlTokens2
import Derived.Test.YteokdkimegepoaaGreatDoorShelf
import Derived.Lib.ItoaNum
import Derived.Lib.IndexLaws
import Derived.Test.YteokdkimegepoaaGreatDoorChecked
import Derived.Lib.IndexAny
import Derived.Below
set_option linter.unusedVariables false
set_option linter.unusedSimpArgs false
set_option linter.unusedSectionVars false
namespace Go.Proofs.YteokdkimegepoaaGreatDoor
open Go.RowKit Go.Av Go.Pv
theorem wJ : ∀ (args : Array Value) (w : World), (callFunc 161 args).run Tryz.prog w = .ok (.enter 161 args) w := fun _ _ => by kernel_rfl
theorem wI : ∀ (args : Array Value) (w : World), (callFunc 162 args).run Tryz.prog w = .ok (.enter 162 args) w := fun _ _ => by kernel_rfl
theorem wH : ∀ (args : Array Value) (w : World), (callFunc 163 args).run Tryz.prog w = .ok (.enter 163 args) w := fun _ _ => by kernel_rfl
theorem gS : ∀ (args : Array Value) (w : World), (callFunc 168 args).run Tryz.prog w = .ok (.enter 168 args) w := fun _ _ => by kernel_rfl
theorem wG : ∀ (args : Array Value) (w : World), (callFunc 169 args).run Tryz.prog w = .ok (.enter 169 args) w := fun _ _ => by kernel_rfl
set_option maxRecDepth 100000 in
set_option maxHeartbeats 1000000 in
theorem fJ (F : Nat) (a1 : UInt8) (r2 : UInt8) (H : fy F a1 = some r2) : ACalls Tryz.prog 168 [u8 a1] [] (Ret (u8 r2) []) := by
 unfold fy at H
 refine aw Tryz.func168 rfl rfl ?_;show AW _ _ 5 _ _ _;refine af <| aa ?_;show AR _ _ _ _ _ [0] _;refine za rfl <| aj <| af <| aa ?_;show AR _ _ _ _ _ [0, 1, 2] _;refine zm rfl <| zS rfl (g_or8 (a := a1) (b := 32) rfl rfl) <| za rfl <| aj <| aK ?_;obtain rfl := ap H;exact And.intro rfl (Exists.intro _ (Exists.intro _ ⟨aJ rfl (.refl _), aH [] rfl, rfl, rfl⟩))
set_option maxRecDepth 100000 in
set_option maxHeartbeats 1000000 in
theorem ni (F : Nat) (a1 : List UInt8) (r2 : Bool) (H : jP F a1 = some r2) : ACalls Tryz.prog 169 [S a1] [] (Ret (B r2) []) := by
 unfold jP at H
 refine aw Tryz.func169 rfl rfl ?_;show AW _ _ 94 _ _ _;refine af <| aa ?_;show AR _ _ _ _ _ [0] _;refine za rfl <| aj <| af <| aa ?_;show AR _ _ _ _ _ [0] _;refine za rfl <| aj <| af <| aa ?_;show AR _ _ _ _ _ [0] _;refine za rfl <| aj <| bt (X := (List UInt8)) (fun y15 => ⟨[(0, S y15), (3, .v (.int .i32 94)), (4, i64 0)], [], []⟩) (fun y15 => ee F y15 = some r2) ?_ ?_
 ·refine af ?_;obtain ⟨g4, H⟩ := cG H;obtain ⟨x5, e6, H⟩ := bM H;obtain ⟨g8, H⟩ := cG H;obtain ⟨x9, e10, H⟩ := bM H;refine aa ?_;show AR _ _ _ _ _ [0, 1, 2, 3, 4, 5, 6, 7, 8, 9, 10, 11, 12] _;refine zm rfl <| zS rfl (aW ac rfl) <| zS rfl (dd rfl rfl) <| zm rfl <| bf (l := []) 18 (B ((decide (1 ≤ (a1.length : Int))) && ((decide (x5 = 45)) || (decide (x9 = 43))))) (fun K => ?_) ?_
  ·rcases am (decide (1 ≤ (a1.length : Int))) with h3 | h3
   ·refine zM h3 rfl <| zU h3 rfl (bb ac rfl rfl (g4 h3) e6) <| zU h3 rfl (fw (a := x5) (b := 45) rfl rfl) <| zM h3 rfl <| bf (l := [12]) 17 (B ((decide (x5 = 45)) || (decide (x9 = 43)))) (fun K => ?_) ?_
    ·rcases am (decide (x5 = 45)) with h7 | h7
     ·refine zF h7 rfl <| zF h7 rfl <| zF h7 rfl <| zU h3 rfl (aB (av := .v _) rfl h7 rfl) ?_;exact K _ 3 _ (au (iU h7)) rfl rfl
     ·refine zM h7 rfl <| zU h7 rfl (bb ac rfl rfl (g8 (lL h3 (nf h7))) e10) <| zU h7 rfl (fw (a := x9) (b := 43) rfl rfl) <| zU h3 rfl (aD (av := .v _) rfl h7 rfl) ?_;exact K _ 3 _ (au (iD h7)) rfl rfl
    refine zS rfl (aB (av := .v _) rfl h3 rfl) ?_;exact K _ 5 _ (au (bN h3)) rfl rfl
   ·refine zF h3 rfl <| zF h3 rfl <| zF h3 rfl <| zF h3 rfl <| gU rfl rfl rfl rfl rfl <| gU rfl rfl rfl rfl rfl <| gU rfl rfl rfl rfl rfl <| zF h3 rfl <| zS rfl (aD (av := .v _) rfl h3 rfl) ?_;exact K _ 8 _ (au (ca h3)) rfl rfl
  refine aj <| ay rfl (fun c11 => ?_) (fun c11 => ?_)
  ·replace H := aZ c11 H;obtain ⟨g12, H⟩ := aP H;obtain ⟨x13, e14, H⟩ := bM H;refine aa ?_;show AR _ _ _ _ _ [0, 1, 2] _;refine zm rfl <| zS rfl (dT ac rfl rfl g12 e14) <| za rfl <| aj ?_;exact Exists.intro x13 ⟨H, aQ [] (.cons (.refl _) (.cons (.refl _) (.cons (.refl _) (.nil _)))) rfl⟩
  ·replace H := ba c11 H;refine aC ?_;exact Exists.intro a1 ⟨H, aQ [] (.cons (.refl _) (.cons (.refl _) (.cons (.refl _) (.nil _)))) rfl⟩
 rintro y15 H;replace H : ee F y15 = some r2 := H
 unfold ee at H
 refine af <| aa ?_;show AR _ _ _ _ _ [0] _;refine za rfl <| aj <| bt (X := Int × Int × Bool) (fun (y45, y46, y47) => ⟨[(0, S y15), (3, .v (.int .i32 y45)), (4, i64 y46), (5, B y47)], [], []⟩) (fun (y45, y46, y47) => eg F y15 y45 y46 y47 = some r2) ?_ ?_
 ·refine af ?_;obtain ⟨g18, H⟩ := cG H;obtain ⟨x19, e20, H⟩ := bM H;obtain ⟨g22, H⟩ := cG H;obtain ⟨x23, e24, H⟩ := bM H;obtain ⟨x25, e26, H⟩ := gV H;obtain ⟨g28, H⟩ := cG H;obtain ⟨x29, e30, H⟩ := bM H;obtain ⟨x31, e32, H⟩ := gV H;obtain ⟨g34, H⟩ := cG H;obtain ⟨x35, e36, H⟩ := bM H;obtain ⟨x37, e38, H⟩ := gV H;refine aa ?_;show AR _ _ _ _ _ [0, 1, 2, 3, 4, 5, 6, 7, 8, 9, 10, 11, 12, 13, 14, 15, 16, 17, 18, 19, 20, 21, 22, 23, 24, 25] _;refine zm rfl <| zS rfl (aW ac rfl) <| zS rfl (dd rfl rfl) <| zm rfl <| bf (l := [8, 9, 10, 11, 12, 13, 14, 15, 16, 17, 18, 19, 20, 21, 22, 23, 24, 25]) 28 (B ((decide (2 ≤ (y15.length : Int))) && (decide (x19 = 48)))) (fun K => ?_) ?_
  ·rcases am (decide (2 ≤ (y15.length : Int))) with h17 | h17
   ·refine zM h17 rfl <| zU h17 rfl (bb ac rfl rfl (g18 h17) e20) <| zU h17 rfl (fw (a := x19) (b := 48) rfl rfl) <| zS rfl (aB (av := .v _) rfl h17 rfl) ?_;exact K _ 3 _ (au (bN h17)) rfl rfl
   ·refine zF h17 rfl <| zF h17 rfl <| zF h17 rfl <| zS rfl (aD (av := .v _) rfl h17 rfl) ?_;exact K _ 3 _ (au (ca h17)) rfl rfl
  refine zm rfl <| bf (l := []) 46 (B (((decide (2 ≤ (y15.length : Int))) && (decide (x19 = 48))) && (((decide (x25 = 98)) || (decide (x31 = 111))) || (decide (x37 = 120))))) (fun K => ?_) ?_
  ·rcases am ((decide (2 ≤ (y15.length : Int))) && (decide (x19 = 48))) with h21 | h21
   ·refine zM h21 rfl <| zU h21 rfl (bb ac rfl rfl (g22 h21) e24) <| zT h21 rfl (aO rfl gS rfl (fJ F x23 x25 (e26 h21)) ?_);refine zU h21 rfl (fw (a := x25) (b := 98) rfl rfl) <| zM h21 rfl <| bf (l := [19, 20, 21, 22, 23, 24, 25]) 39 (B ((decide (x25 = 98)) || (decide (x31 = 111)))) (fun K => ?_) ?_
    ·rcases am (decide (x25 = 98)) with h27 | h27
     ·refine zF h27 rfl <| zF h27 rfl <| zF h27 rfl <| zF h27 rfl <| zU h21 rfl (aB (av := .v _) rfl h27 rfl) ?_;exact K _ 4 _ (au (iU h27)) rfl rfl
     ·refine zM h27 rfl <| zU h27 rfl (bb ac rfl rfl (g28 (lL h21 (nf h27))) e30) <| zT h27 rfl (aO rfl gS rfl (fJ F x29 x31 (e32 (lL h21 (nf h27)))) ?_);refine zU h27 rfl (fw (a := x31) (b := 111) rfl rfl) <| zU h21 rfl (aD (av := .v _) rfl h27 rfl) ?_;exact K _ 4 _ (au (iD h27)) rfl rfl
    refine zM h21 rfl <| bf (l := [25]) 45 (B (((decide (x25 = 98)) || (decide (x31 = 111))) || (decide (x37 = 120)))) (fun K => ?_) ?_
    ·rcases am ((decide (x25 = 98)) || (decide (x31 = 111))) with h33 | h33
     ·refine zF h33 rfl <| zF h33 rfl <| zF h33 rfl <| zF h33 rfl <| zU h21 rfl (aB (av := .v _) rfl h33 rfl) ?_;exact K _ 4 _ (au (iU h33)) rfl rfl
     ·refine zM h33 rfl <| zU h33 rfl (bb ac rfl rfl (g34 (lL h21 (nf h33))) e36) <| zT h33 rfl (aO rfl gS rfl (fJ F x35 x37 (e38 (lL h21 (nf h33)))) ?_);refine zU h33 rfl (fw (a := x37) (b := 120) rfl rfl) <| zU h21 rfl (aD (av := .v _) rfl h33 rfl) ?_;exact K _ 4 _ (au (iD h33)) rfl rfl
    refine zS rfl (aB (av := .v _) rfl h21 rfl) ?_;exact K _ 8 _ (au (bN h21)) rfl rfl
   ·refine zF h21 rfl <| zF h21 rfl <| zF h21 rfl <| zF h21 rfl <| zF h21 rfl <| gU rfl rfl rfl rfl rfl <| gU rfl rfl rfl rfl rfl <| gU rfl rfl rfl rfl rfl <| gU rfl rfl rfl rfl rfl <| zF h21 rfl <| zF h21 rfl <| gU rfl rfl rfl rfl rfl <| gU rfl rfl rfl rfl rfl <| gU rfl rfl rfl rfl rfl <| gU rfl rfl rfl rfl rfl <| zF h21 rfl <| zS rfl (aD (av := .v _) rfl h21 rfl) ?_;exact K _ 16 _ (au (ca h21)) rfl rfl
  refine aj <| ay rfl (fun c39 => ?_) (fun c39 => ?_)
  ·replace H := aZ c39 H;refine af <| aa ?_;show AR _ _ _ _ _ [0] _;refine za rfl <| aj <| af <| aa ?_;show AR _ _ _ _ _ [0] _;refine za rfl <| aj ?_;obtain ⟨g40, H⟩ := aP H;obtain ⟨x41, e42, H⟩ := bM H;obtain ⟨x43, e44, H⟩ := ci H;refine aa ?_;show AR _ _ _ _ _ [0, 1, 2, 3, 4] _;refine zm rfl <| zS rfl (bb ac rfl rfl g40 e42) <| aq rfl rfl (aO rfl gS rfl (fJ F x41 x43 e44) ?_);refine zS rfl (fw (a := x43) (b := 120) rfl rfl) <| za rfl <| aj ?_;exact Exists.intro (48, 2, decide (x43 = 120)) ⟨H, aQ [] (.cons (.refl _) (.cons (.refl _) (.cons (.refl _) (.cons (.refl _) (.nil _))))) rfl⟩
  ·replace H := ba c39 H;refine aC ?_;exact Exists.intro (94, 0, false) ⟨H, aQ [] (.cons (.refl _) (.cons (.refl _) (.cons (.refl _) (.cons (.refl _) (.nil _))))) rfl⟩
 rintro ⟨y45, y46, y47⟩ H;replace H : eg F y15 y45 y46 y47 = some r2 := H
 unfold eg at H
 refine bt (X := Int) (fun y84 => ⟨[(3, .v (.int .i32 y84))], [], []⟩) (fun y84 => fB y84 = some r2) ?_ ?_
 ·refine aX <| cA (X := Nat × Int × Int) (fun (n52, y49, y50) => ⟨[(0, S y15), (3, .v (.int .i32 y49)), (4, i64 y50), (5, B y47)], [], []⟩) (fun (n52, y49, y50) => eh F y15 y47 n52 (y49, y50) = some r2) (fun (n52, y49, y50) => n52) (F, y45, y46) H (aQ [] (.cons (.refl _) (.cons (.refl _) (.cons (.refl _) (.cons (.refl _) (.nil _))))) rfl) ?_;rintro ⟨n52, y49, y50⟩ H;obtain ⟨n52, rfl, H⟩ := dx H;replace H : ip F y15 y47 (eh F y15 y47 n52) y49 y50 = some r2 := H
  unfold ip at H
  refine af <| af <| aa ?_;show AR _ _ _ _ _ [0, 1, 2, 3] _;refine zm rfl <| zm rfl <| zS rfl (aW ac rfl) <| zS rfl (bQ rfl rfl) <| aj <| ay rfl (fun c53 => ?_) (fun c53 => ?_)
  ·replace H := aZ c53 H;refine aC <| bt (X := Int) (fun y81 => ⟨[(0, S y15), (3, .v (.int .i32 y81)), (4, i64 y50), (5, B y47)], [], []⟩) (fun y81 => dz y50 (eh F y15 y47 n52) y81 = some r2) ?_ ?_
   ·refine aX <| af <| af ?_;obtain ⟨g54, H⟩ := aP H;obtain ⟨x55, e56, H⟩ := bM H;obtain ⟨g58, H⟩ := cG H;obtain ⟨x59, e60, H⟩ := bM H;obtain ⟨g63, H⟩ := cG H;obtain ⟨x64, e65, H⟩ := bM H;obtain ⟨x66, e67, H⟩ := gV H;obtain ⟨g69, H⟩ := cG H;obtain ⟨x70, e71, H⟩ := bM H;obtain ⟨x72, e73, H⟩ := gV H;refine aa ?_;show AR _ _ _ _ _ [0, 1, 2, 3, 4, 5, 6, 7, 8, 9, 10, 11, 12, 13, 14, 15, 16, 17, 18, 19, 20, 21, 22, 23, 24, 25, 26] _;refine zm rfl <| zm rfl <| zS rfl (bb ac rfl rfl g54 e56) <| zS rfl (dC rfl rfl) <| zm rfl <| bf (l := [10, 11, 12, 13, 14, 15, 16, 17, 18, 19, 20, 21, 22, 23, 24, 25, 26]) 66 (B ((decide (48 ≤ (x55.toNat : Int))) && (decide ((x59.toNat : Int) ≤ 57)))) (fun K => ?_) ?_
    ·rcases am (decide (48 ≤ (x55.toNat : Int))) with h57 | h57
     ·refine zM h57 rfl <| zM h57 rfl <| zU h57 rfl (bb ac rfl rfl (g58 h57) e60) <| zU h57 rfl (dC rfl rfl) <| zS rfl (aB (av := .v _) rfl h57 rfl) ?_;exact K _ 4 _ (au (bN h57)) rfl rfl
     ·refine zF h57 rfl <| zF h57 rfl <| zF h57 rfl <| zF h57 rfl <| zS rfl (aD (av := .v _) rfl h57 rfl) ?_;exact K _ 4 _ (au (ca h57)) rfl rfl
    refine zm rfl <| bf (l := []) 83 (B (((decide (48 ≤ (x55.toNat : Int))) && (decide ((x59.toNat : Int) ≤ 57))) || ((y47 && (decide (97 ≤ (x66.toNat : Int)))) && (decide ((x72.toNat : Int) ≤ 102))))) (fun K => ?_) ?_
    ·rcases am ((decide (48 ≤ (x55.toNat : Int))) && (decide ((x59.toNat : Int) ≤ 57))) with h61 | h61
     ·refine zF h61 rfl <| zF h61 rfl <| gU rfl rfl rfl rfl rfl <| gU rfl rfl rfl rfl rfl <| gU rfl rfl rfl rfl rfl <| gU rfl rfl rfl rfl rfl <| gU rfl rfl rfl rfl rfl <| zF h61 rfl <| zF h61 rfl <| gU rfl rfl rfl rfl rfl <| gU rfl rfl rfl rfl rfl <| gU rfl rfl rfl rfl rfl <| gU rfl rfl rfl rfl rfl <| gU rfl rfl rfl rfl rfl <| zF h61 rfl <| zS rfl (aB (av := .v _) rfl h61 rfl) ?_;exact K _ 15 _ (au (iU h61)) rfl rfl
     ·refine zM h61 rfl <| zM h61 rfl <| bf (l := [19, 20, 21, 22, 23, 24, 25, 26]) 75 (B (y47 && (decide (97 ≤ (x66.toNat : Int))))) (fun K => ?_) ?_
      ·rcases am y47 with h62 | h62
       ·refine zM h62 rfl <| zM h62 rfl <| zU h62 rfl (bb ac rfl rfl (g63 (lL (nf h61) h62)) e65) <| zT h62 rfl (aO rfl gS rfl (fJ F x64 x66 (e67 (lL (nf h61) h62))) ?_);refine zU h62 rfl (dC rfl rfl) <| zU h61 rfl (aB (av := .v _) rfl h62 rfl) ?_;exact K _ 5 _ (au (bN h62)) rfl rfl
       ·refine zF h62 rfl <| zF h62 rfl <| zF h62 rfl <| zF h62 rfl <| zF h62 rfl <| zU h61 rfl (aD (av := .v _) rfl h62 rfl) ?_;exact K _ 5 _ (au (ca h62)) rfl rfl
      refine zM h61 rfl <| bf (l := [26]) 82 (B ((y47 && (decide (97 ≤ (x66.toNat : Int)))) && (decide ((x72.toNat : Int) ≤ 102)))) (fun K => ?_) ?_
      ·rcases am (y47 && (decide (97 ≤ (x66.toNat : Int)))) with h68 | h68
       ·refine zM h68 rfl <| zM h68 rfl <| zU h68 rfl (bb ac rfl rfl (g69 (lL (nf h61) h68)) e71) <| zT h68 rfl (aO rfl gS rfl (fJ F x70 x72 (e73 (lL (nf h61) h68))) ?_);refine zU h68 rfl (dC rfl rfl) <| zU h61 rfl (aB (av := .v _) rfl h68 rfl) ?_;exact K _ 5 _ (au (bN h68)) rfl rfl
       ·refine zF h68 rfl <| zF h68 rfl <| zF h68 rfl <| zF h68 rfl <| zF h68 rfl <| zU h61 rfl (aD (av := .v _) rfl h68 rfl) ?_;exact K _ 5 _ (au (ca h68)) rfl rfl
      refine zS rfl (aD (av := .v _) rfl h61 rfl) ?_;exact K _ 5 _ (au (iD h61)) rfl rfl
    refine aj <| ay rfl (fun c74 => ?_) (fun c74 => ?_)
    ·replace H := aZ c74 H;refine af <| aa ?_;show AR _ _ _ _ _ [0] _;refine za rfl <| aj <| bW ?_;exact Exists.intro 48 ⟨H, aQ [] (.cons (.refl _) (.cons (.refl _) (.cons (.refl _) (.cons (.refl _) (.nil _))))) rfl⟩
    ·replace H := ba c74 H;refine aC <| af <| af ?_;obtain ⟨g75, H⟩ := aP H;obtain ⟨x76, e77, H⟩ := bM H;refine aa ?_;show AR _ _ _ _ _ [0, 1, 2, 3] _;refine zm rfl <| zm rfl <| zS rfl (bb ac rfl rfl g75 e77) <| zS rfl (fw (a := x76) (b := 95) rfl rfl) <| aj <| ay rfl (fun c78 => ?_) (fun c78 => ?_)
     ·replace H := aZ c78 H;refine af <| af <| aa ?_;show AR _ _ _ _ _ [0, 1] _;refine zm rfl <| zS rfl (iG rfl rfl) <| aj <| ay rfl (fun c79 => ?_) (fun c79 => ?_)
      ·replace H := aZ c79 H;refine af <| aa ?_;show AR _ _ _ _ _ [0] _;refine za rfl <| aj <| aK ?_;obtain rfl := ap H;exact And.intro rfl (Exists.intro _ (Exists.intro _ ⟨aJ rfl (.refl _), aH [] rfl, rfl, rfl⟩))
      ·replace H := ba c79 H;refine aC <| af <| aa ?_;show AR _ _ _ _ _ [0] _;refine za rfl <| aj <| bW ?_;exact Exists.intro 95 ⟨H, aQ [] (.cons (.refl _) (.cons (.refl _) (.cons (.refl _) (.cons (.refl _) (.nil _))))) rfl⟩
     ·replace H := ba c78 H;refine aC <| af <| af <| aa ?_;show AR _ _ _ _ _ [0, 1] _;refine zm rfl <| zS rfl (bC rfl rfl) <| aj <| ay rfl (fun c80 => ?_) (fun c80 => ?_)
      ·replace H := aZ c80 H;refine af <| aa ?_;show AR _ _ _ _ _ [0] _;refine za rfl <| aj <| aK ?_;obtain rfl := ap H;exact And.intro rfl (Exists.intro _ (Exists.intro _ ⟨aJ rfl (.refl _), aH [] rfl, rfl, rfl⟩))
      ·replace H := ba c80 H;refine aC <| aa ?_;show AR _ _ _ _ _ [0] _;refine za rfl <| aj ?_;exact Exists.intro 33 ⟨H, aQ [] (.cons (.refl _) (.cons (.refl _) (.cons (.refl _) (.cons (.refl _) (.nil _))))) rfl⟩
   rintro y81 H;replace H : dz y50 (eh F y15 y47 n52) y81 = some r2 := H
   unfold dz at H
   obtain ⟨g83, H⟩ := aP H;refine aa ?_;show AR _ _ _ _ _ [0, 1, 2] _;refine zm rfl <| zS rfl (bD rfl rfl g83) <| za rfl <| aj ?_;exact Exists.intro (n52, y81, y50 + 1) ⟨H, Nat.lt_succ_self _, aQ [] (.cons (.refl _) (.cons (.refl _) (.cons (.refl _) (.cons (.refl _) (.nil _))))) rfl⟩
  ·replace H := ba c53 H;refine bW ?_;exact Exists.intro y49 ⟨H, aQ [] (.cons (.refl _) (.nil _)) rfl⟩
 rintro y84 H;replace H : fB y84 = some r2 := H
 unfold fB at H
 refine af <| aa ?_;show AR _ _ _ _ _ [0, 1, 2] _;refine zm rfl <| zS rfl (iG rfl rfl) <| za rfl <| aj <| aK ?_;obtain rfl := ap H;exact And.intro rfl (Exists.intro _ (Exists.intro _ ⟨aJ rfl (.refl _), aH [] rfl, rfl, rfl⟩))
abbrev _root_.Go.Av.cf := @Tryz.underlying188
abbrev _root_.Go.Av.bp := @Tryz.underlying5
set_option maxRecDepth 100000 in
set_option maxHeartbeats 1000000 in
theorem pN (F : Nat) (a1 : List UInt8) (a2 : Int) (a3 : Int) (r4 : Int) (r5 : Int) (H : fH F a1 a2 a3 = some (r4, r5)) : ACalls Tryz.prog 163 [S a1, i64 a2, i64 a3] [] (Ret (.tup [.v (.int .u64 r4), jW 188 .i64 r5]) []) := by
 unfold fH at H
 refine aw Tryz.func163 rfl rfl ?_;show AW _ _ 172 _ _ _;refine af <| aa ?_;show AR _ _ _ _ _ [0, 1] _;refine za rfl <| za rfl <| aj <| af <| af <| aa ?_;show AR _ _ _ _ _ [0, 1] _;refine zm rfl <| zS rfl (cm rfl rfl) <| aj <| ay rfl (fun c6 => ?_) (fun c6 => ?_)
 ·replace H := aZ c6 H;refine af <| aa ?_;show AR _ _ _ _ _ [0, 1, 2] _;refine zS rfl (bH (a := .v _) cf rfl rfl) <| za rfl <| zS rfl (aY (av := .ifc _ _) rfl) <| aj <| aK ?_;obtain ⟨rfl, rfl⟩ := dX H;exact And.intro rfl (Exists.intro _ (Exists.intro _ ⟨bj rfl (.refl _) (.refl _), aH [] rfl, rfl, rfl⟩))
 ·replace H := ba c6 H;refine aC <| af <| aa ?_;show AR _ _ _ _ _ [0, 1, 2] _;refine zm rfl <| zS rfl (bC rfl rfl) <| za rfl <| aj <| af <| aa ?_;show AR _ _ _ _ _ [0, 1] _;refine zm rfl <| za rfl <| aj <| bt (X := Unit) (fun _ => ⟨[(0, S a1), (1, i64 a2), (2, i64 a3), (8, B (decide (a2 = 0))), (9, S a1)], [], []⟩) (fun _ => eI F a1 a2 a3 = some (r4, r5)) ?_ ?_
  ·refine aX <| af <| aa ?_;show AR _ _ _ _ _ [0, 1, 2, 3, 4, 5, 6] _;refine zm rfl <| zS rfl (dC rfl rfl) <| zm rfl <| bf (l := [6]) 31 (B ((decide (2 ≤ a2)) && (decide (a2 ≤ 36)))) (fun K => ?_) ?_
   ·rcases am (decide (2 ≤ a2)) with h7 | h7
    ·refine zM h7 rfl <| zU h7 rfl (dC rfl rfl) <| zS rfl (aB (av := .v _) rfl h7 rfl) ?_;exact K _ 2 _ (au (bN h7)) rfl rfl
    ·refine zF h7 rfl <| zF h7 rfl <| zS rfl (aD (av := .v _) rfl h7 rfl) ?_;exact K _ 2 _ (au (ca h7)) rfl rfl
   refine za rfl <| aj ?_;obtain ⟨g9, H⟩ := aP H;refine ay rfl (fun _ => ?_) (fun hx => dm g9 hx);refine aC ?_;exact Exists.intro () ⟨H, aQ [] (.cons (.refl _) (.cons (.refl _) (.cons (.refl _) (.cons (.refl _) (.cons (.refl _) (.nil _)))))) rfl⟩
  rintro _ H;replace H : eI F a1 a2 a3 = some (r4, r5) := H
  unfold eI at H
  refine bt (X := Unit) (fun _ => ⟨[(0, S a1), (1, i64 a2), (2, i64 64), (8, B (decide (a2 = 0))), (9, S a1)], [], []⟩) (fun _ => eJ F a1 a2 = some (r4, r5)) ?_ ?_
  ·refine af <| aa ?_;show AR _ _ _ _ _ [0, 1] _;refine zm rfl <| zS rfl (bC rfl rfl) <| aj ?_;obtain ⟨g12, H⟩ := aP H;refine ay rfl (fun _ => ?_) (fun hx => dm g12 hx);refine aa ?_;show AR _ _ _ _ _ [0] _;refine za rfl <| aj ?_;exact Exists.intro () ⟨H, aQ [] (.cons (.refl _) (.cons (.refl _) (.cons (.refl _) (.cons (.refl _) (.cons (.refl _) (.nil _)))))) rfl⟩
  rintro _ H;replace H : eJ F a1 a2 = some (r4, r5) := H
  unfold eJ at H
  refine af <| aa ?_;show AR _ _ _ _ _ [0] _;refine za rfl <| aj <| bt (X := Int) (fun y17 => ⟨[(0, S a1), (1, i64 a2), (2, i64 64), (8, B (decide (a2 = 0))), (9, S a1), (10, .v (.int .u64 y17))], [], []⟩) (fun y17 => dt F a1 a2 y17 = some (r4, r5)) ?_ ?_
  ·refine af <| aa ?_;show AR _ _ _ _ _ [0] _;refine zm rfl <| aj <| aX <| af <| aa ?_;show AR _ _ _ _ _ [0, 1] _;refine zS rfl (bC rfl rfl) <| za rfl <| aj <| ay rfl (fun c14 => ?_) (fun c14 => ?_)
   ·replace H := aZ c14 H;refine aa ?_;show AR _ _ _ _ _ [0] _;refine za rfl <| aj ?_;exact Exists.intro 1844674407370955162 ⟨H, aQ [] (.cons (.refl _) (.cons (.refl _) (.cons (.refl _) (.cons (.refl _) (.cons (.refl _) (.cons (.refl _) (.nil _))))))) rfl⟩
   ·replace H := ba c14 H;refine af <| aa ?_;show AR _ _ _ _ _ [0, 1] _;refine zS rfl (bC rfl rfl) <| za rfl <| aj <| ay rfl (fun c15 => ?_) (fun c15 => ?_)
    ·replace H := aZ c15 H;refine aa ?_;show AR _ _ _ _ _ [0] _;refine za rfl <| aj ?_;exact Exists.intro 1152921504606846976 ⟨H, aQ [] (.cons (.refl _) (.cons (.refl _) (.cons (.refl _) (.cons (.refl _) (.cons (.refl _) (.cons (.refl _) (.nil _))))))) rfl⟩
    ·replace H := ba c15 H;obtain ⟨g16, H⟩ := aP H;refine aa ?_;show AR _ _ _ _ _ [0, 1, 2, 3, 4] _;refine zm rfl <| zS rfl (dY (by kernel_rfl) Tryz.underlying189 rfl) <| zS rfl (tV rfl rfl (of_decide_eq_true g16)) <| zS rfl (nH rfl rfl) <| za rfl <| aj ?_;exact Exists.intro (IntKind.u64.wrap ((IntKind.u64.wrap (Int.tdiv 18446744073709551615 (IntKind.u64.wrap a2))) + 1)) ⟨H, aQ [] (.cons (.refl _) (.cons (.refl _) (.cons (.refl _) (.cons (.refl _) (.cons (.refl _) (.cons (.refl _) (.nil _))))))) rfl⟩
  rintro y17 H;replace H : dt F a1 a2 y17 = some (r4, r5) := H
  unfold dt at H
  refine af ?_;obtain ⟨g19, H⟩ := aP H;refine aa ?_;show AR _ _ _ _ _ [0, 1, 2, 3, 4] _;refine zm rfl <| zS rfl (dY (by kernel_rfl) Tryz.underlying124 rfl) <| zS rfl (vr rfl rfl (of_decide_eq_true g19)) <| zS rfl (nG rfl rfl) <| za rfl <| aj <| af <| aa ?_;show AR _ _ _ _ _ [0] _;refine za rfl <| aj <| af <| aa ?_;show AR _ _ _ _ _ [0] _;refine za rfl <| aj <| bt (X := Bool × Int) (fun (y53, y54) => ⟨[(9, S a1), (12, B y53), (13, .v (.int .u64 y54))], [], []⟩) (fun (y53, y54) => eK F a1 y53 y54 = some (r4, r5)) ?_ ?_
  ·refine af ?_;obtain ⟨g20, H⟩ := aP H;refine aa ?_;show AR _ _ _ _ _ [0, 1, 2, 3] _;refine zm rfl <| zX rfl (nX (bytes := 1) ac an bp rfl g20) ?_;rintro _ _ ⟨t21, rfl, rfl⟩;refine zS rfl (bn an rfl) <| zm rfl <| aj <| aX <| cA (X := Nat × Bool × Int × Int) (fun (n26, y22, y23, y24) => ⟨[(1, i64 a2), (8, B (decide (a2 = 0))), (9, S a1), (10, .v (.int .u64 y17)), (11, .v (.int .u64 (IntKind.u64.wrap ((IntKind.u64.wrap (1 * 2 ^ min (Int.toNat (IntKind.u64.wrap 64)) IntKind.u64.bits)) - 1)))), (12, B y22), (13, .v (.int .u64 y23)), (99, slE Enc.byte a1 (some t21)), (100, i64 (a1.length : Int)), (101, i64 y24)], [], [.tok t21 5]⟩) (fun (n26, y22, y23, y24) => cd F a1 a2 y17 n26 (y22, y23, y24) = some (r4, r5)) (fun (n26, y22, y23, y24) => n26) (F, false, 0, 0) H (aQ [0] (.cons (.refl _) (.cons (.refl _) (.cons (.refl _) (.cons (.refl _) (.cons (.refl _) (.cons (.refl _) (.cons (.refl _) (.cons (.refl _) (.cons (.refl _) (.cons (.refl _) (.nil _))))))))))) rfl) ?_;rintro ⟨n26, y22, y23, y24⟩ H;obtain ⟨n26, rfl, H⟩ := dx H;replace H : dN F a1 a2 y17 (cd F a1 a2 y17 n26) y22 y23 y24 = some (r4, r5) := H
   unfold dN at H
   refine af <| aa ?_;show AR _ _ _ _ _ [0] _;refine zS rfl (bQ rfl rfl) <| aj <| af <| ay rfl (fun c27 => ?_) (fun c27 => ?_)
   ·replace H := aZ c27 H;refine aC <| bt (X := Bool × Int) (fun (y49, y50) => ⟨[(1, i64 a2), (8, B (decide (a2 = 0))), (9, S a1), (10, .v (.int .u64 y17)), (11, .v (.int .u64 (IntKind.u64.wrap ((IntKind.u64.wrap (1 * 2 ^ min (Int.toNat (IntKind.u64.wrap 64)) IntKind.u64.bits)) - 1)))), (12, B y49), (13, .v (.int .u64 y50)), (99, slE Enc.byte a1 (some t21)), (100, i64 (a1.length : Int)), (101, i64 y24)], [], [.tok t21 5]⟩) (fun (y49, y50) => dM y24 (cd F a1 a2 y17 n26) y49 y50 = some (r4, r5)) ?_ ?_
    ·refine aX <| af ?_;obtain ⟨g28, H⟩ := aP H;obtain ⟨x29, e30, H⟩ := bM H;refine aa ?_;show AR _ _ _ _ _ [0, 1, 2] _;refine zS rfl (bV (E := Enc.byte) an (by kernel_rfl) rfl rfl g28 e30) <| zS rfl (bh bp rfl rfl) <| za rfl <| aj <| af <| aa ?_;show AR _ _ _ _ _ [0] _;refine za rfl <| aj <| bt (X := UInt8) (fun y43 => ⟨[(1, i64 a2), (8, B (decide (a2 = 0))), (9, S a1), (10, .v (.int .u64 y17)), (11, .v (.int .u64 (IntKind.u64.wrap ((IntKind.u64.wrap (1 * 2 ^ min (Int.toNat (IntKind.u64.wrap 64)) IntKind.u64.bits)) - 1)))), (12, B y22), (13, .v (.int .u64 y23)), (16, u8 y43), (99, slE Enc.byte a1 (some t21)), (100, i64 (a1.length : Int)), (101, i64 y24)], [], [.tok t21 5]⟩) (fun y43 => cW a2 y17 y22 y23 y24 (cd F a1 a2 y17 n26) y43 = some (r4, r5)) ?_ ?_
     ·refine aX <| af <| aa ?_;show AR _ _ _ _ _ [0, 1, 2, 3, 4, 5] _;refine zm rfl <| zS rfl (fw (a := x29) (b := 95) rfl rfl) <| zm rfl <| bf (l := [5]) 111 (B ((decide (x29 = 95)) && (decide (a2 = 0)))) (fun K => ?_) ?_
      ·rcases am (decide (x29 = 95)) with h31 | h31
       ·refine zM h31 rfl <| zS rfl (aB (av := .v _) rfl h31 rfl) ?_;exact K _ 1 _ (au (bN h31)) rfl rfl
       ·refine zF h31 rfl <| zS rfl (aD (av := .v _) rfl h31 rfl) ?_;exact K _ 1 _ (au (ca h31)) rfl rfl
      refine za rfl <| aj <| ay rfl (fun c32 => ?_) (fun c32 => ?_)
      ·replace H := aZ c32 H;refine af <| aa ?_;show AR _ _ _ _ _ [0] _;refine za rfl <| aj <| bW ?_;exact Exists.intro (true, y23) ⟨H, aQ [0] (.cons (.refl _) (.cons (.refl _) (.cons (.refl _) (.cons (.refl _) (.cons (.refl _) (.cons (.refl _) (.cons (.refl _) (.cons (.refl _) (.cons (.refl _) (.cons (.refl _) (.nil _))))))))))) rfl⟩
      ·replace H := ba c32 H;refine af <| aa ?_;show AR _ _ _ _ _ [0, 1, 2, 3, 4, 5, 6] _;refine zm rfl <| zS rfl (dC rfl rfl) <| zm rfl <| bf (l := [6]) 118 (B ((decide (48 ≤ (x29.toNat : Int))) && (decide ((x29.toNat : Int) ≤ 57)))) (fun K => ?_) ?_
       ·rcases am (decide (48 ≤ (x29.toNat : Int))) with h33 | h33
        ·refine zM h33 rfl <| zU h33 rfl (dC rfl rfl) <| zS rfl (aB (av := .v _) rfl h33 rfl) ?_;exact K _ 2 _ (au (bN h33)) rfl rfl
        ·refine zF h33 rfl <| zF h33 rfl <| zS rfl (aD (av := .v _) rfl h33 rfl) ?_;exact K _ 2 _ (au (ca h33)) rfl rfl
       refine za rfl <| aj <| ay rfl (fun c34 => ?_) (fun c34 => ?_)
       ·replace H := aZ c34 H;refine aa ?_;show AR _ _ _ _ _ [0, 1, 2] _;refine zm rfl <| zS rfl (qD (a := x29) (b := 48) rfl rfl) <| za rfl <| aj ?_;exact Exists.intro (x29 - 48) ⟨H, aQ [0] (.cons (.refl _) (.cons (.refl _) (.cons (.refl _) (.cons (.refl _) (.cons (.refl _) (.cons (.refl _) (.cons (.refl _) (.cons (.refl _) (.cons (.refl _) (.cons (.refl _) (.cons (.refl _) (.nil _)))))))))))) rfl⟩
       ·replace H := ba c34 H;refine af ?_;obtain ⟨x35, e36, H⟩ := ci H;obtain ⟨x38, e39, H⟩ := gV H;refine aa ?_;show AR _ _ _ _ _ [0, 1, 2, 3, 4, 5, 6, 7, 8] _;refine zm rfl <| aq rfl rfl (aO rfl gS rfl (fJ F x29 x35 e36) ?_);refine zS rfl (dC rfl rfl) <| zm rfl <| bf (l := [8]) 129 (B ((decide (97 ≤ (x35.toNat : Int))) && (decide ((x38.toNat : Int) ≤ 122)))) (fun K => ?_) ?_
        ·rcases am (decide (97 ≤ (x35.toNat : Int))) with h37 | h37
         ·refine zM h37 rfl <| zT h37 rfl (aO rfl gS rfl (fJ F x29 x38 (e39 h37)) ?_);refine zU h37 rfl (dC rfl rfl) <| zS rfl (aB (av := .v _) rfl h37 rfl) ?_;exact K _ 3 _ (au (bN h37)) rfl rfl
         ·refine zF h37 rfl <| zF h37 rfl <| zF h37 rfl <| zS rfl (aD (av := .v _) rfl h37 rfl) ?_;exact K _ 3 _ (au (ca h37)) rfl rfl
        refine za rfl <| aj <| ay rfl (fun c40 => ?_) (fun c40 => ?_)
        ·replace H := aZ c40 H;obtain ⟨x41, e42, H⟩ := ci H;refine aa ?_;show AR _ _ _ _ _ [0, 1, 2, 3, 4] _;refine zm rfl <| aq rfl rfl (aO rfl gS rfl (fJ F x29 x41 e42) ?_);refine zS rfl (qD (a := x41) (b := 97) rfl rfl) <| zS rfl (g_add8 (a := x41 - 97) (b := 10) rfl rfl) <| za rfl <| aj ?_;exact Exists.intro ((x41 - 97) + 10) ⟨H, aQ [0] (.cons (.refl _) (.cons (.refl _) (.cons (.refl _) (.cons (.refl _) (.cons (.refl _) (.cons (.refl _) (.cons (.refl _) (.cons (.refl _) (.cons (.refl _) (.cons (.refl _) (.cons (.refl _) (.nil _)))))))))))) rfl⟩
        ·replace H := ba c40 H;refine af <| aa ?_;show AR _ _ _ _ _ [0, 1, 2] _;refine zS rfl (bH (a := .v _) cf rfl rfl) <| za rfl <| zS rfl (aY (av := .ifc _ _) rfl) <| aj <| aK ?_;obtain ⟨rfl, rfl⟩ := dX H;exact And.intro rfl (Exists.intro _ (Exists.intro _ ⟨bj rfl (.refl _) (.refl _), aH [] rfl, rfl, rfl⟩))
     rintro y43 H;replace H : cW a2 y17 y22 y23 y24 (cd F a1 a2 y17 n26) y43 = some (r4, r5) := H
     unfold cW at H
     refine af <| af <| aa ?_;show AR _ _ _ _ _ [0, 1, 2, 3] _;refine zm rfl <| zm rfl <| zS rfl (dU (by kernel_rfl) bp rfl) <| zS rfl (dd rfl rfl) <| aj <| ay rfl (fun c45 => ?_) (fun c45 => ?_)
     ·replace H := aZ c45 H;refine af <| aa ?_;show AR _ _ _ _ _ [0, 1, 2] _;refine zS rfl (bH (a := .v _) cf rfl rfl) <| za rfl <| zS rfl (aY (av := .ifc _ _) rfl) <| aj <| aK ?_;obtain ⟨rfl, rfl⟩ := dX H;exact And.intro rfl (Exists.intro _ (Exists.intro _ ⟨bj rfl (.refl _) (.refl _), aH [] rfl, rfl, rfl⟩))
     ·replace H := ba c45 H;refine aC <| af <| af <| aa ?_;show AR _ _ _ _ _ [0, 1, 2] _;refine zm rfl <| zm rfl <| zS rfl (dd rfl rfl) <| aj <| ay rfl (fun c46 => ?_) (fun c46 => ?_)
      ·replace H := aZ c46 H;refine af <| aa ?_;show AR _ _ _ _ _ [0, 1, 2, 3] _;refine zm rfl <| zS rfl (bH (a := .v _) cf rfl rfl) <| za rfl <| zS rfl (aY (av := .ifc _ _) rfl) <| aj <| aK ?_;obtain ⟨rfl, rfl⟩ := dX H;exact And.intro rfl (Exists.intro _ (Exists.intro _ ⟨bj rfl (.refl _) (.refl _), aH [] rfl, rfl, rfl⟩))
      ·replace H := ba c46 H;refine aC <| af <| aa ?_;show AR _ _ _ _ _ [0, 1, 2, 3, 4] _;refine zm rfl <| zm rfl <| zS rfl (dY (by kernel_rfl) Tryz.underlying189 rfl) <| zS rfl (tW rfl rfl) <| za rfl <| aj <| af <| aa ?_;show AR _ _ _ _ _ [0, 1, 2, 3, 4] _;refine zm rfl <| zm rfl <| zS rfl (dY (k' := .u8) (n := (y43.toNat : Int)) (by kernel_rfl) Tryz.underlying189 rfl) <| zS rfl (nH rfl rfl) <| za rfl <| aj <| af <| af <| aa ?_;show AR _ _ _ _ _ [0, 1, 2, 3, 4, 5, 6, 7] _;refine zm rfl <| zm rfl <| zS rfl (bQ rfl rfl) <| zm rfl <| bf (l := []) 159 (B ((decide (IntKind.u64.wrap ((IntKind.u64.wrap (y23 * (IntKind.u64.wrap a2))) + (IntKind.u64.wrap (y43.toNat : Int))) < IntKind.u64.wrap (y23 * (IntKind.u64.wrap a2)))) || (decide (IntKind.u64.wrap ((IntKind.u64.wrap (1 * 2 ^ min (Int.toNat (IntKind.u64.wrap 64)) IntKind.u64.bits)) - 1) < IntKind.u64.wrap ((IntKind.u64.wrap (y23 * (IntKind.u64.wrap a2))) + (IntKind.u64.wrap (y43.toNat : Int))))))) (fun K => ?_) ?_
       ·rcases am (decide (IntKind.u64.wrap ((IntKind.u64.wrap (y23 * (IntKind.u64.wrap a2))) + (IntKind.u64.wrap (y43.toNat : Int))) < IntKind.u64.wrap (y23 * (IntKind.u64.wrap a2)))) with h47 | h47
        ·refine zF h47 rfl <| zF h47 rfl <| zF h47 rfl <| zS rfl (aB (av := .v _) rfl h47 rfl) ?_;exact K _ 3 _ (au (iU h47)) rfl rfl
        ·refine zM h47 rfl <| zM h47 rfl <| zU h47 rfl (gg rfl rfl) <| zS rfl (aD (av := .v _) rfl h47 rfl) ?_;exact K _ 3 _ (au (iD h47)) rfl rfl
       refine aj <| ay rfl (fun c48 => ?_) (fun c48 => ?_)
       ·replace H := aZ c48 H;refine af <| aa ?_;show AR _ _ _ _ _ [0, 1, 2, 3] _;refine zm rfl <| zS rfl (bH (a := .v _) cf rfl rfl) <| za rfl <| zS rfl (aY (av := .ifc _ _) rfl) <| aj <| aK ?_;obtain ⟨rfl, rfl⟩ := dX H;exact And.intro rfl (Exists.intro _ (Exists.intro _ ⟨bj rfl (.refl _) (.refl _), aH [] rfl, rfl, rfl⟩))
       ·replace H := ba c48 H;refine aC <| aa ?_;show AR _ _ _ _ _ [0, 1] _;refine zm rfl <| za rfl <| aj ?_;exact Exists.intro (y22, IntKind.u64.wrap ((IntKind.u64.wrap (y23 * (IntKind.u64.wrap a2))) + (IntKind.u64.wrap (y43.toNat : Int)))) ⟨H, aQ [0] (.cons (.refl _) (.cons (.refl _) (.cons (.refl _) (.cons (.refl _) (.cons (.refl _) (.cons (.refl _) (.cons (.refl _) (.cons (.refl _) (.cons (.refl _) (.cons (.refl _) (.nil _))))))))))) rfl⟩
    rintro ⟨y49, y50⟩ H;replace H : dM y24 (cd F a1 a2 y17 n26) y49 y50 = some (r4, r5) := H
    unfold dM at H
    obtain ⟨g52, H⟩ := aP H;refine aa ?_;show AR _ _ _ _ _ [0, 1] _;refine zS rfl (bD rfl rfl g52) <| zm rfl <| aj ?_;exact Exists.intro (n26, y49, y50, y24 + 1) ⟨H, Nat.lt_succ_self _, aQ [0] (.cons (.refl _) (.cons (.refl _) (.cons (.refl _) (.cons (.refl _) (.cons (.refl _) (.cons (.refl _) (.cons (.refl _) (.cons (.refl _) (.cons (.refl _) (.cons (.refl _) (.nil _))))))))))) rfl⟩
   ·replace H := ba c27 H;refine bW ?_;exact Exists.intro (y22, y23) ⟨H, aQ [] (.cons (.refl _) (.cons (.refl _) (.cons (.refl _) (.nil _)))) rfl⟩
  rintro ⟨y53, y54⟩ H;replace H : eK F a1 y53 y54 = some (r4, r5) := H
  unfold eK at H
  refine af <| af ?_;obtain ⟨x57, e58, H⟩ := gV H;refine aa ?_;show AR _ _ _ _ _ [0, 1, 2, 3, 4, 5] _;refine zm rfl <| zm rfl <| bf (l := []) 169 (B (y53 && (!x57))) (fun K => ?_) ?_
  ·rcases am y53 with h56 | h56
   ·refine zM h56 rfl <| zT h56 rfl (aO rfl wG rfl (ni F a1 x57 (e58 h56)) ?_);refine zU h56 rfl (bS rfl) <| zS rfl (aB (av := .v _) rfl h56 rfl) ?_;exact K _ 3 _ (au (bN h56)) rfl rfl
   ·refine zF h56 rfl <| zF h56 rfl <| zF h56 rfl <| zS rfl (aD (av := .v _) rfl h56 rfl) ?_;exact K _ 3 _ (au (ca h56)) rfl rfl
  refine aj <| ay rfl (fun c59 => ?_) (fun c59 => ?_)
  ·replace H := aZ c59 H;refine af <| aa ?_;show AR _ _ _ _ _ [0, 1, 2] _;refine zS rfl (bH (a := .v _) cf rfl rfl) <| za rfl <| zS rfl (aY (av := .ifc _ _) rfl) <| aj <| aK ?_;obtain ⟨rfl, rfl⟩ := dX H;exact And.intro rfl (Exists.intro _ (Exists.intro _ ⟨bj rfl (.refl _) (.refl _), aH [] rfl, rfl, rfl⟩))
  ·replace H := ba c59 H;refine aC <| af <| aa ?_;show AR _ _ _ _ _ [0, 1, 2] _;refine zm rfl <| za rfl <| za rfl <| aj <| aK ?_;obtain ⟨rfl, rfl⟩ := dX H;exact And.intro rfl (Exists.intro _ (Exists.intro _ ⟨bj rfl (.refl _) (.refl _), aH [] rfl, rfl, rfl⟩))
abbrev _root_.Go.Av.eU := @Tryz.underlying62
set_option maxRecDepth 100000 in
set_option maxHeartbeats 1000000 in
theorem qN (F : Nat) (a1 : List UInt8) (a2 : Int) (a3 : Int) (r4 : Int) (r5 : Int) (H : gA F a1 a2 a3 = some (r4, r5)) : ACalls Tryz.prog 161 [S a1, i64 a2, i64 a3] [] (Ret (.tup [i64 r4, jW 188 .i64 r5]) []) := by
 unfold gA at H
 refine aw Tryz.func161 rfl rfl ?_;show AW _ _ 73 _ _ _;refine af <| aa ?_;show AR _ _ _ _ _ [0, 1] _;refine za rfl <| za rfl <| aj <| af <| af <| aa ?_;show AR _ _ _ _ _ [0, 1] _;refine zm rfl <| zS rfl (cm rfl rfl) <| aj <| ay rfl (fun c6 => ?_) (fun c6 => ?_)
 ·replace H := aZ c6 H;refine af <| aa ?_;show AR _ _ _ _ _ [0, 1, 2] _;refine zS rfl (bH (a := .v _) cf rfl rfl) <| za rfl <| zS rfl (aY (av := .ifc _ _) rfl) <| aj <| aK ?_;obtain ⟨rfl, rfl⟩ := dX H;exact And.intro rfl (Exists.intro _ (Exists.intro _ ⟨bj rfl (.refl _) (.refl _), aH [] rfl, rfl, rfl⟩))
 ·replace H := ba c6 H;refine aC <| af <| aa ?_;show AR _ _ _ _ _ [0] _;refine za rfl <| aj <| bt (X := (List UInt8) × Bool) (fun (y18, y19) => ⟨[(0, S y18), (1, i64 a2), (2, i64 a3), (8, B y19)], [], []⟩) (fun (y18, y19) => dF F a2 a3 y18 y19 = some (r4, r5)) ?_ ?_
  ·refine af ?_;obtain ⟨g7, H⟩ := aP H;obtain ⟨x8, e9, H⟩ := bM H;refine aa ?_;show AR _ _ _ _ _ [0, 1] _;refine zm rfl <| zS rfl (bb ac rfl rfl g7 e9) <| aj <| aX <| af <| aa ?_;show AR _ _ _ _ _ [0, 1] _;refine zS rfl (fw (a := x8) (b := 43) rfl rfl) <| za rfl <| aj <| ay rfl (fun c10 => ?_) (fun c10 => ?_)
   ·replace H := aZ c10 H;obtain ⟨g11, H⟩ := aP H;obtain ⟨x12, e13, H⟩ := bM H;refine aa ?_;show AR _ _ _ _ _ [0, 1, 2] _;refine zm rfl <| zS rfl (dT ac rfl rfl g11 e13) <| za rfl <| aj ?_;exact Exists.intro (x12, false) ⟨H, aQ [] (.cons (.refl _) (.cons (.refl _) (.cons (.refl _) (.cons (.refl _) (.nil _))))) rfl⟩
   ·replace H := ba c10 H;refine af <| aa ?_;show AR _ _ _ _ _ [0, 1] _;refine zS rfl (fw (a := x8) (b := 45) rfl rfl) <| za rfl <| aj <| ay rfl (fun c14 => ?_) (fun c14 => ?_)
    ·replace H := aZ c14 H;refine af ?_;obtain ⟨g15, H⟩ := aP H;obtain ⟨x16, e17, H⟩ := bM H;refine aa ?_;show AR _ _ _ _ _ [0, 1, 2] _;refine zm rfl <| zS rfl (dT ac rfl rfl g15 e17) <| za rfl <| aj <| aa ?_;show AR _ _ _ _ _ [0] _;refine za rfl <| aj ?_;exact Exists.intro (x16, true) ⟨H, aQ [] (.cons (.refl _) (.cons (.refl _) (.cons (.refl _) (.cons (.refl _) (.nil _))))) rfl⟩
    ·replace H := ba c14 H;refine aC ?_;exact Exists.intro (a1, false) ⟨H, aQ [] (.cons (.refl _) (.cons (.refl _) (.cons (.refl _) (.cons (.refl _) (.nil _))))) rfl⟩
  rintro ⟨y18, y19⟩ H;replace H : dF F a2 a3 y18 y19 = some (r4, r5) := H
  unfold dF at H
  refine af <| aa ?_;show AR _ _ _ _ _ [0] _;refine za rfl <| aj <| af ?_;obtain ⟨x21, x22, e23, H⟩ := cQ H;refine aa ?_;show AR _ _ _ _ _ [0, 1, 2, 3, 4, 5, 6, 7, 8] _;refine zm rfl <| zm rfl <| zm rfl <| aq rfl rfl (aO rfl wH rfl (pN F y18 a2 a3 x21 x22 e23) ?_);refine zS rfl (ah (av := .tup _) rfl) <| zS rfl (aL (av := .v _) rfl rfl) <| zS rfl (aL (av := jW _ _ _) rfl rfl) <| za rfl <| zS rfl (aY (av := jW _ _ _) rfl) <| aj <| af <| af <| aa ?_;show AR _ _ _ _ _ [0, 1, 2, 3, 4, 5, 6] _;refine zS rfl (ah (av := jW _ _ _) rfl) <| zS rfl (ng eU rfl rfl) <| zm rfl <| bf (l := []) 38 (B ((!decide (x22 = 0)) && (!decide (x22 = 1)))) (fun K => ?_) ?_
  ·rcases am (!decide (x22 = 0)) with h24 | h24
   ·refine zU h24 rfl (ah (av := jW _ _ _) rfl) <| zU h24 rfl (bH (a := .v _) cf rfl rfl) <| zU h24 rfl (vV (m := 1) eU rfl cf (by kernel_rfl) (by decide) rfl rfl) <| zS rfl (aB (av := .v _) rfl h24 rfl) ?_;exact K _ 3 _ (au (bN h24)) rfl rfl
   ·refine zF h24 rfl <| zF h24 rfl <| zF h24 rfl <| zS rfl (aD (av := .v _) rfl h24 rfl) ?_;exact K _ 3 _ (au (ca h24)) rfl rfl
  refine aj <| ay rfl (fun c25 => ?_) (fun c25 => ?_)
  ·replace H := aZ c25 H;refine af <| aa ?_;show AR _ _ _ _ _ [0, 1, 2] _;refine zS rfl (ah (av := jW _ _ _) rfl) <| za rfl <| zS rfl (aY (av := jW _ _ _) rfl) <| aj <| aK ?_;obtain ⟨rfl, rfl⟩ := dX H;exact And.intro rfl (Exists.intro _ (Exists.intro _ ⟨bj rfl (.refl _) (.refl _), aH [] rfl, rfl, rfl⟩))
  ·replace H := ba c25 H;refine aC <| bt (X := Unit) (fun _ => ⟨[(2, i64 64), (8, B y19), (9, .v (.int .u64 x21))], [], []⟩) (fun _ => fp y19 x21 = some (r4, r5)) ?_ ?_
   ·refine af <| aa ?_;show AR _ _ _ _ _ [0, 1] _;refine zm rfl <| zS rfl (bC rfl rfl) <| aj ?_;obtain ⟨g27, H⟩ := aP H;refine ay rfl (fun _ => ?_) (fun hx => dm g27 hx);refine aa ?_;show AR _ _ _ _ _ [0] _;refine za rfl <| aj ?_;exact Exists.intro () ⟨H, aQ [] (.cons (.refl _) (.cons (.refl _) (.cons (.refl _) (.nil _)))) rfl⟩
   rintro _ H;replace H : fp y19 x21 = some (r4, r5) := H
   unfold fp at H
   refine af ?_;obtain ⟨g29, H⟩ := aP H;refine aa ?_;show AR _ _ _ _ _ [0, 1, 2, 3, 4] _;refine zm rfl <| zS rfl (bU (av' := i64 63) (nZ rfl rfl (by decide)) rfl) <| zS rfl (dY (by kernel_rfl) Tryz.underlying124 rfl) <| zS rfl (vr rfl rfl (of_decide_eq_true g29)) <| za rfl <| aj <| af <| af <| aa ?_;show AR _ _ _ _ _ [0, 1, 2, 3, 4, 5, 6] _;refine zm rfl <| zS rfl (bS rfl) <| zm rfl <| bf (l := []) 52 (B ((!y19) && (decide (IntKind.u64.wrap (1 * 2 ^ min (Int.toNat (IntKind.u64.wrap 63)) IntKind.u64.bits) ≤ x21)))) (fun K => ?_) ?_
   ·rcases am (!y19) with h30 | h30
    ·refine zM h30 rfl <| zM h30 rfl <| zU h30 rfl (dd rfl rfl) <| zS rfl (aB (av := .v _) rfl h30 rfl) ?_;exact K _ 3 _ (au (bN h30)) rfl rfl
    ·refine zF h30 rfl <| zF h30 rfl <| zF h30 rfl <| zS rfl (aD (av := .v _) rfl h30 rfl) ?_;exact K _ 3 _ (au (ca h30)) rfl rfl
   refine aj <| ay rfl (fun c31 => ?_) (fun c31 => ?_)
   ·replace H := aZ c31 H;refine af ?_;obtain ⟨g32, H⟩ := aP H;refine aa ?_;show AR _ _ _ _ _ [0, 1, 2, 3, 4, 5] _;refine zm rfl <| zS rfl (nG rfl rfl) <| zS rfl (ot (by kernel_rfl) Tryz.underlying2 rfl g32) <| zS rfl (bH (a := .v _) cf rfl rfl) <| za rfl <| zS rfl (aY (av := .ifc _ _) rfl) <| aj <| aK ?_;obtain ⟨rfl, rfl⟩ := dX H;exact And.intro rfl (Exists.intro _ (Exists.intro _ ⟨bj rfl (.refl _) (.refl _), aH [] rfl, rfl, rfl⟩))
   ·replace H := ba c31 H;refine aC <| af <| af <| aa ?_;show AR _ _ _ _ _ [0, 1, 2, 3, 4, 5] _;refine zm rfl <| zm rfl <| bf (l := []) 62 (B (y19 && (decide (IntKind.u64.wrap (1 * 2 ^ min (Int.toNat (IntKind.u64.wrap 63)) IntKind.u64.bits) < x21)))) (fun K => ?_) ?_
    ·rcases am y19 with h33 | h33
     ·refine zM h33 rfl <| zM h33 rfl <| zU h33 rfl (gg rfl rfl) <| zS rfl (aB (av := .v _) rfl h33 rfl) ?_;exact K _ 3 _ (au (bN h33)) rfl rfl
     ·refine zF h33 rfl <| zF h33 rfl <| zF h33 rfl <| zS rfl (aD (av := .v _) rfl h33 rfl) ?_;exact K _ 3 _ (au (ca h33)) rfl rfl
    refine aj <| ay rfl (fun c34 => ?_) (fun c34 => ?_)
    ·replace H := aZ c34 H;refine af ?_;obtain ⟨g35, H⟩ := aP H;obtain ⟨g36, H⟩ := aP H;refine aa ?_;show AR _ _ _ _ _ [0, 1, 2, 3, 4, 5] _;refine zm rfl <| zS rfl (ot (by kernel_rfl) Tryz.underlying2 rfl g35) <| zS rfl (g_neg rfl g36) <| zS rfl (bH (a := .v _) cf rfl rfl) <| za rfl <| zS rfl (aY (av := .ifc _ _) rfl) <| aj <| aK ?_;obtain ⟨rfl, rfl⟩ := dX H;exact And.intro rfl (Exists.intro _ (Exists.intro _ ⟨bj rfl (.refl _) (.refl _), aH [] rfl, rfl, rfl⟩))
    ·replace H := ba c34 H;refine aC <| af ?_;obtain ⟨g37, H⟩ := aP H;refine aa ?_;show AR _ _ _ _ _ [0, 1, 2] _;refine zm rfl <| zS rfl (ot (by kernel_rfl) Tryz.underlying2 rfl g37) <| za rfl <| aj <| bt (X := Int) (fun y40 => ⟨[(11, i64 y40)], [], []⟩) (fun y40 => eu y40 = some (r4, r5)) ?_ ?_
     ·refine af <| aa ?_;show AR _ _ _ _ _ [0] _;refine zm rfl <| aj <| ay rfl (fun c38 => ?_) (fun c38 => ?_)
      ·replace H := aZ c38 H;obtain ⟨g39, H⟩ := aP H;refine aa ?_;show AR _ _ _ _ _ [0, 1, 2] _;refine zm rfl <| zS rfl (g_neg rfl g39) <| za rfl <| aj ?_;exact Exists.intro (0 - x21) ⟨H, aQ [] (.cons (.refl _) (.nil _)) rfl⟩
      ·replace H := ba c38 H;refine aC ?_;exact Exists.intro x21 ⟨H, aQ [] (.cons (.refl _) (.nil _)) rfl⟩
     rintro y40 H;replace H : eu y40 = some (r4, r5) := H
     unfold eu at H
     refine af <| aa ?_;show AR _ _ _ _ _ [0, 1, 2] _;refine zm rfl <| za rfl <| za rfl <| aj <| aK ?_;obtain ⟨rfl, rfl⟩ := dX H;exact And.intro rfl (Exists.intro _ (Exists.intro _ ⟨bj rfl (.refl _) (.refl _), aH [] rfl, rfl, rfl⟩))
set_option maxRecDepth 100000 in
set_option maxHeartbeats 1000000 in
theorem mW (F : Nat) (a1 : List UInt8) (a2 : Int) (a3 : Int) (r4 : Int) (r5 : Int) (H : dA F a1 a2 a3 = some (r4, r5)) : ACalls Tryz.prog 159 [S a1, i64 a2, i64 a3] [] (Ret (.tup [i64 r4, eAny 192 r5]) []) := by
 unfold dA at H
 refine aw Tryz.func159 rfl rfl ?_;show AW _ _ 25 _ _ _;refine af <| aa ?_;show AR _ _ _ _ _ [0, 1] _;refine za rfl <| za rfl <| aj <| af ?_;obtain ⟨x6, x7, e8, H⟩ := cQ H;refine aa ?_;show AR _ _ _ _ _ [0, 1, 2, 3, 4, 5, 6, 7, 8] _;refine zm rfl <| zm rfl <| zm rfl <| aq rfl rfl (aO rfl wJ rfl (qN F a1 a2 a3 x6 x7 e8) ?_);refine zS rfl (ah (av := .tup _) rfl) <| zS rfl (aL (av := .v _) rfl rfl) <| zS rfl (aL (av := jW _ _ _) rfl rfl) <| za rfl <| zS rfl (aY (av := jW _ _ _) rfl) <| aj <| af <| af <| aa ?_;show AR _ _ _ _ _ [0, 1] _;refine zS rfl (ah (av := jW _ _ _) rfl) <| zS rfl (ng eU rfl rfl) <| aj <| ay rfl (fun c9 => ?_) (fun c9 => ?_)
 ·replace H := aZ c9 H;refine af ?_;obtain ⟨g10, H⟩ := aP H;obtain ⟨g11, H⟩ := aP H;refine aa ?_;show AR _ _ _ _ _ [0, 1, 2, 3, 4, 5, 6, 7] _;refine zm rfl <| zm rfl <| zm rfl <| zm rfl <| zS rfl (ah (av := jW _ _ _) rfl) <| aq rfl rfl (aO rfl wI rfl (tC _ _ _ _ x7 (nh g10) (of_decide_eq_true g11)) ?_);refine za rfl <| zS rfl (aY (av := .ifc _ _) rfl) <| aj <| aK ?_;obtain ⟨rfl, rfl⟩ := dX H;exact And.intro rfl (Exists.intro _ (Exists.intro _ ⟨bj rfl (.refl _) (.ifc _ _), aH [] rfl, rfl, rfl⟩))
 ·replace H := ba c9 H;refine aC <| af <| aa ?_;show AR _ _ _ _ _ [0, 1, 2] _;refine zm rfl <| za rfl <| za rfl <| aj <| aK ?_;obtain ⟨rfl, rfl⟩ := dX H;exact And.intro rfl (Exists.intro _ (Exists.intro _ ⟨bj rfl (.refl _) (.refl _), aH [] rfl, rfl, rfl⟩))
end Go.Proofs.YteokdkimegepoaaGreatDoor
namespace Go.Pv
def jv (F : Nat) (a1 : Int) : Option Bool :=
bif (decide (0 ≤ a1)) && (decide (a1 < 55296)) then
  some true
else
  bif (decide (57343 < a1)) && (decide (a1 ≤ 1114111)) then
    some true
  else
    some false
def lv : Option Int :=
some (-1)
def eD (a1 : List UInt8) (rec11 : Nat → Option Int) (y10 : Nat) : Option Int :=
bif decide (y10 < a1.length) then
  grd (!(decide (((lK a1 y10).1 : Int) = 65533))) <|
  rec11 (y10 + (lK a1 y10).2)
else
  lv
def iy (a1 : List UInt8) (n : Nat) : Nat → Option Int :=
  loop (fun rec x => eD a1 rec x) n
def jo : Option Int :=
some (-1)
def iz (a1 : List UInt8) (x20 : List UInt8) (rec23 : Unit → Option Int) : Option Int :=
bif decide ((x20.length : Int) - 1 < (a1.length : Int)) then
  grd (cR ((x20.length : Int) - 1) a1.length) <|
  lt (at_ a1 ((x20.length : Int) - 1)) fun x27 =>
  grd (cR ((x20.length : Int) - 1) x20.length) <|
  lt (at_ x20 ((x20.length : Int) - 1)) fun x30 =>
  grd (!decide (x27 = x30)) <|
  grd (okI (((x20.length : Int) - 1) + 1)) <|
  grd (kw (((x20.length : Int) - 1) + 1) a1.length) <|
  lt (gk a1 (((x20.length : Int) - 1) + 1)) fun x35 =>
  grd (cR ((x20.length : Int) - 1) x20.length) <|
  lt (at_ x20 ((x20.length : Int) - 1)) fun x38 =>
  lt (Go.Lib.indexByte x35 x38) fun x40 =>
  grd (decide (x40 < 0)) <|
  some (-1)
else
  jo
def ko (a1 : List UInt8) (x20 : List UInt8) (n : Nat) : Unit → Option Int :=
  loop (fun rec x => iz a1 x20 rec) n
def iH (F : Nat) (a1 : List UInt8) (a2 : Int) : Option Int :=
bif (decide (0 ≤ a2)) && (decide (a2 < 128)) then
  lt (Go.Lib.indexByte a1 (Go.Av.toB a2)) fun x6 =>
  some x6
else
  bif decide (a2 = 65533) then
    iy a1 F 0
  else
    bnd (jv F a2) fun x17 =>
    bif !x17 then
      some (-1)
    else
      lt (cI a2) fun x20 =>
      grd (okI ((x20.length : Int) - 1)) <|
      ko a1 x20 F ()
def qC (F : Nat) (a1 : Int) : Option Bool :=
some (decide (8 < a1))
def iA (F : Nat) (a1 : List UInt8) (y11 : Int) : Option Int :=
bnd (iH F a1 y11) fun x13 =>
some x13
def jq : Option Int :=
some (-1)
def iC (F : Nat) (a1 : List UInt8) (a2 : List UInt8) (rec22 : Nat → Option Int) (y21 : Nat) : Option Int :=
bif decide (y21 < a1.length) then
  bnd (iH F a2 ((lK a1 y21).1 : Int)) fun x25 =>
  bif decide (0 ≤ x25) then
    some (y21 : Int)
  else
    rec22 (y21 + (lK a1 y21).2)
else
  jq
def iB (F : Nat) (a1 : List UInt8) (a2 : List UInt8) (n : Nat) : Nat → Option Int :=
  loop (fun rec x => iC F a1 a2 rec x) n
def jp (F : Nat) (a1 : List UInt8) (a2 : List UInt8) : Option Int :=
iB F a1 a2 F 0
def lJ (F : Nat) (a1 : List UInt8) (a2 : List UInt8) : Option Int :=
bif decide (a2 = ([] : List UInt8)) then
  some (-1)
else
  bif decide ((a2.length : Int) = 1) then
    grd (cR 0 a2.length) <|
    lt (at_ a2 0) fun x7 =>
    grd (okJ (x7.toNat : Int)) <|
    bif decide (128 ≤ (x7.toNat : Int)) then
      iA F a1 65533
    else
      iA F a1 (x7.toNat : Int)
  else
    bnd (qC F (a1.length : Int)) fun x15 =>
    grd (!x15) <|
    jp F a1 a2
def kV (F : Nat) (s chars : List UInt8) : Option Int := bif decide (8 < s.length) && decide (2 ≤ chars.length) then some (Go.Lib.indexAny s chars) else lJ F s chars
def gG (F : Nat) (a1 : List UInt8) (a2 : List UInt8) : Option Bool :=
grd (iY a2) <|
grd (okS a1.length) <|
grd (okS a2.length) <|
bnd (kV F a1 a2) fun x7 =>
some (decide (0 ≤ x7))
end Go.Pv
namespace Go.Proofs.YteokdkimegepoaaGreatDoor
open Go.RowKit Go.Av Go.Pv
theorem uh : ∀ (args : Array Value) (w : World), (callFunc 62 args).run Tryz.prog w = .ok (.enter 62 args) w := fun _ _ => by kernel_rfl
theorem sc : ∀ (args : Array Value) (w : World), (callFunc 105 args).run Tryz.prog w = .ok (.enter 105 args) w := fun _ _ => by kernel_rfl
theorem wO : ∀ (args : Array Value) (w : World), (callFunc 121 args).run Tryz.prog w = .ok (.enter 121 args) w := fun _ _ => by kernel_rfl
theorem wM : ∀ (args : Array Value) (w : World), (callFunc 133 args).run Tryz.prog w = .ok (.enter 133 args) w := fun _ _ => by kernel_rfl
theorem wK : ∀ (args : Array Value) (w : World), (callFunc 148 args).run Tryz.prog w = .ok (.enter 148 args) w := fun _ _ => by kernel_rfl
set_option maxRecDepth 100000 in
set_option maxHeartbeats 1000000 in
theorem tr (F : Nat) (a1 : Int) (r2 : Bool) (H : jv F a1 = some r2) : ACalls Tryz.prog 121 [.v (.int .i32 a1)] [] (Ret (B r2) []) := by
 unfold jv at H
 refine aw Tryz.func121 rfl rfl ?_;show AW _ _ 17 _ _ _;refine af <| aa ?_;show AR _ _ _ _ _ [0] _;refine za rfl <| aj <| af <| aX <| af <| aa ?_;show AR _ _ _ _ _ [0, 1, 2, 3, 4, 5, 6] _;refine zm rfl <| zS rfl (dC rfl rfl) <| zm rfl <| bf (l := [6]) 9 (B ((decide (0 ≤ a1)) && (decide (a1 < 55296)))) (fun K => ?_) ?_
 ·rcases am (decide (0 ≤ a1)) with h3 | h3
  ·refine zM h3 rfl <| zU h3 rfl (bQ rfl rfl) <| zS rfl (aB (av := .v _) rfl h3 rfl) ?_;exact K _ 2 _ (au (bN h3)) rfl rfl
  ·refine zF h3 rfl <| zF h3 rfl <| zS rfl (aD (av := .v _) rfl h3 rfl) ?_;exact K _ 2 _ (au (ca h3)) rfl rfl
 refine za rfl <| aj <| ay rfl (fun c4 => ?_) (fun c4 => ?_)
 ·replace H := aZ c4 H;refine af <| aa ?_;show AR _ _ _ _ _ [0] _;refine za rfl <| aj <| aK ?_;obtain rfl := ap H;exact And.intro rfl (Exists.intro _ (Exists.intro _ ⟨aJ rfl (.refl _), aH [] rfl, rfl, rfl⟩))
 ·replace H := ba c4 H;refine af <| aa ?_;show AR _ _ _ _ _ [0, 1, 2, 3, 4, 5, 6] _;refine zm rfl <| zS rfl (bQ rfl rfl) <| zm rfl <| bf (l := [6]) 16 (B ((decide (57343 < a1)) && (decide (a1 ≤ 1114111)))) (fun K => ?_) ?_
  ·rcases am (decide (57343 < a1)) with h5 | h5
   ·refine zM h5 rfl <| zU h5 rfl (dC rfl rfl) <| zS rfl (aB (av := .v _) rfl h5 rfl) ?_;exact K _ 2 _ (au (bN h5)) rfl rfl
   ·refine zF h5 rfl <| zF h5 rfl <| zS rfl (aD (av := .v _) rfl h5 rfl) ?_;exact K _ 2 _ (au (ca h5)) rfl rfl
  refine za rfl <| aj <| ay rfl (fun c6 => ?_) (fun c6 => ?_)
  ·replace H := aZ c6 H;refine af <| aa ?_;show AR _ _ _ _ _ [0] _;refine za rfl <| aj <| aK ?_;obtain rfl := ap H;exact And.intro rfl (Exists.intro _ (Exists.intro _ ⟨aJ rfl (.refl _), aH [] rfl, rfl, rfl⟩))
  ·replace H := ba c6 H;refine aC <| af <| aa ?_;show AR _ _ _ _ _ [0] _;refine za rfl <| aj <| aK ?_;obtain rfl := ap H;exact And.intro rfl (Exists.intro _ (Exists.intro _ ⟨aJ rfl (.refl _), aH [] rfl, rfl, rfl⟩))
set_option maxRecDepth 100000 in
set_option maxHeartbeats 1000000 in
theorem rm (F : Nat) (a1 : List UInt8) (a2 : Int) (r3 : Int) (H : iH F a1 a2 = some r3) : ACalls Tryz.prog 105 [S a1, .v (.int .i32 a2)] [] (Ret (i64 r3) []) := by
 unfold iH at H
 refine aw Tryz.func105 rfl rfl ?_;show AW _ _ 187 _ _ _;refine af <| aa ?_;show AR _ _ _ _ _ [0] _;refine za rfl <| aj <| aX <| af <| aa ?_;show AR _ _ _ _ _ [0, 1, 2, 3, 4, 5, 6] _;refine zm rfl <| zS rfl (dC rfl rfl) <| zm rfl <| bf (l := [6]) 166 (B ((decide (0 ≤ a2)) && (decide (a2 < 128)))) (fun K => ?_) ?_
 ·rcases am (decide (0 ≤ a2)) with h4 | h4
  ·refine zM h4 rfl <| zU h4 rfl (bQ rfl rfl) <| zS rfl (aB (av := .v _) rfl h4 rfl) ?_;exact K _ 2 _ (au (bN h4)) rfl rfl
  ·refine zF h4 rfl <| zF h4 rfl <| zS rfl (aD (av := .v _) rfl h4 rfl) ?_;exact K _ 2 _ (au (ca h4)) rfl rfl
 refine za rfl <| aj <| ay rfl (fun c5 => ?_) (fun c5 => ?_)
 ·replace H := aZ c5 H;refine af ?_;obtain ⟨x6, e7, H⟩ := bM H;refine aa ?_;show AR _ _ _ _ _ [0, 1, 2, 3, 4] _;refine zm rfl <| zm rfl <| zS rfl (dU (by kernel_rfl) bp rfl) <| aq rfl rfl (aO rfl uh rfl (show ACalls _ _ _ [] (Ret (i64 x6) []) from by subst e7; exact fe a1 (Go.Av.toB a2)) ?_);refine za rfl <| aj <| aK ?_;obtain rfl := ap H;exact And.intro rfl (Exists.intro _ (Exists.intro _ ⟨aJ rfl (.refl _), aH [] rfl, rfl, rfl⟩))
 ·replace H := ba c5 H;refine af <| aa ?_;show AR _ _ _ _ _ [0, 1, 2] _;refine zm rfl <| zS rfl (bC rfl rfl) <| za rfl <| aj <| ay rfl (fun c8 => ?_) (fun c8 => ?_)
  ·replace H := aZ c8 H;refine bt (X := Unit) (fun _ => ⟨[], [], []⟩) (fun _ => lv = some r3) ?_ ?_
   ·refine af <| aa ?_;show AR _ _ _ _ _ [0, 1] _;refine zm rfl <| zX rfl (mR ac rfl) ?_;rintro _ _ ⟨o9, rfl, rfl⟩;refine aj <| aX <| cA (X := Nat × Nat) (fun (n12, y10) => ⟨[(175, .pt o9 0)], [], [.iter o9 a1 y10]⟩) (fun (n12, y10) => iy a1 n12 y10 = some r3) (fun (n12, y10) => n12) (F, 0) H (aQ [0] (.cons (.refl _) (.nil _)) rfl) ?_;rintro ⟨n12, y10⟩ H;obtain ⟨n12, rfl, H⟩ := dx H;replace H : eD a1 (iy a1 n12) y10 = some r3 := H
    unfold eD at H
    refine af ?_
    rcases am (decide (y10 < a1.length)) with c13 | c13
    ·replace H := aZ c13 H;refine aa ?_;show AR _ _ _ _ _ [0, 1] _;refine zR rfl (ud (i := 0) rfl rfl c13) <| zS rfl (aL (av := .v _) rfl rfl) <| aj <| af <| ay rfl (fun _ => ?_) (fun hx => dm rfl hx);refine aC <| aX <| af <| aa ?_;show AR _ _ _ _ _ [0, 1, 2, 3] _;refine zS rfl (aL (av := .v _) rfl rfl) <| zS rfl (aL (av := .v _) rfl rfl) <| za rfl <| za rfl <| aj <| af <| aa ?_;show AR _ _ _ _ _ [0, 1] _;refine zm rfl <| zS rfl (bC rfl rfl) <| aj ?_;obtain ⟨g15, H⟩ := aP H;replace g15 := fn g15;refine ay rfl (fun hx => dm hx g15) (fun _ => ?_);refine aC ?_;exact Exists.intro (n12, y10 + (lK a1 y10).2) ⟨H, Nat.lt_succ_self _, aQ [0] (.cons (.refl _) (.nil _)) rfl⟩
    ·replace H := ba c13 H;refine aa ?_;show AR _ _ _ _ _ [0, 1] _;refine zR rfl (ue (i := 0) rfl rfl c13) <| zS rfl (aL (av := .v _) rfl rfl) <| aj <| af <| ay rfl (fun hx => dm hx rfl) (fun _ => ?_);refine bW ?_;exact Exists.intro () ⟨H, aQ [] (.nil _) rfl⟩
   rintro _ H;replace H : lv = some r3 := H
   unfold lv at H
   refine af <| aa ?_;show AR _ _ _ _ _ [0] _;refine za rfl <| aj <| aK ?_;obtain rfl := ap H;exact And.intro rfl (Exists.intro _ (Exists.intro _ ⟨aJ rfl (.refl _), aH [] rfl, rfl, rfl⟩))
  ·replace H := ba c8 H;refine af ?_;obtain ⟨x17, e18, H⟩ := ci H;refine aa ?_;show AR _ _ _ _ _ [0, 1, 2, 3] _;refine zm rfl <| aq rfl rfl (aO rfl wO rfl (tr F a2 x17 e18) ?_);refine zS rfl (bS rfl) <| za rfl <| aj <| ay rfl (fun c19 => ?_) (fun c19 => ?_)
   ·replace H := aZ c19 H;refine af <| aa ?_;show AR _ _ _ _ _ [0] _;refine za rfl <| aj <| aK ?_;obtain rfl := ap H;exact And.intro rfl (Exists.intro _ (Exists.intro _ ⟨aJ rfl (.refl _), aH [] rfl, rfl, rfl⟩))
   ·replace H := ba c19 H;refine AW.scope <| af ?_;obtain ⟨x20, e21, H⟩ := bM H;refine aa ?_;show AR _ _ _ _ _ [0, 1, 2] _;refine zm rfl <| zS rfl (ne Tryz.underlying21 ac rfl e21) <| za rfl <| aj <| af ?_;obtain ⟨g22, H⟩ := aP H;refine aa ?_;show AR _ _ _ _ _ [0, 1, 2, 3] _;refine zm rfl <| zS rfl (aW ac rfl) <| zS rfl (nZ rfl rfl g22) <| za rfl <| aj <| af <| aa ?_;show AR _ _ _ _ _ [0, 1] _;refine zm rfl <| za rfl <| aj <| af <| aa ?_;show AR _ _ _ _ _ [0] _;refine za rfl <| aj <| bt (X := Unit) (fun _ => ⟨[], [], []⟩) (fun _ => jo = some r3) ?_ ?_
    ·refine aX <| cA (X := Nat) (fun n24 => ⟨[(0, S a1), (7, S x20), (8, i64 ((x20.length : Int) - 1)), (9, i64 ((x20.length : Int) - 1)), (10, i64 0)], [], []⟩) (fun n24 => ko a1 x20 n24 () = some r3) (fun n24 => n24) F H (aQ [] (.cons (.refl _) (.cons (.refl _) (.cons (.refl _) (.cons (.refl _) (.cons (.refl _) (.nil _)))))) rfl) ?_;rintro n24 H;obtain ⟨n24, rfl, H⟩ := dx H;replace H : iz a1 x20 (ko a1 x20 n24) = some r3 := H
     unfold iz at H
     refine af <| af <| aa ?_;show AR _ _ _ _ _ [0, 1, 2, 3] _;refine zm rfl <| zm rfl <| zS rfl (aW ac rfl) <| zS rfl (bQ rfl rfl) <| aj <| ay rfl (fun c25 => ?_) (fun c25 => ?_)
     ·replace H := aZ c25 H;refine aC <| aX <| AW.scope <| af <| af ?_;obtain ⟨g26, H⟩ := aP H;obtain ⟨x27, e28, H⟩ := bM H;obtain ⟨g29, H⟩ := aP H;obtain ⟨x30, e31, H⟩ := bM H;refine bg (by kernel_rfl) ?_;show AI _ _ _ _ _ 7 (Array.replicate 7 false) _;refine zk 0 rfl (mv rfl) ?_;show AI _ _ _ _ _ _ #[true, false, false, false, false, false, false] _;refine zk 1 rfl (mv rfl) ?_;show AI _ _ _ _ _ _ #[true, true, false, false, false, false, false] _;refine zk 2 rfl (bb ac rfl rfl g26 e28) ?_;show AI _ _ _ _ _ _ #[true, true, true, false, false, false, false] _;refine zk 3 rfl (mv rfl) ?_;show AI _ _ _ _ _ _ #[true, true, true, true, false, false, false] _;refine zk 4 rfl (mv rfl) ?_;show AI _ _ _ _ _ _ #[true, true, true, true, true, false, false] _;refine zk 5 rfl (bb ac rfl rfl g29 e31) ?_;show AI _ _ _ _ _ _ #[true, true, true, true, true, true, false] _;refine zk 6 rfl (pw (a := x27) (b := x30) rfl rfl) ?_;show AI _ _ _ _ _ _ #[true, true, true, true, true, true, true] _;refine bm rfl ?_;obtain ⟨g44, H⟩ := aP H;refine ay rfl (fun _ => ?_) (fun hx => dm g44 hx);refine af ?_;obtain ⟨g33, H⟩ := aP H;obtain ⟨g34, H⟩ := aP H;obtain ⟨x35, e36, H⟩ := bM H;obtain ⟨g37, H⟩ := aP H;obtain ⟨x38, e39, H⟩ := bM H;obtain ⟨x40, e41, H⟩ := bM H;refine bg (by kernel_rfl) ?_;show AI _ _ _ _ _ 9 (Array.replicate 9 false) _;refine zk 0 rfl (mv rfl) ?_;show AI _ _ _ _ _ _ #[true, false, false, false, false, false, false, false, false] _
      refine zk 1 rfl (mv rfl) ?_;show AI _ _ _ _ _ _ #[true, true, false, false, false, false, false, false, false] _;refine zk 2 rfl (bD rfl rfl g33) ?_;show AI _ _ _ _ _ _ #[true, true, true, false, false, false, false, false, false] _;refine zk 3 rfl (dT ac rfl rfl g34 e36) ?_;show AI _ _ _ _ _ _ #[true, true, true, true, false, false, false, false, false] _;refine zk 4 rfl (mv rfl) ?_;show AI _ _ _ _ _ _ #[true, true, true, true, true, false, false, false, false] _;refine zk 5 rfl (mv rfl) ?_;show AI _ _ _ _ _ _ #[true, true, true, true, true, true, false, false, false] _;refine zk 6 rfl (bb ac rfl rfl g37 e39) ?_;show AI _ _ _ _ _ _ #[true, true, true, true, true, true, true, false, false] _;refine bc (i := 7) (by kernel_rfl) rfl rfl <| eE rfl uh rfl (show ACalls _ _ _ [] (Ret (i64 x40) []) from by subst e41; exact fe x35 x38) ?_;show AI _ _ _ _ _ _ #[true, true, true, true, true, true, true, true, false] _;refine zk 8 rfl (asg rfl) ?_;show AI _ _ _ _ _ _ #[true, true, true, true, true, true, true, true, true] _;refine bm rfl <| af <| af <| aa ?_;show AR _ _ _ _ _ [0, 1] _;refine zm rfl <| zS rfl (bQ rfl rfl) <| aj ?_;obtain ⟨g43, H⟩ := aP H;refine ay rfl (fun _ => ?_) (fun hx => dm g43 hx);refine af <| aa ?_;show AR _ _ _ _ _ [0] _;refine za rfl <| aj <| aK ?_;obtain rfl := ap H;exact And.intro rfl (Exists.intro _ (Exists.intro _ ⟨aJ rfl (.refl _), aH [] rfl, rfl, rfl⟩))
     ·replace H := ba c25 H;refine bW ?_;exact Exists.intro () ⟨H, aQ [] (.nil _) rfl⟩
    rintro _ H;replace H : jo = some r3 := H
    unfold jo at H
    refine af <| af <| aa ?_;show AR _ _ _ _ _ [0] _;refine za rfl <| aj <| aK ?_;obtain rfl := ap H;exact And.intro rfl (Exists.intro _ (Exists.intro _ ⟨aJ rfl (.refl _), aH [] rfl, rfl, rfl⟩))
set_option maxRecDepth 100000 in
set_option maxHeartbeats 1000000 in
theorem w_useSet (F : Nat) (a1 : Int) (r2 : Bool) (H : qC F a1 = some r2) : ACalls Tryz.prog 148 [i64 a1] [] (Ret (B r2) []) := by
 unfold qC at H
 refine aw Tryz.func148 rfl rfl ?_;show AW _ _ 5 _ _ _;refine af <| aa ?_;show AR _ _ _ _ _ [0] _;refine za rfl <| aj <| af <| aa ?_;show AR _ _ _ _ _ [0, 1, 2] _;refine zm rfl <| zS rfl (gg rfl rfl) <| za rfl <| aj <| aK ?_;obtain rfl := ap H;exact And.intro rfl (Exists.intro _ (Exists.intro _ ⟨aJ rfl (.refl _), aH [] rfl, rfl, rfl⟩))
set_option maxRecDepth 100000 in
set_option maxHeartbeats 1000000 in
theorem vL (F : Nat) (a1 : List UInt8) (a2 : List UInt8) (r3 : Int) (H : lJ F a1 a2 = some r3) : ACalls Tryz.prog 133 [S a1, S a2] [] (Ret (i64 r3) []) := by
 unfold lJ at H
 refine aw Tryz.func133 rfl rfl ?_;show AW _ _ 55 _ _ _;refine af <| aa ?_;show AR _ _ _ _ _ [0] _;refine za rfl <| aj <| af <| af <| aa ?_;show AR _ _ _ _ _ [0, 1] _;refine zm rfl <| zS rfl (cm rfl rfl) <| aj <| ay rfl (fun c4 => ?_) (fun c4 => ?_)
 ·replace H := aZ c4 H;refine af <| aa ?_;show AR _ _ _ _ _ [0] _;refine za rfl <| aj <| aK ?_;obtain rfl := ap H;exact And.intro rfl (Exists.intro _ (Exists.intro _ ⟨aJ rfl (.refl _), aH [] rfl, rfl, rfl⟩))
 ·replace H := ba c4 H;refine aC <| af <| af <| aa ?_;show AR _ _ _ _ _ [0, 1, 2] _;refine zm rfl <| zS rfl (aW ac rfl) <| zS rfl (bC rfl rfl) <| aj <| ay rfl (fun c5 => ?_) (fun c5 => ?_)
  ·replace H := aZ c5 H;refine af ?_;obtain ⟨g6, H⟩ := aP H;obtain ⟨x7, e8, H⟩ := bM H;obtain ⟨g9, H⟩ := aP H;refine aa ?_;show AR _ _ _ _ _ [0, 1, 2, 3] _;refine zm rfl <| zS rfl (bb ac rfl rfl g6 e8) <| zS rfl (rD (by kernel_rfl) Tryz.underlying21 rfl g9) <| za rfl <| aj <| bt (X := Int) (fun y11 => ⟨[(0, S a1), (5, .v (.int .i32 y11))], [], []⟩) (fun y11 => iA F a1 y11 = some r3) ?_ ?_
   ·refine af <| aa ?_;show AR _ _ _ _ _ [0, 1] _;refine zm rfl <| zS rfl (dd rfl rfl) <| aj <| ay rfl (fun c10 => ?_) (fun c10 => ?_)
    ·replace H := aZ c10 H;refine aa ?_;show AR _ _ _ _ _ [0] _;refine za rfl <| aj ?_;exact Exists.intro 65533 ⟨H, aQ [] (.cons (.refl _) (.cons (.refl _) (.nil _))) rfl⟩
    ·replace H := ba c10 H;refine aC ?_;exact Exists.intro (x7.toNat : Int) ⟨H, aQ [] (.cons (.refl _) (.cons (.refl _) (.nil _))) rfl⟩
   rintro y11 H;replace H : iA F a1 y11 = some r3 := H
   unfold iA at H
   refine af ?_;obtain ⟨x13, e14, H⟩ := ci H;refine aa ?_;show AR _ _ _ _ _ [0, 1, 2, 3] _;refine zm rfl <| zm rfl <| aq rfl rfl (aO rfl sc rfl (rm F a1 y11 x13 e14) ?_);refine za rfl <| aj <| aK ?_;obtain rfl := ap H;exact And.intro rfl (Exists.intro _ (Exists.intro _ ⟨aJ rfl (.refl _), aH [] rfl, rfl, rfl⟩))
  ·replace H := ba c5 H;refine aC <| bt (X := Unit) (fun _ => ⟨[(0, S a1), (1, S a2)], [], []⟩) (fun _ => jp F a1 a2 = some r3) ?_ ?_
   ·refine af ?_;obtain ⟨x15, e16, H⟩ := ci H;refine aa ?_;show AR _ _ _ _ _ [0, 1, 2] _;refine zm rfl <| zS rfl (aW ac rfl) <| aq rfl rfl (aO rfl wK rfl (w_useSet F (a1.length : Int) x15 e16) ?_);refine aj ?_;obtain ⟨g18, H⟩ := aP H;replace g18 := fn g18;refine ay rfl (fun hx => dm hx g18) (fun _ => ?_);refine aC ?_;exact Exists.intro () ⟨H, aQ [] (.cons (.refl _) (.cons (.refl _) (.nil _))) rfl⟩
   rintro _ H;replace H : jp F a1 a2 = some r3 := H
   unfold jp at H
   refine bt (X := Unit) (fun _ => ⟨[], [], []⟩) (fun _ => jq = some r3) ?_ ?_
   ·refine af <| aa ?_;show AR _ _ _ _ _ [0, 1] _;refine zm rfl <| zX rfl (mR ac rfl) ?_;rintro _ _ ⟨o20, rfl, rfl⟩;refine aj <| aX <| cA (X := Nat × Nat) (fun (n23, y21) => ⟨[(1, S a2), (45, .pt o20 0)], [], [.iter o20 a1 y21]⟩) (fun (n23, y21) => iB F a1 a2 n23 y21 = some r3) (fun (n23, y21) => n23) (F, 0) H (aQ [0] (.cons (.refl _) (.cons (.refl _) (.nil _))) rfl) ?_;rintro ⟨n23, y21⟩ H;obtain ⟨n23, rfl, H⟩ := dx H;replace H : iC F a1 a2 (iB F a1 a2 n23) y21 = some r3 := H
    unfold iC at H
    refine af ?_
    rcases am (decide (y21 < a1.length)) with c24 | c24
    ·replace H := aZ c24 H;refine aa ?_;show AR _ _ _ _ _ [0, 1] _;refine zR rfl (ud (i := 0) rfl rfl c24) <| zS rfl (aL (av := .v _) rfl rfl) <| aj <| af <| ay rfl (fun _ => ?_) (fun hx => dm rfl hx);refine aC <| aX <| af <| aa ?_;show AR _ _ _ _ _ [0, 1, 2, 3] _;refine zS rfl (aL (av := .v _) rfl rfl) <| zS rfl (aL (av := .v _) rfl rfl) <| za rfl <| za rfl <| aj <| af ?_;obtain ⟨x25, e26, H⟩ := ci H;refine aa ?_;show AR _ _ _ _ _ [0, 1, 2, 3] _;refine zm rfl <| zm rfl <| aq rfl rfl (aO rfl sc rfl (rm F a2 ((lK a1 y21).1 : Int) x25 e26) ?_);refine zS rfl (dd rfl rfl) <| aj <| ay rfl (fun c27 => ?_) (fun c27 => ?_)
     ·replace H := aZ c27 H;refine af <| aa ?_;show AR _ _ _ _ _ [0, 1] _;refine zm rfl <| za rfl <| aj <| aK ?_;obtain rfl := ap H;exact And.intro rfl (Exists.intro _ (Exists.intro _ ⟨aJ rfl (.refl _), aH [] rfl, rfl, rfl⟩))
     ·replace H := ba c27 H;refine aC ?_;exact Exists.intro (n23, y21 + (lK a1 y21).2) ⟨H, Nat.lt_succ_self _, aQ [0] (.cons (.refl _) (.cons (.refl _) (.nil _))) rfl⟩
    ·replace H := ba c24 H;refine aa ?_;show AR _ _ _ _ _ [0, 1] _;refine zR rfl (ue (i := 0) rfl rfl c24) <| zS rfl (aL (av := .v _) rfl rfl) <| aj <| af <| ay rfl (fun hx => dm hx rfl) (fun _ => ?_);refine bW ?_;exact Exists.intro () ⟨H, aQ [] (.nil _) rfl⟩
   rintro _ H;replace H : jq = some r3 := H
   unfold jq at H
   refine af <| aa ?_;show AR _ _ _ _ _ [0] _;refine za rfl <| aj <| aK ?_;obtain rfl := ap H;exact And.intro rfl (Exists.intro _ (Exists.intro _ ⟨aJ rfl (.refl _), aH [] rfl, rfl, rfl⟩))
theorem nw (F : Nat) (s chars : List UInt8) (x : Int) (h1 : iY chars = true) (h2 : okS s.length = true) (h3 : okS chars.length = true) (H : kV F s chars = some x) : ACalls Tryz.prog 133 [S s, S chars] [] (Ret (i64 x) []) := by
 unfold kV at H
 cases hb : (decide (8 < s.length) && decide (2 ≤ chars.length)) with
 | true =>
  rw [hb] at H
  obtain rfl := ap H
  simp only [Bool.and_eq_true, decide_eq_true_eq] at hb
  refine fU fun I A w vs hI hv => ?_
  obtain ⟨v1, r1, rfl, e1, hv⟩ := hv.out_cons;obtain ⟨v2, r2, rfl, e2, hv⟩ := hv.out_cons
  rw [hv.out_nil, jU e1, jU e2]
  refine (Tryz.strings_IndexAny_long (fun _ => by kernel_rfl) ⟨s.toArray⟩ ⟨chars.toArray⟩ w (by simpa [ByteArray.size] using hb.2) (by simpa [ByteArray.size] using hb.1) (by simpa [ByteArray.size] using nh h2) (by simpa [ByteArray.size] using nh h3) (fun j b hj => qB h1 j b (by simpa using hj))).mono fun e w' ⟨he, hw⟩ => ⟨by simpa using he, ?_⟩
  subst hw;exact ((Below.refl _ _).alloc (Nat.le_refl _) _).alloc (by simp) _
 | false => rw [hb] at H; exact vL F s chars x H
set_option maxRecDepth 100000 in
set_option maxHeartbeats 1000000 in
theorem qS (F : Nat) (a1 : List UInt8) (a2 : List UInt8) (r3 : Bool) (H : gG F a1 a2 = some r3) : ACalls Tryz.prog 158 [S a1, S a2] [] (Ret (B r3) []) := by
 unfold gG at H
 refine aw Tryz.func158 rfl rfl ?_;show AW _ _ 9 _ _ _;refine af <| aa ?_;show AR _ _ _ _ _ [0] _;refine za rfl <| aj <| af ?_;obtain ⟨g4, H⟩ := aP H;obtain ⟨g5, H⟩ := aP H;obtain ⟨g6, H⟩ := aP H;obtain ⟨x7, e8, H⟩ := ci H;refine aa ?_;show AR _ _ _ _ _ [0, 1, 2, 3, 4] _;refine zm rfl <| zm rfl <| aq rfl rfl (aO rfl wM rfl (nw F a1 a2 x7 g4 g5 g6 e8) ?_);refine zS rfl (dd rfl rfl) <| za rfl <| aj <| aK ?_;obtain rfl := ap H;exact And.intro rfl (Exists.intro _ (Exists.intro _ ⟨aJ rfl (.refl _), aH [] rfl, rfl, rfl⟩))
end Go.Proofs.YteokdkimegepoaaGreatDoor
namespace Go.Pv
def jg (F : Nat) (a1 : Int) : Option ((List UInt8) × Bool) :=
lj (!(((decide (a1 = 9)) || (decide (a1 = 10))) || (decide (a1 = 13)))) (kW F a1 32 55295) fun x7 =>
lj ((!(((decide (a1 = 9)) || (decide (a1 = 10))) || (decide (a1 = 13)))) && (!x7)) (kW F a1 57344 65533) fun x10 =>
lj (((!(((decide (a1 = 9)) || (decide (a1 = 10))) || (decide (a1 = 13)))) && (!x7)) && (!x10)) (kW F a1 65536 1114111) fun x13 =>
bif (((!(((decide (a1 = 9)) || (decide (a1 = 10))) || (decide (a1 = 13)))) && (!x7)) && (!x10)) && (!x13) then
  some (([] : List UInt8), false)
else
  grd (okJ a1) <|
  lt (cI a1) fun x17 =>
  some (x17, true)
def kd (F : Nat) : Option ((List (List UInt8 × Int))) :=
some ([(([97, 109, 112] : List UInt8), 38), (([108, 116] : List UInt8), 60), (([103, 116] : List UInt8), 62), (([113, 117, 111, 116] : List UInt8), 34), (([97, 112, 111, 115] : List UInt8), 39)] : List (List UInt8 × Int))
def dV (F : Nat) (a1 : List UInt8) (a2 : Int) : Option ((List UInt8) × Bool) :=
ff (!(decide (a1 = ([] : List UInt8)))) (cR 0 a1.length) <|
lt (at_ a1 0) fun x7 =>
ff (!((decide (a1 = ([] : List UInt8))) || (decide (x7 = 43)))) (cR 0 a1.length) <|
lt (at_ a1 0) fun x11 =>
ff (!(((decide (a1 = ([] : List UInt8))) || (decide (x7 = 43))) || (decide (x11 = 45)))) (cR 0 a1.length) <|
lt (at_ a1 0) fun x15 =>
lj (!((((decide (a1 = ([] : List UInt8))) || (decide (x7 = 43))) || (decide (x11 = 45))) || (decide (x15 = 95)))) (gG F a1 ([95] : List UInt8)) fun x18 =>
bif ((((decide (a1 = ([] : List UInt8))) || (decide (x7 = 43))) || (decide (x11 = 45))) || (decide (x15 = 95))) || x18 then
  some (([] : List UInt8), false)
else
  gW (dA F a1 a2 0) fun x21 x22 =>
  bif !decide (x22 = 0) then
    some (([] : List UInt8), false)
  else
    gW (jg F x21) fun x25 x26 =>
    some (x25, x26)
def iu (F : Nat) (a1 : List UInt8) : Option ((List UInt8) × Bool) :=
bnd (kd F) fun x4 =>
bif Go.Av.mhas x4 a1 then
  lt (cI (Go.Av.mget x4 a1)) fun x7 =>
  some (x7, true)
else
  lt (Go.Lib.trimPrefix a1 ([35, 120] : List UInt8), Go.Lib.hasPrefix a1 ([35, 120] : List UInt8)) fun x9 =>
  bif x9.2 then
    gW (dV F x9.1 16) fun x12 x13 =>
    some (x12, x13)
  else
    lt (Go.Lib.trimPrefix a1 ([35] : List UInt8), Go.Lib.hasPrefix a1 ([35] : List UInt8)) fun x15 =>
    bif x15.2 then
      gW (dV F x15.1 10) fun x18 x19 =>
      some (x18, x19)
    else
      some (([] : List UInt8), false)
def js (F : Nat) (a1 : List UInt8) : Option ((List UInt8) × Int) :=
grd (kw 1 a1.length) <|
lt (gk a1 1) fun x5 =>
grd (iY ([38, 59] : List UInt8)) <|
grd (okS x5.length) <|
grd (okS ([38, 59] : List UInt8).length) <|
bnd (kV F x5 ([38, 59] : List UInt8)) fun x10 =>
bnd (kW F x10 1 10) fun x12 =>
ff (!(!x12)) (okI (x10 + 1)) <|
ff (!(!x12)) (cR (x10 + 1) a1.length) <|
lt (at_ a1 (x10 + 1)) fun x17 =>
bif (!x12) || (decide (x17 = 38)) then
  some (([] : List UInt8), 0)
else
  grd (okI (x10 + 1)) <|
  grd (kE 1 (x10 + 1) a1.length) <|
  lt (sub a1 1 (x10 + 1)) fun x22 =>
  gW (iu F x22) fun x24 x25 =>
  bif !x25 then
    some (([] : List UInt8), 0)
  else
    grd (okI (x10 + 2)) <|
    some (x24, x10 + 2)
def iO (rec11 : ((List UInt8) × Bool × (List UInt8)) → Option ((List UInt8) × Bool)) (x25 : List UInt8) (x29 : List UInt8) (y35 : Bool) (y36 : List UInt8) (y37 : Int) : Option ((List UInt8) × Bool) :=
grd (okW x25 y36) <|
lt (x25 ++ y36) fun x40 =>
grd (kw y37 x29.length) <|
lt (gk x29 y37) fun x44 =>
rec11 (x44, y35, x40)
def jJ (F : Nat) (rec11 : ((List UInt8) × Bool × (List UInt8)) → Option ((List UInt8) × Bool)) (y6 : List UInt8) (y7 : Bool) (y9 : List UInt8) : Option ((List UInt8) × Bool) :=
lt (Go.Lib.indexByte y6 38) fun x13 =>
bif decide (x13 < 0) then
  grd (okW y9 y6) <|
  lt (y9 ++ y6) fun x17 =>
  grd (okW x17 []) <|
  some (x17, y7)
else
  grd (kw x13 y6.length) <|
  lt (to_ y6 x13) fun x22 =>
  grd (okW y9 x22) <|
  lt (y9 ++ x22) fun x25 =>
  grd (kw x13 y6.length) <|
  lt (gk y6 x13) fun x29 =>
  gW (js F x29) fun x31 x32 =>
  bif decide (x32 = 0) then
    iO rec11 x25 x29 false ([38] : List UInt8) 1
  else
    iO rec11 x25 x29 y7 x31 x32
def gC (F : Nat) (n : Nat) : ((List UInt8) × Bool × (List UInt8)) → Option ((List UInt8) × Bool) :=
  loop (fun rec x => jJ F rec x.1 x.2.1 x.2.2) n
def lh (F : Nat) (a1 : List UInt8) : Option ((List UInt8) × Bool) :=
gC F F (a1, true, [])
def kq (F : Nat) (a1 : List UInt8) : Option ((List UInt8) × Int) :=
gW (lh F a1) fun x4 x5 =>
bif !x5 then
  some (([] : List UInt8), 2)
else
  some (x4, 0)
end Go.Pv
namespace Go.Proofs.YteokdkimegepoaaGreatDoor
open Go.RowKit Go.Av Go.Pv
theorem oy : ∀ (args : Array Value) (w : World), (callFunc 28 args).run Tryz.prog w = .ok (.enter 28 args) w := fun _ _ => by kernel_rfl
theorem wy : ∀ (args : Array Value) (w : World), (callFunc 30 args).run Tryz.prog w = .ok (.enter 30 args) w := fun _ _ => by kernel_rfl
theorem wp : ∀ (args : Array Value) (w : World), (callFunc 62 args).run Tryz.prog w = .ok (.enter 62 args) w := fun _ _ => by kernel_rfl
theorem rJ : ∀ (args : Array Value) (w : World), (callFunc 93 args).run Tryz.prog w = .ok (.enter 93 args) w := fun _ _ => by kernel_rfl
theorem va : ∀ (args : Array Value) (w : World), (callFunc 108 args).run Tryz.prog w = .ok (.enter 108 args) w := fun _ _ => by kernel_rfl
theorem uX : ∀ (args : Array Value) (w : World), (callFunc 122 args).run Tryz.prog w = .ok (.enter 122 args) w := fun _ _ => by kernel_rfl
theorem uV : ∀ (args : Array Value) (w : World), (callFunc 133 args).run Tryz.prog w = .ok (.enter 133 args) w := fun _ _ => by kernel_rfl
theorem ly : ∀ (args : Array Value) (w : World), (callFunc 134 args).run Tryz.prog w = .ok (.enter 134 args) w := fun _ _ => by kernel_rfl
theorem uU : ∀ (args : Array Value) (w : World), (callFunc 135 args).run Tryz.prog w = .ok (.enter 135 args) w := fun _ _ => by kernel_rfl
theorem uS : ∀ (args : Array Value) (w : World), (callFunc 149 args).run Tryz.prog w = .ok (.enter 149 args) w := fun _ _ => by kernel_rfl
theorem qm : ∀ (args : Array Value) (w : World), (callFunc 150 args).run Tryz.prog w = .ok (.enter 150 args) w := fun _ _ => by kernel_rfl
theorem uR : ∀ (args : Array Value) (w : World), (callFunc 158 args).run Tryz.prog w = .ok (.enter 158 args) w := fun _ _ => by kernel_rfl
theorem uQ : ∀ (args : Array Value) (w : World), (callFunc 159 args).run Tryz.prog w = .ok (.enter 159 args) w := fun _ _ => by kernel_rfl
theorem uP : ∀ (args : Array Value) (w : World), (callFunc 160 args).run Tryz.prog w = .ok (.enter 160 args) w := fun _ _ => by kernel_rfl
set_option maxRecDepth 100000 in
set_option maxHeartbeats 1000000 in
theorem ux (F : Nat) (a1 : Int) (r2 : List UInt8) (r3 : Bool) (H : jg F a1 = some (r2, r3)) : ACalls Tryz.prog 160 [i64 a1] [] (Ret (.tup [S r2, B r3]) []) := by
 unfold jg at H
 refine aw Tryz.func160 rfl rfl ?_;show AW _ _ 35 _ _ _;refine af <| aa ?_;show AR _ _ _ _ _ [0, 1] _;refine za rfl <| za rfl <| aj <| af <| aa ?_;show AR _ _ _ _ _ [0, 1, 2, 3, 4, 5, 6, 7, 8, 9, 10] _;refine zm rfl <| zS rfl (bC rfl rfl) <| zm rfl <| bf (l := [6, 7, 8, 9, 10]) 10 (B ((decide (a1 = 9)) || (decide (a1 = 10)))) (fun K => ?_) ?_
 ·rcases am (decide (a1 = 9)) with h4 | h4
  ·refine zF h4 rfl <| zF h4 rfl <| zS rfl (aB (av := .v _) rfl h4 rfl) ?_;exact K _ 2 _ (au (iU h4)) rfl rfl
  ·refine zM h4 rfl <| zU h4 rfl (bC rfl rfl) <| zS rfl (aD (av := .v _) rfl h4 rfl) ?_;exact K _ 2 _ (au (iD h4)) rfl rfl
 refine zm rfl <| bf (l := [10]) 14 (B (((decide (a1 = 9)) || (decide (a1 = 10))) || (decide (a1 = 13)))) (fun K => ?_) ?_
 ·rcases am ((decide (a1 = 9)) || (decide (a1 = 10))) with h5 | h5
  ·refine zF h5 rfl <| zF h5 rfl <| zS rfl (aB (av := .v _) rfl h5 rfl) ?_;exact K _ 2 _ (au (iU h5)) rfl rfl
  ·refine zM h5 rfl <| zU h5 rfl (bC rfl rfl) <| zS rfl (aD (av := .v _) rfl h5 rfl) ?_;exact K _ 2 _ (au (iD h5)) rfl rfl
 refine za rfl <| aj <| af <| af ?_;obtain ⟨x7, e8, H⟩ := gV H;obtain ⟨x10, e11, H⟩ := gV H;obtain ⟨x13, e14, H⟩ := gV H;refine aa ?_;show AR _ _ _ _ _ [0, 1, 2, 3, 4, 5, 6, 7, 8, 9, 10, 11, 12, 13, 14, 15, 16] _;refine zm rfl <| zS rfl (bS rfl) <| zm rfl <| bf (l := [7, 8, 9, 10, 11, 12, 13, 14, 15, 16]) 21 (B ((!(((decide (a1 = 9)) || (decide (a1 = 10))) || (decide (a1 = 13)))) && (!x7))) (fun K => ?_) ?_
 ·rcases am (!(((decide (a1 = 9)) || (decide (a1 = 10))) || (decide (a1 = 13)))) with h6 | h6
  ·refine zM h6 rfl <| zT h6 rfl (aO rfl ly rfl (nD F a1 32 55295 x7 (e8 h6)) ?_);refine zU h6 rfl (bS rfl) <| zS rfl (aB (av := .v _) rfl h6 rfl) ?_;exact K _ 3 _ (au (bN h6)) rfl rfl
  ·refine zF h6 rfl <| zF h6 rfl <| zF h6 rfl <| zS rfl (aD (av := .v _) rfl h6 rfl) ?_;exact K _ 3 _ (au (ca h6)) rfl rfl
 refine zm rfl <| bf (l := [12, 13, 14, 15, 16]) 26 (B (((!(((decide (a1 = 9)) || (decide (a1 = 10))) || (decide (a1 = 13)))) && (!x7)) && (!x10))) (fun K => ?_) ?_
 ·rcases am ((!(((decide (a1 = 9)) || (decide (a1 = 10))) || (decide (a1 = 13)))) && (!x7)) with h9 | h9
  ·refine zM h9 rfl <| zT h9 rfl (aO rfl ly rfl (nD F a1 57344 65533 x10 (e11 h9)) ?_);refine zU h9 rfl (bS rfl) <| zS rfl (aB (av := .v _) rfl h9 rfl) ?_;exact K _ 3 _ (au (bN h9)) rfl rfl
  ·refine zF h9 rfl <| zF h9 rfl <| zF h9 rfl <| zS rfl (aD (av := .v _) rfl h9 rfl) ?_;exact K _ 3 _ (au (ca h9)) rfl rfl
 refine zm rfl <| bf (l := []) 31 (B ((((!(((decide (a1 = 9)) || (decide (a1 = 10))) || (decide (a1 = 13)))) && (!x7)) && (!x10)) && (!x13))) (fun K => ?_) ?_
 ·rcases am (((!(((decide (a1 = 9)) || (decide (a1 = 10))) || (decide (a1 = 13)))) && (!x7)) && (!x10)) with h12 | h12
  ·refine zM h12 rfl <| zT h12 rfl (aO rfl ly rfl (nD F a1 65536 1114111 x13 (e14 h12)) ?_);refine zU h12 rfl (bS rfl) <| zS rfl (aB (av := .v _) rfl h12 rfl) ?_;exact K _ 3 _ (au (bN h12)) rfl rfl
  ·refine zF h12 rfl <| zF h12 rfl <| zF h12 rfl <| zS rfl (aD (av := .v _) rfl h12 rfl) ?_;exact K _ 3 _ (au (ca h12)) rfl rfl
 refine aj <| ay rfl (fun c15 => ?_) (fun c15 => ?_)
 ·replace H := aZ c15 H;refine af <| aa ?_;show AR _ _ _ _ _ [0, 1] _;refine za rfl <| za rfl <| aj <| aK ?_;obtain ⟨rfl, rfl⟩ := dX H;exact And.intro rfl (Exists.intro _ (Exists.intro _ ⟨bj rfl (.refl _) (.refl _), aH [] rfl, rfl, rfl⟩))
 ·replace H := ba c15 H;refine aC <| af ?_;obtain ⟨g16, H⟩ := aP H;obtain ⟨x17, e18, H⟩ := bM H;refine aa ?_;show AR _ _ _ _ _ [0, 1, 2, 3, 4] _;refine zm rfl <| zS rfl (rD (by kernel_rfl) Tryz.underlying21 rfl g16) <| zS rfl (ne Tryz.underlying21 ac rfl e18) <| za rfl <| za rfl <| aj <| aK ?_;obtain ⟨rfl, rfl⟩ := dX H;exact And.intro rfl (Exists.intro _ (Exists.intro _ ⟨bj rfl (.refl _) (.refl _), aH [] rfl, rfl, rfl⟩))
abbrev _root_.Go.Av.eB := @Tryz.underlying181
set_option maxRecDepth 100000 in
set_option maxHeartbeats 1000000 in
theorem tn (F : Nat) (r1 : List (List UInt8 × Int)) (H : kd F = some r1) : ACalls Tryz.prog 149 [] [] (Ret (mpI .i32 r1) []) := by
 unfold kd at H
 refine aw Tryz.func149 rfl rfl ?_;show AW _ _ 3 _ _ _;refine af <| aa ?_;show AR _ _ _ _ _ [0] _;refine za rfl <| aj <| af <| aa ?_;show AR _ _ _ _ _ [0, 1, 2, 3, 4, 5, 6, 7] _;refine AM.make (k := .i32) rfl rfl <| AM.insert (s := ([97, 109, 112] : List UInt8)) rfl eB ac rfl (by decide) <| AM.insert (s := ([108, 116] : List UInt8)) rfl eB ac rfl (by decide) <| AM.insert (s := ([103, 116] : List UInt8)) rfl eB ac rfl (by decide) <| AM.insert (s := ([113, 117, 111, 116] : List UInt8)) rfl eB ac rfl (by decide) <| AM.insert (s := ([97, 112, 111, 115] : List UInt8)) rfl eB ac rfl (by decide) <| AM.done (es := ([(([97, 109, 112] : List UInt8), 38), (([108, 116] : List UInt8), 60), (([103, 116] : List UInt8), 62), (([113, 117, 111, 116] : List UInt8), 34), (([97, 112, 111, 115] : List UInt8), 39)] : List (List UInt8 × Int))) <| zS rfl (ah (av := mpI _ _) rfl) <| zS rfl (aY (av := mpI _ _) rfl) <| aj <| aK ?_;obtain rfl := ap H;exact And.intro rfl (Exists.intro _ (Exists.intro _ ⟨aJ rfl (.refl _), aH [] rfl, rfl, rfl⟩))
set_option maxRecDepth 100000 in
set_option maxHeartbeats 1000000 in
theorem ns (F : Nat) (a1 : List UInt8) (a2 : Int) (r3 : List UInt8) (r4 : Bool) (H : dV F a1 a2 = some (r3, r4)) : ACalls Tryz.prog 150 [S a1, i64 a2] [] (Ret (.tup [S r3, B r4]) []) := by
 unfold dV at H
 refine aw Tryz.func150 rfl rfl ?_;show AW _ _ 41 _ _ _;refine af <| aa ?_;show AR _ _ _ _ _ [0, 1] _;refine za rfl <| za rfl <| aj <| af <| af ?_;obtain ⟨g6, H⟩ := cG H;obtain ⟨x7, e8, H⟩ := bM H;obtain ⟨g10, H⟩ := cG H;obtain ⟨x11, e12, H⟩ := bM H;obtain ⟨g14, H⟩ := cG H;obtain ⟨x15, e16, H⟩ := bM H;obtain ⟨x18, e19, H⟩ := gV H;refine aa ?_;show AR _ _ _ _ _ [0, 1, 2, 3, 4, 5, 6, 7, 8, 9, 10, 11, 12, 13, 14, 15, 16, 17, 18, 19, 20] _;refine zm rfl <| zS rfl (cm rfl rfl) <| zm rfl <| bf (l := [7, 8, 9, 10, 11, 12, 13, 14, 15, 16, 17, 18, 19, 20]) 14 (B ((decide (a1 = ([] : List UInt8))) || (decide (x7 = 43)))) (fun K => ?_) ?_
 ·rcases am (decide (a1 = ([] : List UInt8))) with h5 | h5
  ·refine zF h5 rfl <| zF h5 rfl <| zF h5 rfl <| zS rfl (aB (av := .v _) rfl h5 rfl) ?_;exact K _ 3 _ (au (iU h5)) rfl rfl
  ·refine zM h5 rfl <| zU h5 rfl (bb ac rfl rfl (g6 (nf h5)) e8) <| zU h5 rfl (fw (a := x7) (b := 43) rfl rfl) <| zS rfl (aD (av := .v _) rfl h5 rfl) ?_;exact K _ 3 _ (au (iD h5)) rfl rfl
 refine zm rfl <| bf (l := [12, 13, 14, 15, 16, 17, 18, 19, 20]) 19 (B (((decide (a1 = ([] : List UInt8))) || (decide (x7 = 43))) || (decide (x11 = 45)))) (fun K => ?_) ?_
 ·rcases am ((decide (a1 = ([] : List UInt8))) || (decide (x7 = 43))) with h9 | h9
  ·refine zF h9 rfl <| zF h9 rfl <| zF h9 rfl <| zS rfl (aB (av := .v _) rfl h9 rfl) ?_;exact K _ 3 _ (au (iU h9)) rfl rfl
  ·refine zM h9 rfl <| zU h9 rfl (bb ac rfl rfl (g10 (nf h9)) e12) <| zU h9 rfl (fw (a := x11) (b := 45) rfl rfl) <| zS rfl (aD (av := .v _) rfl h9 rfl) ?_;exact K _ 3 _ (au (iD h9)) rfl rfl
 refine zm rfl <| bf (l := [17, 18, 19, 20]) 24 (B ((((decide (a1 = ([] : List UInt8))) || (decide (x7 = 43))) || (decide (x11 = 45))) || (decide (x15 = 95)))) (fun K => ?_) ?_
 ·rcases am (((decide (a1 = ([] : List UInt8))) || (decide (x7 = 43))) || (decide (x11 = 45))) with h13 | h13
  ·refine zF h13 rfl <| zF h13 rfl <| zF h13 rfl <| zS rfl (aB (av := .v _) rfl h13 rfl) ?_;exact K _ 3 _ (au (iU h13)) rfl rfl
  ·refine zM h13 rfl <| zU h13 rfl (bb ac rfl rfl (g14 (nf h13)) e16) <| zU h13 rfl (fw (a := x15) (b := 95) rfl rfl) <| zS rfl (aD (av := .v _) rfl h13 rfl) ?_;exact K _ 3 _ (au (iD h13)) rfl rfl
 refine zm rfl <| bf (l := []) 28 (B (((((decide (a1 = ([] : List UInt8))) || (decide (x7 = 43))) || (decide (x11 = 45))) || (decide (x15 = 95))) || x18)) (fun K => ?_) ?_
 ·rcases am ((((decide (a1 = ([] : List UInt8))) || (decide (x7 = 43))) || (decide (x11 = 45))) || (decide (x15 = 95))) with h17 | h17
  ·refine zF h17 rfl <| zF h17 rfl <| zS rfl (aB (av := .v _) rfl h17 rfl) ?_;exact K _ 2 _ (au (iU h17)) rfl rfl
  ·refine zM h17 rfl <| zT h17 rfl (aO rfl uR rfl (qS F a1 ([95] : List UInt8) x18 (e19 (nf h17))) ?_);refine zS rfl (aD (av := .v _) rfl h17 rfl) ?_;exact K _ 2 _ (au (iD h17)) rfl rfl
 refine aj <| ay rfl (fun c20 => ?_) (fun c20 => ?_)
 ·replace H := aZ c20 H;refine af <| aa ?_;show AR _ _ _ _ _ [0, 1] _;refine za rfl <| za rfl <| aj <| aK ?_;obtain ⟨rfl, rfl⟩ := dX H;exact And.intro rfl (Exists.intro _ (Exists.intro _ ⟨bj rfl (.refl _) (.refl _), aH [] rfl, rfl, rfl⟩))
 ·replace H := ba c20 H;refine aC <| af ?_;obtain ⟨x21, x22, e23, H⟩ := cQ H;refine aa ?_;show AR _ _ _ _ _ [0, 1, 2, 3, 4, 5, 6, 7] _;refine zm rfl <| zm rfl <| aq rfl rfl (aO rfl uQ rfl (mW F a1 a2 0 x21 x22 e23) ?_);refine zS rfl (ah (av := .tup _) rfl) <| zS rfl (aL (av := .v _) rfl rfl) <| zS rfl (aL (av := eAny _ _) rfl rfl) <| za rfl <| zS rfl (aY (av := eAny _ _) rfl) <| aj <| af <| af <| aa ?_;show AR _ _ _ _ _ [0, 1] _;refine zS rfl (ah (av := eAny _ _) rfl) <| zS rfl (uJ eU rfl rfl) <| aj <| ay rfl (fun c24 => ?_) (fun c24 => ?_)
  ·replace H := aZ c24 H;refine af <| aa ?_;show AR _ _ _ _ _ [0, 1] _;refine za rfl <| za rfl <| aj <| aK ?_;obtain ⟨rfl, rfl⟩ := dX H;exact And.intro rfl (Exists.intro _ (Exists.intro _ ⟨bj rfl (.refl _) (.refl _), aH [] rfl, rfl, rfl⟩))
  ·replace H := ba c24 H;refine aC <| af ?_;obtain ⟨x25, x26, e27, H⟩ := cQ H;refine aa ?_;show AR _ _ _ _ _ [0, 1, 2, 3, 4, 5] _;refine zm rfl <| aq rfl rfl (aO rfl uP rfl (ux F x21 x25 x26 e27) ?_);refine zS rfl (aL (av := .v _) rfl rfl) <| zS rfl (aL (av := .v _) rfl rfl) <| za rfl <| za rfl <| aj <| aK ?_;obtain ⟨rfl, rfl⟩ := dX H;exact And.intro rfl (Exists.intro _ (Exists.intro _ ⟨bj rfl (.refl _) (.refl _), aH [] rfl, rfl, rfl⟩))
set_option maxRecDepth 100000 in
set_option maxHeartbeats 1000000 in
theorem uv (F : Nat) (a1 : List UInt8) (r2 : List UInt8) (r3 : Bool) (H : iu F a1 = some (r2, r3)) : ACalls Tryz.prog 135 [S a1] [] (Ret (.tup [S r2, B r3]) []) := by
 unfold iu at H
 refine aw Tryz.func135 rfl rfl ?_;show AW _ _ 39 _ _ _;refine af <| aa ?_;show AR _ _ _ _ _ [0, 1] _;refine za rfl <| za rfl <| aj <| af <| af ?_;obtain ⟨x4, e5, H⟩ := ci H;refine aa ?_;show AR _ _ _ _ _ [0, 1, 2, 3, 4, 5, 6, 7] _;refine aq rfl rfl (aO rfl uS rfl (tn F x4 e5) ?_);refine zm rfl <| zS rfl (vW eB ac (fun _ => by kernel_rfl) rfl rfl) <| zS rfl (ah (av := .tup _) rfl) <| zS rfl (aL (av := .v _) rfl rfl) <| zS rfl (aL (av := .v _) rfl rfl) <| za rfl <| za rfl <| aj <| af <| aa ?_;show AR _ _ _ _ _ [0] _;refine zm rfl <| aj <| ay rfl (fun c6 => ?_) (fun c6 => ?_)
 ·replace H := aZ c6 H;refine af ?_;obtain ⟨x7, e8, H⟩ := bM H;refine aa ?_;show AR _ _ _ _ _ [0, 1, 2, 3] _;refine zm rfl <| zS rfl (ne Tryz.underlying21 ac rfl e8) <| za rfl <| za rfl <| aj <| aK ?_;obtain ⟨rfl, rfl⟩ := dX H;exact And.intro rfl (Exists.intro _ (Exists.intro _ ⟨bj rfl (.refl _) (.refl _), aH [] rfl, rfl, rfl⟩))
 ·replace H := ba c6 H;refine aC <| af <| af ?_;obtain ⟨x9, e10, H⟩ := bM H;refine aa ?_;show AR _ _ _ _ _ [0, 1, 2, 3, 4, 5, 6] _;refine zm rfl <| aq rfl rfl (aO rfl rJ rfl (show ACalls _ _ _ [] (Ret (.tup [S x9.1, B x9.2]) []) from by subst e10; exact kK a1 ([35, 120] : List UInt8)) ?_);refine zS rfl (ah (av := .tup _) rfl) <| zS rfl (aL (av := .v _) rfl rfl) <| zS rfl (aL (av := .v _) rfl rfl) <| za rfl <| za rfl <| aj <| af <| aa ?_;show AR _ _ _ _ _ [0] _;refine zm rfl <| aj <| ay rfl (fun c11 => ?_) (fun c11 => ?_)
  ·replace H := aZ c11 H;refine af ?_;obtain ⟨x12, x13, e14, H⟩ := cQ H;refine aa ?_;show AR _ _ _ _ _ [0, 1, 2, 3, 4, 5] _;refine zm rfl <| aq rfl rfl (aO rfl qm rfl (ns F x9.1 16 x12 x13 e14) ?_);refine zS rfl (aL (av := .v _) rfl rfl) <| zS rfl (aL (av := .v _) rfl rfl) <| za rfl <| za rfl <| aj <| aK ?_;obtain ⟨rfl, rfl⟩ := dX H;exact And.intro rfl (Exists.intro _ (Exists.intro _ ⟨bj rfl (.refl _) (.refl _), aH [] rfl, rfl, rfl⟩))
  ·replace H := ba c11 H;refine aC <| af <| af ?_;obtain ⟨x15, e16, H⟩ := bM H;refine aa ?_;show AR _ _ _ _ _ [0, 1, 2, 3, 4, 5, 6] _;refine zm rfl <| aq rfl rfl (aO rfl rJ rfl (show ACalls _ _ _ [] (Ret (.tup [S x15.1, B x15.2]) []) from by subst e16; exact kK a1 ([35] : List UInt8)) ?_);refine zS rfl (ah (av := .tup _) rfl) <| zS rfl (aL (av := .v _) rfl rfl) <| zS rfl (aL (av := .v _) rfl rfl) <| za rfl <| za rfl <| aj <| af <| aa ?_;show AR _ _ _ _ _ [0] _;refine zm rfl <| aj <| ay rfl (fun c17 => ?_) (fun c17 => ?_)
   ·replace H := aZ c17 H;refine af ?_;obtain ⟨x18, x19, e20, H⟩ := cQ H;refine aa ?_;show AR _ _ _ _ _ [0, 1, 2, 3, 4, 5] _;refine zm rfl <| aq rfl rfl (aO rfl qm rfl (ns F x15.1 10 x18 x19 e20) ?_);refine zS rfl (aL (av := .v _) rfl rfl) <| zS rfl (aL (av := .v _) rfl rfl) <| za rfl <| za rfl <| aj <| aK ?_;obtain ⟨rfl, rfl⟩ := dX H;exact And.intro rfl (Exists.intro _ (Exists.intro _ ⟨bj rfl (.refl _) (.refl _), aH [] rfl, rfl, rfl⟩))
   ·replace H := ba c17 H;refine aC <| af <| aa ?_;show AR _ _ _ _ _ [0, 1] _;refine za rfl <| za rfl <| aj <| aK ?_;obtain ⟨rfl, rfl⟩ := dX H;exact And.intro rfl (Exists.intro _ (Exists.intro _ ⟨bj rfl (.refl _) (.refl _), aH [] rfl, rfl, rfl⟩))
set_option maxRecDepth 100000 in
set_option maxHeartbeats 1000000 in
theorem tp (F : Nat) (a1 : List UInt8) (r2 : List UInt8) (r3 : Int) (H : js F a1 = some (r2, r3)) : ACalls Tryz.prog 122 [S a1] [] (Ret (.tup [S r2, i64 r3]) []) := by
 unfold js at H
 refine aw Tryz.func122 rfl rfl ?_;show AW _ _ 33 _ _ _;refine af <| aa ?_;show AR _ _ _ _ _ [0, 1] _;refine za rfl <| za rfl <| aj <| af ?_;obtain ⟨g4, H⟩ := aP H;obtain ⟨x5, e6, H⟩ := bM H;obtain ⟨g7, H⟩ := aP H;obtain ⟨g8, H⟩ := aP H;obtain ⟨g9, H⟩ := aP H;obtain ⟨x10, e11, H⟩ := ci H;refine aa ?_;show AR _ _ _ _ _ [0, 1, 2, 3] _;refine zm rfl <| zS rfl (dT ac rfl rfl g4 e6) <| aq rfl rfl (aO rfl uV rfl (nw F x5 ([38, 59] : List UInt8) x10 g7 g8 g9 e11) ?_);refine za rfl <| aj <| af <| af ?_;obtain ⟨x12, e13, H⟩ := ci H;obtain ⟨g15, H⟩ := cG H;obtain ⟨g16, H⟩ := cG H;obtain ⟨x17, e18, H⟩ := bM H;refine aa ?_;show AR _ _ _ _ _ [0, 1, 2, 3, 4, 5, 6, 7, 8, 9] _;refine zm rfl <| aq rfl rfl (aO rfl ly rfl (nD F x10 1 10 x12 e13) ?_);refine zS rfl (bS rfl) <| zm rfl <| bf (l := []) 19 (B ((!x12) || (decide (x17 = 38)))) (fun K => ?_) ?_
 ·rcases am (!x12) with h14 | h14
  ·refine zF h14 rfl <| zF h14 rfl <| zF h14 rfl <| zF h14 rfl <| zF h14 rfl <| zS rfl (aB (av := .v _) rfl h14 rfl) ?_;exact K _ 5 _ (au (iU h14)) rfl rfl
  ·refine zM h14 rfl <| zM h14 rfl <| zU h14 rfl (bD rfl rfl (g15 (nf h14))) <| zU h14 rfl (bb ac rfl rfl (g16 (nf h14)) e18) <| zU h14 rfl (fw (a := x17) (b := 38) rfl rfl) <| zS rfl (aD (av := .v _) rfl h14 rfl) ?_;exact K _ 5 _ (au (iD h14)) rfl rfl
 refine aj <| ay rfl (fun c19 => ?_) (fun c19 => ?_)
 ·replace H := aZ c19 H;refine af <| aa ?_;show AR _ _ _ _ _ [0, 1] _;refine za rfl <| za rfl <| aj <| aK ?_;obtain ⟨rfl, rfl⟩ := dX H;exact And.intro rfl (Exists.intro _ (Exists.intro _ ⟨bj rfl (.refl _) (.refl _), aH [] rfl, rfl, rfl⟩))
 ·replace H := ba c19 H;refine aC <| af ?_;obtain ⟨g20, H⟩ := aP H;obtain ⟨g21, H⟩ := aP H;obtain ⟨x22, e23, H⟩ := bM H;obtain ⟨x24, x25, e26, H⟩ := cQ H;refine aa ?_;show AR _ _ _ _ _ [0, 1, 2, 3, 4, 5, 6, 7, 8, 9] _;refine zm rfl <| zm rfl <| zS rfl (bD rfl rfl g20) <| zS rfl (bB ac rfl rfl rfl g21 e23) <| aq rfl rfl (aO rfl uU rfl (uv F x22 x24 x25 e26) ?_);refine zS rfl (ah (av := .tup _) rfl) <| zS rfl (aL (av := .v _) rfl rfl) <| zS rfl (aL (av := .v _) rfl rfl) <| za rfl <| za rfl <| aj <| af <| af <| aa ?_;show AR _ _ _ _ _ [0, 1] _;refine zm rfl <| zS rfl (bS rfl) <| aj <| ay rfl (fun c27 => ?_) (fun c27 => ?_)
  ·replace H := aZ c27 H;refine af <| aa ?_;show AR _ _ _ _ _ [0, 1] _;refine za rfl <| za rfl <| aj <| aK ?_;obtain ⟨rfl, rfl⟩ := dX H;exact And.intro rfl (Exists.intro _ (Exists.intro _ ⟨bj rfl (.refl _) (.refl _), aH [] rfl, rfl, rfl⟩))
  ·replace H := ba c27 H;refine aC <| af ?_;obtain ⟨g28, H⟩ := aP H;refine aa ?_;show AR _ _ _ _ _ [0, 1, 2, 3, 4] _;refine zm rfl <| zm rfl <| zS rfl (bD rfl rfl g28) <| za rfl <| za rfl <| aj <| aK ?_;obtain ⟨rfl, rfl⟩ := dX H;exact And.intro rfl (Exists.intro _ (Exists.intro _ ⟨bj rfl (.refl _) (.refl _), aH [] rfl, rfl, rfl⟩))
set_option maxRecDepth 100000 in
set_option maxHeartbeats 1000000 in
theorem uw (F : Nat) (a1 : List UInt8) (r2 : List UInt8) (r3 : Bool) (H : lh F a1 = some (r2, r3)) : ACalls Tryz.prog 108 [S a1] [] (Ret (.tup [S r2, B r3]) []) := by
 unfold lh at H
 refine aw Tryz.func108 rfl rfl ?_;show AW _ _ 36 _ _ _;refine af <| aa ?_;show AR _ _ _ _ _ [0, 1] _;refine za rfl <| za rfl <| aj <| af <| aa ?_;show AR _ _ _ _ _ [0] _;refine zX rfl (qi (zs := [(.pointer none), .slice none 0 0]) (by kernel_rfl)) ?_;rintro _ _ ⟨o4, rfl, rfl⟩;refine aj ?_
 refine gP 0 1 1 5 rfl rfl fun t5 => ?_
 show AW _ _ _ _ _ ⟨_, _, [.tok t5 5, .obj o4 [.v (.pointer none), slE Enc.byte [] (some t5)], .ty o4 60]⟩;refine af <| aa ?_;show AR _ _ _ _ _ [0] _;refine za rfl <| aj <| aX <| cA (X := Nat × (List UInt8) × Bool × AV × (List UInt8) × Nat) (fun (n12, y6, y7, t8, y9, t10) => ⟨[(0, S y6), (4, .pt o4 0), (5, B y7)], [], [.obj o4 [t8, slE Enc.byte y9 (some t10)], .ty o4 60, .tok t10 5]⟩) (fun (n12, y6, y7, t8, y9, t10) => gC F n12 (y6, y7, y9) = some (r2, r3) ∧ (t8 = .v (.pointer none) ∨ t8 = .pt o4 0)) (fun (n12, y6, y7, t8, y9, t10) => n12) (F, a1, true, (.v (.pointer none)), [], t5) ⟨H, .inl rfl⟩ (aQ [1, 1, 0] (.cons (.refl _) (.cons (.refl _) (.cons (.refl _) (.nil _)))) rfl) ?_;rintro ⟨n12, y6, y7, t8, y9, t10⟩ ⟨H, ht8⟩;obtain ⟨n12, rfl, H⟩ := dx H;replace H : jJ F (gC F n12) y6 y7 y9 = some (r2, r3) := H
 unfold jJ at H
 refine aX <| af ?_;obtain ⟨x13, e14, H⟩ := bM H;refine aa ?_;show AR _ _ _ _ _ [0, 1, 2] _;refine zm rfl <| aq rfl rfl (aO rfl wp rfl (show ACalls _ _ _ [] (Ret (i64 x13) []) from by subst e14; exact fe y6 38) ?_);refine za rfl <| aj <| af <| af <| aa ?_;show AR _ _ _ _ _ [0, 1] _;refine zm rfl <| zS rfl (bQ rfl rfl) <| aj <| ay rfl (fun c15 => ?_) (fun c15 => ?_)
 ·replace H := aZ c15 H;refine af ?_;obtain ⟨g16, H⟩ := aP H;obtain ⟨x17, e18, H⟩ := bM H;refine aa ?_;show AR _ _ _ _ _ [0, 1] _;refine zm rfl <| aq rfl rfl (aN [0, 0, 0] rfl oy rfl (dc  o4 (t8) ht8 y9 y6 t10 (okW_s g16)) rfl (fun c A' h => by cases h.1) ?_)
  rintro av A' ⟨h, t19, rfl⟩; cases h
  rw [e18]
  refine aj <| af ?_;obtain ⟨g20, H⟩ := aP H;refine aa ?_;show AR _ _ _ _ _ [0, 1, 2, 3] _;refine aq rfl rfl (aN [0, 1] rfl wy rfl (lD  o4 (.pt o4 0) x17 t19 (okW0_s g20)) rfl (fun c A' h => by cases h.1) ?_)
  rintro av A' ⟨h, rfl⟩; cases h
  refine zm rfl <| za rfl <| za rfl <| aj <| aK ?_;obtain ⟨rfl, rfl⟩ := dX H;exact And.intro rfl (Exists.intro _ (Exists.intro _ ⟨bj rfl (.refl _) (.refl _), aH [] rfl, rfl, rfl⟩))
 ·replace H := ba c15 H;refine aC <| af ?_;obtain ⟨g21, H⟩ := aP H;obtain ⟨x22, e23, H⟩ := bM H;obtain ⟨g24, H⟩ := aP H;obtain ⟨x25, e26, H⟩ := bM H;refine aa ?_;show AR _ _ _ _ _ [0, 1, 2, 3] _;refine zm rfl <| zm rfl <| zS rfl (nI ac rfl rfl g21 e23) <| aq rfl rfl (aN [0, 0, 0] rfl oy rfl (dc  o4 (t8) ht8 y9 x22 t10 (okW_s g24)) rfl (fun c A' h => by cases h.1) ?_)
  rintro av A' ⟨h, t27, rfl⟩; cases h
  rw [e26]
  refine aj <| af ?_;obtain ⟨g28, H⟩ := aP H;obtain ⟨x29, e30, H⟩ := bM H;refine aa ?_;show AR _ _ _ _ _ [0, 1, 2, 3] _;refine zm rfl <| zm rfl <| zS rfl (dT ac rfl rfl g28 e30) <| za rfl <| aj <| af ?_;obtain ⟨x31, x32, e33, H⟩ := cQ H;refine aa ?_;show AR _ _ _ _ _ [0, 1, 2, 3, 4, 5, 6] _;refine zm rfl <| aq rfl rfl (aO rfl uX rfl (tp F x29 x31 x32 e33) ?_);refine zS rfl (ah (av := .tup _) rfl) <| zS rfl (aL (av := .v _) rfl rfl) <| zS rfl (aL (av := .v _) rfl rfl) <| za rfl <| za rfl <| aj <| bt (X := Bool × (List UInt8) × Int) (fun (y35, y36, y37) => ⟨[(0, S x29), (4, .pt o4 0), (5, B y35), (7, S y36), (8, i64 y37)], [], [.obj o4 [.pt o4 0, slE Enc.byte x25 (some t27)], .ty o4 60, .tok t27 5]⟩) (fun (y35, y36, y37) => iO (gC F n12) x25 x29 y35 y36 y37 = some (r2, r3)) ?_ ?_
  ·refine af <| aa ?_;show AR _ _ _ _ _ [0, 1] _;refine zm rfl <| zS rfl (bC rfl rfl) <| aj <| ay rfl (fun c34 => ?_) (fun c34 => ?_)
   ·replace H := aZ c34 H;refine aa ?_;show AR _ _ _ _ _ [0, 1, 2] _;refine za rfl <| za rfl <| za rfl <| aj ?_;exact Exists.intro (false, ([38] : List UInt8), 1) ⟨H, aQ [0, 0, 0] (.cons (.refl _) (.cons (.refl _) (.cons (.refl _) (.cons (.refl _) (.cons (.refl _) (.nil _)))))) rfl⟩
   ·replace H := ba c34 H;refine aC ?_;exact Exists.intro (y7, x31, x32) ⟨H, aQ [0, 0, 0] (.cons (.refl _) (.cons (.refl _) (.cons (.refl _) (.cons (.refl _) (.cons (.refl _) (.nil _)))))) rfl⟩
  rintro ⟨y35, y36, y37⟩ H;replace H : iO (gC F n12) x25 x29 y35 y36 y37 = some (r2, r3) := H
  unfold iO at H
  refine af ?_;obtain ⟨g39, H⟩ := aP H;obtain ⟨x40, e41, H⟩ := bM H;refine aa ?_;show AR _ _ _ _ _ [0, 1] _;refine zm rfl <| aq rfl rfl (aN [0, 0, 0] rfl oy rfl (dc  o4 (.pt o4 0) (.inr rfl) x25 y36 t27 (okW_s g39)) rfl (fun c A' h => by cases h.1) ?_)
  rintro av A' ⟨h, t42, rfl⟩; cases h
  rw [e41]
  refine aj ?_;obtain ⟨g43, H⟩ := aP H;obtain ⟨x44, e45, H⟩ := bM H;refine aa ?_;show AR _ _ _ _ _ [0, 1, 2, 3] _;refine zm rfl <| zm rfl <| zS rfl (dT ac rfl rfl g43 e45) <| za rfl <| aj ?_;exact Exists.intro (n12, x44, y35, (.pt o4 0), x40, t42) ⟨⟨H, .inr rfl⟩, Nat.lt_succ_self _, aQ [0, 0, 0] (.cons (.refl _) (.cons (.refl _) (.cons (.refl _) (.nil _)))) rfl⟩
set_option maxRecDepth 100000 in
set_option maxHeartbeats 1000000 in
theorem sw (F : Nat) (a1 : List UInt8) (r2 : List UInt8) (r3 : Int) (H : kq F a1 = some (r2, r3)) : ACalls Tryz.prog 90 [S a1] [] (Ret (.tup [S r2, i64 r3]) []) := by
 unfold kq at H
 refine aw Tryz.func90 rfl rfl ?_;show AW _ _ 14 _ _ _;refine af <| aa ?_;show AR _ _ _ _ _ [0, 1] _;refine za rfl <| za rfl <| aj <| af ?_;obtain ⟨x4, x5, e6, H⟩ := cQ H;refine aa ?_;show AR _ _ _ _ _ [0, 1, 2, 3, 4, 5, 6] _;refine zm rfl <| aq rfl rfl (aO rfl va rfl (uw F a1 x4 x5 e6) ?_);refine zS rfl (ah (av := .tup _) rfl) <| zS rfl (aL (av := .v _) rfl rfl) <| zS rfl (aL (av := .v _) rfl rfl) <| za rfl <| za rfl <| aj <| af <| af <| aa ?_;show AR _ _ _ _ _ [0, 1] _;refine zm rfl <| zS rfl (bS rfl) <| aj <| ay rfl (fun c7 => ?_) (fun c7 => ?_)
 ·replace H := aZ c7 H;refine af <| aa ?_;show AR _ _ _ _ _ [0, 1] _;refine za rfl <| za rfl <| aj <| aK ?_;obtain ⟨rfl, rfl⟩ := dX H;exact And.intro rfl (Exists.intro _ (Exists.intro _ ⟨bj rfl (.refl _) (.refl _), aH [] rfl, rfl, rfl⟩))
 ·replace H := ba c7 H;refine aC <| af <| aa ?_;show AR _ _ _ _ _ [0, 1, 2] _;refine zm rfl <| za rfl <| za rfl <| aj <| aK ?_;obtain ⟨rfl, rfl⟩ := dX H;exact And.intro rfl (Exists.intro _ (Exists.intro _ ⟨bj rfl (.refl _) (.refl _), aH [] rfl, rfl, rfl⟩))
end Go.Proofs.YteokdkimegepoaaGreatDoor
namespace Go.Pv
def xmla_k1 : List UInt8 := [65, 66, 67, 68, 69, 70, 71, 72, 73, 74, 75, 76, 77, 78, 79, 80, 81, 82, 83, 84, 85, 86, 87, 88, 89, 90, 97, 98, 99, 100, 101, 102, 103, 104, 105, 106, 107, 108, 109, 110, 111, 112, 113, 114, 115, 116, 117, 118, 119, 120, 121, 122, 95, 48, 49, 50, 51, 52, 53, 54, 55, 56, 57, 45, 46, 58]
def xmla_k2 : List UInt8 := [65, 66, 67, 68, 69, 70, 71, 72, 73, 74, 75, 76, 77, 78, 79, 80, 81, 82, 83, 84, 85, 86, 87, 88, 89, 90, 97, 98, 99, 100, 101, 102, 103, 104, 105, 106, 107, 108, 109, 110, 111, 112, 113, 114, 115, 116, 117, 118, 119, 120, 121, 122, 95]
def ky : Option Bool :=
some true
def jD (a1 : List UInt8) (rec4 : Int → Option Bool) (y3 : Int) : Option Bool :=
bif decide (y3 < (a1.length : Int)) then
  grd (cR y3 a1.length) <|
  lt (at_ a1 y3) fun x8 =>
  lt (Go.Lib.indexByte xmla_k1 x8) fun x10 =>
  bif decide (x10 < 0) then
    some false
  else
    grd (okI (y3 + 1)) <|
    rec4 (y3 + 1)
else
  ky
def jC (a1 : List UInt8) (n : Nat) : Int → Option Bool :=
  loop (fun rec x => jD a1 rec x) n
def nB (F : Nat) (a1 : List UInt8) : Option Bool :=
jC a1 F 0
def mz (F : Nat) (a1 : List UInt8) : Option Bool :=
ff ((!decide (a1 = ([] : List UInt8))) && (decide ((a1.length : Int) ≤ 60))) (kw 1 a1.length) <|
lt (to_ a1 1) fun x6 =>
ff ((!decide (a1 = ([] : List UInt8))) && (decide ((a1.length : Int) ≤ 60))) (okS xmla_k2.length) <|
lt (Go.Lib.contains xmla_k2 x6) fun x9 =>
ff (((!decide (a1 = ([] : List UInt8))) && (decide ((a1.length : Int) ≤ 60))) && x9) (okS a1.length) <|
ff (((!decide (a1 = ([] : List UInt8))) && (decide ((a1.length : Int) ≤ 60))) && x9) (okS xmla_k1.length) <|
ff (((!decide (a1 = ([] : List UInt8))) && (decide ((a1.length : Int) ≤ 60))) && x9) (iY xmla_k1) <|
lt (Go.Lib.trimS a1 xmla_k1) fun x15 =>
lj ((((!decide (a1 = ([] : List UInt8))) && (decide ((a1.length : Int) ≤ 60))) && x9) && (decide (x15 = ([] : List UInt8)))) (nB F a1) fun x18 =>
some (((((!decide (a1 = ([] : List UInt8))) && (decide ((a1.length : Int) ≤ 60))) && x9) && (decide (x15 = ([] : List UInt8)))) && x18)
def cJ (F : Nat) (a1 : Bool) : Option (Res Unit) :=
bif !a1 then
  some (Res.pan 2)
else
  some (Res.ok ())
def fg (F : Nat) (a2 : List UInt8) (a3 : List (List UInt8)) (a5 : Int) (a6 : List (Int × (List UInt8) × (List UInt8) × List ((List UInt8) × List UInt8))) (a8 : List UInt8) : Option (Bool × (List UInt8)) :=
lt (Go.Lib.trimPrefix a2 a8, Go.Lib.hasPrefix a2 a8) fun x11 =>
some (x11.2, x11.1)
def iE (F : Nat) (a2 : List UInt8) (a3 : List (List UInt8)) (a5 : Int) (a6 : List (Int × (List UInt8) × (List UInt8) × List ((List UInt8) × List UInt8))) (a8 : List UInt8) : Option (Res ((List UInt8) × (List UInt8))) :=
grd (okS a2.length) <|
lt (Go.Lib.cut a2 a8) fun x12 =>
ge (cJ F x12.2.2) fun x14 =>
some (Res.ok (x12.1, x12.2.1))
def kb (F : Nat) (a2 : List UInt8) (a3 : List (List UInt8)) (a5 : Int) (a6 : List (Int × (List UInt8) × (List UInt8) × List ((List UInt8) × List UInt8))) : Option (Bool × (List UInt8)) :=
grd (okS ([9, 10, 13, 32] : List UInt8).length) <|
grd (iY ([9, 10, 13, 32] : List UInt8)) <|
lt (Go.Lib.trimLeftS a2 ([9, 10, 13, 32] : List UInt8)) fun x12 =>
some (decide ((x12.length : Int) < (a2.length : Int)), x12)
def jj (F : Nat) (a2 : List UInt8) (y21 : Int) : Option (Res ((List UInt8) × (List UInt8))) :=
grd (kw y21 a2.length) <|
lt (to_ a2 y21) fun x24 =>
bnd (mz F x24) fun x26 =>
ge (cJ F x26) fun x28 =>
grd (kw y21 a2.length) <|
lt (gk a2 y21) fun x32 =>
some (Res.ok (x24, x32))
def ki (F : Nat) (a2 : List UInt8) (rec11 : Int → Option (Res ((List UInt8) × (List UInt8)))) (y10 : Int) : Option (Res ((List UInt8) × (List UInt8))) :=
ff (decide (y10 < (a2.length : Int))) (cR y10 a2.length) <|
lt (at_ a2 y10) fun x15 =>
lt (Go.Lib.indexByte xmla_k1 x15) fun x17 =>
bif (decide (y10 < (a2.length : Int))) && (decide (0 ≤ x17)) then
  grd (okI (y10 + 1)) <|
  rec11 (y10 + 1)
else
  jj F a2 y10
def kh (F : Nat) (a2 : List UInt8) (n : Nat) : Int → Option (Res ((List UInt8) × (List UInt8))) :=
  loop (fun rec x => ki F a2 rec x) n
def kO (F : Nat) (a2 : List UInt8) (a3 : List (List UInt8)) (a5 : Int) (a6 : List (Int × (List UInt8) × (List UInt8) × List ((List UInt8) × List UInt8))) : Option (Res ((List UInt8) × (List UInt8))) :=
kh F a2 F 0
def iQ (F : Nat) (a1 : List UInt8) : Option (Res ((List UInt8))) :=
gW (kq F a1) fun x3 x4 =>
ge (cJ F (decide (x4 = 0))) fun x6 =>
some (Res.ok x3)
def my (F : Nat) (a2 : List UInt8) (a3 : List (List UInt8)) (a5 : Int) (a6 : List (Int × (List UInt8) × (List UInt8) × List ((List UInt8) × List UInt8))) (a8 : List UInt8) : Option ((List (Int × (List UInt8) × (List UInt8) × List ((List UInt8) × List UInt8)))) :=
bif !decide (a8 = ([] : List UInt8)) then
  grd (gQ (a6.length + ([(2, ([] : List UInt8), a8, ([] : List ((List UInt8) × List UInt8)))] : List (Int × (List UInt8) × (List UInt8) × List ((List UInt8) × List UInt8))).length)) <|
  lt (a6 ++ ([(2, ([] : List UInt8), a8, ([] : List ((List UInt8) × List UInt8)))] : List (Int × (List UInt8) × (List UInt8) × List ((List UInt8) × List UInt8)))) fun x14 =>
  some x14
else
  some a6
def kN (F : Nat) (a2 : List UInt8) (a3 : List (List UInt8)) (a5 : Int) (a6 : List (Int × (List UInt8) × (List UInt8) × List ((List UInt8) × List UInt8))) (a8 : List UInt8) : Option (Res ((List (Int × (List UInt8) × (List UInt8) × List ((List UInt8) × List UInt8))) × (List (List UInt8)))) :=
grd (okI ((a3.length : Int) - 1)) <|
ff (decide (0 ≤ (a3.length : Int) - 1)) (cR ((a3.length : Int) - 1) a3.length) <|
ff (decide (0 ≤ (a3.length : Int) - 1)) (cR ((a3.length : Int) - 1) a3.length) <|
lt (at_ a3 ((a3.length : Int) - 1)) fun x17 =>
ge (cJ F ((decide (0 ≤ (a3.length : Int) - 1)) && (decide (x17 = a8)))) fun x19 =>
grd (kw ((a3.length : Int) - 1) a3.length) <|
lt (to_ a3 ((a3.length : Int) - 1)) fun x23 =>
grd (gQ (a6.length + ([(1, a8, ([] : List UInt8), ([] : List ((List UInt8) × List UInt8)))] : List (Int × (List UInt8) × (List UInt8) × List ((List UInt8) × List UInt8))).length)) <|
lt (a6 ++ ([(1, a8, ([] : List UInt8), ([] : List ((List UInt8) × List UInt8)))] : List (Int × (List UInt8) × (List UInt8) × List ((List UInt8) × List UInt8)))) fun x27 =>
some (Res.ok (x27, x23))
def fF (F : Nat) (a2 : List UInt8) (a3 : List (List UInt8)) (a5 : Int) (a6 : List (Int × (List UInt8) × (List UInt8) × List ((List UInt8) × List UInt8))) (y15 : Int) : Option (Res (Bool × (List UInt8) × (List (Int × (List UInt8) × (List UInt8) × List ((List UInt8) × List UInt8))))) :=
bif decide (y15 = 0) then
  some (Res.ok (false, a2, a6))
else
  grd (kw y15 a2.length) <|
  lt (to_ a2 y15) fun x19 =>
  grd (kw y15 a2.length) <|
  lt (gk a2 y15) fun x22 =>
  ge (iQ F x19) fun x24 =>
  bif decide ((a3.length : Int) = 0) then
    bnd (mh F x19) fun x28 =>
    ge (cJ F (decide (x28 = ([] : List UInt8)))) fun x30 =>
    some (Res.ok (true, x22, a6))
  else
    bnd (my F x22 a3 a5 a6 x24) fun x33 =>
    some (Res.ok (true, x22, x33))
def jf (F : Nat) (a2 : List UInt8) (a3 : List (List UInt8)) (a5 : Int) (a6 : List (Int × (List UInt8) × (List UInt8) × List ((List UInt8) × List UInt8))) : Option (Res (Bool × (List UInt8) × (List (Int × (List UInt8) × (List UInt8) × List ((List UInt8) × List UInt8))))) :=
lt (Go.Lib.indexByte a2 60) fun x12 =>
bif decide (x12 < 0) then
  fF F a2 a3 a5 a6 (a2.length : Int)
else
  fF F a2 a3 a5 a6 x12
def jk (F : Nat) (a2 : List UInt8) (a3 : List (List UInt8)) (a5 : Int) (a6 : List (Int × (List UInt8) × (List UInt8) × List ((List UInt8) × List UInt8))) : Option (Res (Bool × (List UInt8))) :=
gW (fg F a2 a3 a5 a6 ([60, 33, 45, 45] : List UInt8)) fun x10 x11 =>
bif !x10 then
  some (Res.ok (false, x11))
else
  ge (iE F x11 a3 a5 a6 ([45, 45, 62] : List UInt8)) fun x14 =>
  some (Res.ok (true, x14.2))
def pb (F : Nat) (a2 : List UInt8) (a3 : List (List UInt8)) (a5 : Int) (a6 : List (Int × (List UInt8) × (List UInt8) × List ((List UInt8) × List UInt8))) : Option (Res (Bool × (List UInt8))) :=
gW (fg F a2 a3 a5 a6 ([60, 63] : List UInt8)) fun x10 x11 =>
bif !x10 then
  some (Res.ok (false, x11))
else
  ge (iE F x11 a3 a5 a6 ([63, 62] : List UInt8)) fun x14 =>
  some (Res.ok (true, x14.2))
def kP (F : Nat) (a2 : List UInt8) (a3 : List (List UInt8)) (a5 : Int) (a6 : List (Int × (List UInt8) × (List UInt8) × List ((List UInt8) × List UInt8))) : Option (Res (Bool × (List UInt8) × (List (Int × (List UInt8) × (List UInt8) × List ((List UInt8) × List UInt8))))) :=
gW (fg F a2 a3 a5 a6 ([60, 33, 91, 67, 68, 65, 84, 65, 91] : List UInt8)) fun x12 x13 =>
bif !x12 then
  some (Res.ok (false, x13, a6))
else
  ge (iE F x13 a3 a5 a6 ([93, 93, 62] : List UInt8)) fun x16 =>
  ge (cJ F (decide (0 < (a3.length : Int)))) fun x19 =>
  bnd (my F x16.2 a3 a5 a6 x16.1) fun x22 =>
  some (Res.ok (true, x16.2, x22))
def pa (F : Nat) (a2 : List UInt8) (a3 : List (List UInt8)) (a5 : Int) (a6 : List (Int × (List UInt8) × (List UInt8) × List ((List UInt8) × List UInt8))) : Option (Res (Bool × (List UInt8))) :=
gW (fg F a2 a3 a5 a6 ([60, 33] : List UInt8)) fun x10 x11 =>
bif !x10 then
  some (Res.ok (false, x11))
else
  ge (iE F x11 a3 a5 a6 ([62] : List UInt8)) fun x14 =>
  some (Res.ok (true, x14.2))
def iP (F : Nat) (a2 : List UInt8) (a3 : List (List UInt8)) (a5 : Int) (a6 : List (Int × (List UInt8) × (List UInt8) × List ((List UInt8) × List UInt8))) : Option (Res (Bool × (List UInt8) × (List (Int × (List UInt8) × (List UInt8) × List ((List UInt8) × List UInt8))) × (List (List UInt8)))) :=
gW (fg F a2 a3 a5 a6 ([60, 47] : List UInt8)) fun x14 x15 =>
bif !x14 then
  some (Res.ok (false, x15, a6, a3))
else
  ge (kO F x15 a3 a5 a6) fun x18 =>
  gW (kb F x18.2 a3 a5 a6) fun x21 x22 =>
  gW (fg F x22 a3 a5 a6 ([62] : List UInt8)) fun x24 x25 =>
  ge (cJ F x24) fun x27 =>
  ge (kN F x25 a3 a5 a6 x18.1) fun x30 =>
  some (Res.ok (true, x25, x30.1, x30.2))
def ix (F : Nat) (a3 : List (List UInt8)) (a5 : Int) (a6 : List (Int × (List UInt8) × (List UInt8) × List ((List UInt8) × List UInt8))) (x12 : (List UInt8) × (List UInt8)) (y26 : List UInt8) (y27 : List UInt8) : Option (Res ((List UInt8) × (List UInt8) × (List UInt8))) :=
ge (iE F y27 a3 a5 a6 y26) fun x29 =>
grd (okS x29.1.length) <|
lt (Go.Lib.contains x29.1 ([60] : List UInt8)) fun x33 =>
ge (cJ F (!x33)) fun x35 =>
ge (iQ F x29.1) fun x38 =>
some (Res.ok (x12.1, x38, x29.2))
def lG (F : Nat) (a2 : List UInt8) (a3 : List (List UInt8)) (a5 : Int) (a6 : List (Int × (List UInt8) × (List UInt8) × List ((List UInt8) × List UInt8))) : Option (Res ((List UInt8) × (List UInt8) × (List UInt8))) :=
ge (kO F a2 a3 a5 a6) fun x12 =>
gW (fg F x12.2 a3 a5 a6 ([61, 34] : List UInt8)) fun x16 x17 =>
bif !x16 then
  gW (fg F x17 a3 a5 a6 ([61, 39] : List UInt8)) fun x20 x21 =>
  ge (cJ F x20) fun x23 =>
  ix F a3 a5 a6 x12 ([39] : List UInt8) x21
else
  ix F a3 a5 a6 x12 ([34] : List UInt8) x17
def nC (F : Nat) (a1 : List UInt8) (a2 : List UInt8) (a4 : List UInt8) (a5 : List UInt8) : Option Bool :=
some (decide (a4 = a1))
def ik : Option Int :=
some (-1)
def fL (F : Nat) (a1 : List ((List UInt8) × List UInt8)) (a4 : List UInt8) (a5 : List UInt8) (rec8 : Int → Option Int) (y7 : Int) : Option Int :=
bif decide (y7 < (a1.length : Int)) then
  grd (cR y7 a1.length) <|
  lt (at_ a1 y7) fun x12 =>
  bnd (nC F x12.1 x12.2 a4 a5) fun x14 =>
  bif x14 then
    some y7
  else
    grd (okI (y7 + 1)) <|
    rec8 (y7 + 1)
else
  ik
def eH (F : Nat) (a1 : List ((List UInt8) × List UInt8)) (a4 : List UInt8) (a5 : List UInt8) (n : Nat) : Int → Option Int :=
  loop (fun rec x => fL F a1 a4 a5 rec x) n
def jX (F : Nat) (a1 : List ((List UInt8) × List UInt8)) (a4 : List UInt8) (a5 : List UInt8) : Option Int :=
eH F a1 a4 a5 F 0
def fM (F : Nat) (a1 : List ((List UInt8) × List UInt8)) (a4 : List UInt8) (a5 : List UInt8) : Option Bool :=
bnd (jX F a1 a4 a5) fun x7 =>
some (decide (0 ≤ x7))
def fW (y57 : List UInt8) (y66 : Int) (y97 : List (List UInt8)) (y98 : List (Int × (List UInt8) × (List UInt8) × List ((List UInt8) × List UInt8))) : Option (Res (Bool × (List UInt8) × Int × (List (Int × (List UInt8) × (List UInt8) × List ((List UInt8) × List UInt8))) × (List (List UInt8)))) :=
some (Res.ok (true, y57, y66, y98, y97))
def hM (F : Nat) (x19 : (List UInt8) × (List UInt8)) (y56 : Bool) (y57 : List UInt8) (y66 : Int) (y79 : List (List UInt8)) (y87 : List (Int × (List UInt8) × (List UInt8) × List ((List UInt8) × List UInt8))) : Option (Res (Bool × (List UInt8) × Int × (List (Int × (List UInt8) × (List UInt8) × List ((List UInt8) × List UInt8))) × (List (List UInt8)))) :=
bif y56 then
  ge (kN F y57 y79 y66 y87 x19.1) fun x91 =>
  fW y57 y66 x91.2 x91.1
else
  fW y57 y66 y79 y87
def hH (F : Nat) (a6 : List (Int × (List UInt8) × (List UInt8) × List ((List UInt8) × List UInt8))) (x19 : (List UInt8) × (List UInt8)) (y56 : Bool) (y57 : List UInt8) (y58 : List ((List UInt8) × List UInt8)) (y66 : Int) (y79 : List (List UInt8)) : Option (Res (Bool × (List UInt8) × Int × (List (Int × (List UInt8) × (List UInt8) × List ((List UInt8) × List UInt8))) × (List (List UInt8)))) :=
grd (gQ (a6.length + ([(0, x19.1, ([] : List UInt8), y58)] : List (Int × (List UInt8) × (List UInt8) × List ((List UInt8) × List UInt8))).length)) <|
lt (a6 ++ ([(0, x19.1, ([] : List UInt8), y58)] : List (Int × (List UInt8) × (List UInt8) × List ((List UInt8) × List UInt8)))) fun x83 =>
hM F x19 y56 y57 y66 y79 x83
def hC (F : Nat) (a6 : List (Int × (List UInt8) × (List UInt8) × List ((List UInt8) × List UInt8))) (x19 : (List UInt8) × (List UInt8)) (y56 : Bool) (y57 : List UInt8) (y58 : List ((List UInt8) × List UInt8)) (y66 : Int) (y75 : List (List UInt8)) : Option (Res (Bool × (List UInt8) × Int × (List (Int × (List UInt8) × (List UInt8) × List ((List UInt8) × List UInt8))) × (List (List UInt8)))) :=
bif decide (20 < (y75.length : Int)) then
  some (Res.pan 5)
else
  hH F a6 x19 y56 y57 y58 y66 y75
def eZ (F : Nat) (a3 : List (List UInt8)) (a6 : List (Int × (List UInt8) × (List UInt8) × List ((List UInt8) × List UInt8))) (x19 : (List UInt8) × (List UInt8)) (y56 : Bool) (y57 : List UInt8) (y58 : List ((List UInt8) × List UInt8)) (y66 : Int) : Option (Res (Bool × (List UInt8) × Int × (List (Int × (List UInt8) × (List UInt8) × List ((List UInt8) × List UInt8))) × (List (List UInt8)))) :=
grd (gQ (a3.length + ([x19.1] : List (List UInt8)).length)) <|
lt (a3 ++ ([x19.1] : List (List UInt8))) fun x69 =>
hC F a6 x19 y56 y57 y58 y66 x69
def eY (F : Nat) (a3 : List (List UInt8)) (a5 : Int) (a6 : List (Int × (List UInt8) × (List UInt8) × List ((List UInt8) × List UInt8))) (x19 : (List UInt8) × (List UInt8)) (y56 : Bool) (y57 : List UInt8) (y58 : List ((List UInt8) × List UInt8)) : Option (Res (Bool × (List UInt8) × Int × (List (Int × (List UInt8) × (List UInt8) × List ((List UInt8) × List UInt8))) × (List (List UInt8)))) :=
bif decide ((a3.length : Int) = 0) then
  grd (okI (a5 + 1)) <|
  ge (cJ F (decide (a5 + 1 = 1))) fun x63 =>
  eZ F a3 a6 x19 y56 y57 y58 (a5 + 1)
else
  eZ F a3 a6 x19 y56 y57 y58 a5
def hO (F : Nat) (a3 : List (List UInt8)) (a5 : Int) (a6 : List (Int × (List UInt8) × (List UInt8) × List ((List UInt8) × List UInt8))) (x19 : (List UInt8) × (List UInt8)) (rec27 : ((List ((List UInt8) × List UInt8)) × (List UInt8)) → Option (Res (Bool × (List UInt8) × Int × (List (Int × (List UInt8) × (List UInt8) × List ((List UInt8) × List UInt8))) × (List (List UInt8))))) (y24 : List ((List UInt8) × List UInt8)) (y26 : List UInt8) : Option (Res (Bool × (List UInt8) × Int × (List (Int × (List UInt8) × (List UInt8) × List ((List UInt8) × List UInt8))) × (List (List UInt8)))) :=
gW (kb F y26 a3 a5 a6) fun x29 x30 =>
gW (fg F x30 a3 a5 a6 ([62] : List UInt8)) fun x32 x33 =>
bif x32 then
  eY F a3 a5 a6 x19 false x33 y24
else
  gW (fg F x33 a3 a5 a6 ([47, 62] : List UInt8)) fun x36 x37 =>
  bif x36 then
    eY F a3 a5 a6 x19 true x37 y24
  else
    ge (cJ F x29) fun x40 =>
    ge (lG F x37 a3 a5 a6) fun x43 =>
    bnd (fM F y24 x43.1 x43.2.1) fun x47 =>
    ge (cJ F (!x47)) fun x49 =>
    grd (gQ (y24.length + ([(x43.1, x43.2.1)] : List ((List UInt8) × List UInt8)).length)) <|
    lt (y24 ++ ([(x43.1, x43.2.1)] : List ((List UInt8) × List UInt8))) fun x54 =>
    rec27 (x54, x43.2.2)
def hN (F : Nat) (a3 : List (List UInt8)) (a5 : Int) (a6 : List (Int × (List UInt8) × (List UInt8) × List ((List UInt8) × List UInt8))) (x19 : (List UInt8) × (List UInt8)) (n : Nat) : ((List ((List UInt8) × List UInt8)) × (List UInt8)) → Option (Res (Bool × (List UInt8) × Int × (List (Int × (List UInt8) × (List UInt8) × List ((List UInt8) × List UInt8))) × (List (List UInt8)))) :=
  loop (fun rec x => hO F a3 a5 a6 x19 rec x.1 x.2) n
def iw (F : Nat) (a2 : List UInt8) (a3 : List (List UInt8)) (a5 : Int) (a6 : List (Int × (List UInt8) × (List UInt8) × List ((List UInt8) × List UInt8))) : Option (Res (Bool × (List UInt8) × Int × (List (Int × (List UInt8) × (List UInt8) × List ((List UInt8) × List UInt8))) × (List (List UInt8)))) :=
gW (fg F a2 a3 a5 a6 ([60] : List UInt8)) fun x15 x16 =>
bif !x15 then
  some (Res.ok (false, x16, a5, a6, a3))
else
  ge (kO F x16 a3 a5 a6) fun x19 =>
  hN F a3 a5 a6 x19 F ([], x19.2)
def lF (F : Nat) (a2 : List UInt8) (a3 : List (List UInt8)) (a5 : Int) (a6 : List (Int × (List UInt8) × (List UInt8) × List ((List UInt8) × List UInt8))) : Option (Res ((List UInt8) × Int × (List (Int × (List UInt8) × (List UInt8) × List ((List UInt8) × List UInt8))) × (List (List UInt8)))) :=
ge (jf F a2 a3 a5 a6) fun x14 =>
bif x14.1 then
  some (Res.ok (x14.2.1, a5, x14.2.2, a3))
else
  ge (jk F x14.2.1 a3 a5 x14.2.2) fun x19 =>
  bif x19.1 then
    some (Res.ok (x19.2, a5, x14.2.2, a3))
  else
    ge (pb F x19.2 a3 a5 x14.2.2) fun x23 =>
    bif x23.1 then
      some (Res.ok (x23.2, a5, x14.2.2, a3))
    else
      ge (kP F x23.2 a3 a5 x14.2.2) fun x27 =>
      bif x27.1 then
        some (Res.ok (x27.2.1, a5, x27.2.2, a3))
      else
        ge (pa F x27.2.1 a3 a5 x27.2.2) fun x32 =>
        bif x32.1 then
          some (Res.ok (x32.2, a5, x27.2.2, a3))
        else
          ge (iP F x32.2 a3 a5 x27.2.2) fun x36 =>
          bif x36.1 then
            some (Res.ok (x36.2.1, a5, x36.2.2.1, x36.2.2.2))
          else
            ge (iw F x36.2.1 x36.2.2.2 a5 x36.2.2.1) fun x42 =>
            bif x42.1 then
              some (Res.ok (x42.2.1, x42.2.2.1, x42.2.2.2.1, x42.2.2.2.2))
            else
              some (Res.ok (x42.2.1, x42.2.2.1, x42.2.2.2.1, x42.2.2.2.2))
def ja (F : Nat) (y26 : List UInt8) (y28 : List (List UInt8)) (y29 : Int) (y30 : List (Int × (List UInt8) × (List UInt8) × List ((List UInt8) × List UInt8))) : Option ((List (Int × (List UInt8) × (List UInt8) × List ((List UInt8) × List UInt8))) × Int) :=
bndk (cJ F ((decide ((y28.length : Int) = 0)) && (decide (0 < y29)))) (fun p36 =>
  some ([], p36)) fun x34 =>
some (y30, 0)
def jc (F : Nat) (rec17 : ((List UInt8) × (List (List UInt8)) × Int × (List (Int × (List UInt8) × (List UInt8) × List ((List UInt8) × List UInt8)))) → Option ((List (Int × (List UInt8) × (List UInt8) × List ((List UInt8) × List UInt8))) × Int)) (y11 : List UInt8) (y13 : List (List UInt8)) (y14 : Int) (y15 : List (Int × (List UInt8) × (List UInt8) × List ((List UInt8) × List UInt8))) : Option ((List (Int × (List UInt8) × (List UInt8) × List ((List UInt8) × List UInt8))) × Int) :=
bif !decide (y11 = ([] : List UInt8)) then
  bndk (lF F y11 y13 y14 y15) (fun p22 =>
    some ([], p22)) fun x20 =>
  rec17 (x20.1, x20.2.2.2, x20.2.1, x20.2.2.1)
else
  ja F y11 y13 y14 y15
def jb (F : Nat) (n : Nat) : ((List UInt8) × (List (List UInt8)) × Int × (List (Int × (List UInt8) × (List UInt8) × List ((List UInt8) × List UInt8)))) → Option ((List (Int × (List UInt8) × (List UInt8) × List ((List UInt8) × List UInt8))) × Int) :=
  loop (fun rec x => jc F rec x.1 x.2.1 x.2.2.1 x.2.2.2) n
def kc (F : Nat) (a1 : List UInt8) : Option ((List (Int × (List UInt8) × (List UInt8) × List ((List UInt8) × List UInt8))) × Int) :=
bif decide (100000 < (a1.length : Int)) then
  some ([], 4)
else
  jb F F (a1, ([] : List (List UInt8)), 0, [])
end Go.Pv
namespace Go.Proofs.YteokdkimegepoaaGreatDoor
open Go.RowKit Go.Av Go.Pv
theorem sb : ∀ (args : Array Value) (w : World), (callFunc 18 args).run Tryz.prog w = .ok (.enter 18 args) w := fun _ _ => by kernel_rfl
theorem oz : ∀ (args : Array Value) (w : World), (callFunc 21 args).run Tryz.prog w = .ok (.enter 21 args) w := fun _ _ => by kernel_rfl
theorem sa : ∀ (args : Array Value) (w : World), (callFunc 22 args).run Tryz.prog w = .ok (.enter 22 args) w := fun _ _ => by kernel_rfl
theorem bX : ∀ (args : Array Value) (w : World), (callFunc 23 args).run Tryz.prog w = .ok (.enter 23 args) w := fun _ _ => by kernel_rfl
theorem ox : ∀ (args : Array Value) (w : World), (callFunc 33 args).run Tryz.prog w = .ok (.enter 33 args) w := fun _ _ => by kernel_rfl
theorem wx : ∀ (args : Array Value) (w : World), (callFunc 34 args).run Tryz.prog w = .ok (.enter 34 args) w := fun _ _ => by kernel_rfl
theorem ww : ∀ (args : Array Value) (w : World), (callFunc 35 args).run Tryz.prog w = .ok (.enter 35 args) w := fun _ _ => by kernel_rfl
theorem rZ : ∀ (args : Array Value) (w : World), (callFunc 37 args).run Tryz.prog w = .ok (.enter 37 args) w := fun _ _ => by kernel_rfl
theorem rY : ∀ (args : Array Value) (w : World), (callFunc 38 args).run Tryz.prog w = .ok (.enter 38 args) w := fun _ _ => by kernel_rfl
theorem rX : ∀ (args : Array Value) (w : World), (callFunc 39 args).run Tryz.prog w = .ok (.enter 39 args) w := fun _ _ => by kernel_rfl
theorem rV : ∀ (args : Array Value) (w : World), (callFunc 40 args).run Tryz.prog w = .ok (.enter 40 args) w := fun _ _ => by kernel_rfl
theorem rU : ∀ (args : Array Value) (w : World), (callFunc 41 args).run Tryz.prog w = .ok (.enter 41 args) w := fun _ _ => by kernel_rfl
theorem rT : ∀ (args : Array Value) (w : World), (callFunc 42 args).run Tryz.prog w = .ok (.enter 42 args) w := fun _ _ => by kernel_rfl
theorem rS : ∀ (args : Array Value) (w : World), (callFunc 43 args).run Tryz.prog w = .ok (.enter 43 args) w := fun _ _ => by kernel_rfl
theorem ow : ∀ (args : Array Value) (w : World), (callFunc 62 args).run Tryz.prog w = .ok (.enter 62 args) w := fun _ _ => by kernel_rfl
theorem mt : ∀ (args : Array Value) (w : World), (callFunc 64 args).run Tryz.prog w = .ok (.enter 64 args) w := fun _ _ => by kernel_rfl
theorem rQ : ∀ (args : Array Value) (w : World), (callFunc 65 args).run Tryz.prog w = .ok (.enter 65 args) w := fun _ _ => by kernel_rfl
theorem rP : ∀ (args : Array Value) (w : World), (callFunc 66 args).run Tryz.prog w = .ok (.enter 66 args) w := fun _ _ => by kernel_rfl
theorem ep : ∀ (args : Array Value) (w : World), (callFunc 67 args).run Tryz.prog w = .ok (.enter 67 args) w := fun _ _ => by kernel_rfl
theorem gh : ∀ (args : Array Value) (w : World), (callFunc 68 args).run Tryz.prog w = .ok (.enter 68 args) w := fun _ _ => by kernel_rfl
theorem ke : ∀ (args : Array Value) (w : World), (callFunc 69 args).run Tryz.prog w = .ok (.enter 69 args) w := fun _ _ => by kernel_rfl
theorem rO : ∀ (args : Array Value) (w : World), (callFunc 70 args).run Tryz.prog w = .ok (.enter 70 args) w := fun _ _ => by kernel_rfl
theorem mr : ∀ (args : Array Value) (w : World), (callFunc 71 args).run Tryz.prog w = .ok (.enter 71 args) w := fun _ _ => by kernel_rfl
theorem rN : ∀ (args : Array Value) (w : World), (callFunc 72 args).run Tryz.prog w = .ok (.enter 72 args) w := fun _ _ => by kernel_rfl
theorem rM : ∀ (args : Array Value) (w : World), (callFunc 73 args).run Tryz.prog w = .ok (.enter 73 args) w := fun _ _ => by kernel_rfl
theorem wn : ∀ (args : Array Value) (w : World), (callFunc 74 args).run Tryz.prog w = .ok (.enter 74 args) w := fun _ _ => by kernel_rfl
theorem wk : ∀ (args : Array Value) (w : World), (callFunc 90 args).run Tryz.prog w = .ok (.enter 90 args) w := fun _ _ => by kernel_rfl
theorem wh : ∀ (args : Array Value) (w : World), (callFunc 93 args).run Tryz.prog w = .ok (.enter 93 args) w := fun _ _ => by kernel_rfl
theorem wg : ∀ (args : Array Value) (w : World), (callFunc 94 args).run Tryz.prog w = .ok (.enter 94 args) w := fun _ _ => by kernel_rfl
theorem we : ∀ (args : Array Value) (w : World), (callFunc 95 args).run Tryz.prog w = .ok (.enter 95 args) w := fun _ _ => by kernel_rfl
theorem wa : ∀ (args : Array Value) (w : World), (callFunc 96 args).run Tryz.prog w = .ok (.enter 96 args) w := fun _ _ => by kernel_rfl
set_option maxRecDepth 100000 in
set_option maxHeartbeats 1000000 in
theorem up (F : Nat) (a1 : List UInt8) (r2 : Bool) (H : nB F a1 = some r2) : ACalls Tryz.prog 35 [S a1] [] (Ret (B r2) []) := by
 unfold nB at H
 refine aw Tryz.func35 rfl rfl ?_;show AW _ _ 15 _ _ _;refine af <| aa ?_;show AR _ _ _ _ _ [0] _;refine za rfl <| aj <| bt (X := Unit) (fun _ => ⟨[], [], []⟩) (fun _ => ky = some r2) ?_ ?_
 ·refine af <| aa ?_;show AR _ _ _ _ _ [0, 1, 2] _;refine zm rfl <| zS rfl (aW ac rfl) <| zm rfl <| aj <| aX <| cA (X := Nat × Int) (fun (n5, y3) => ⟨[(0, S a1), (5, i64 (a1.length : Int)), (6, i64 y3)], [], []⟩) (fun (n5, y3) => jC a1 n5 y3 = some r2) (fun (n5, y3) => n5) (F, 0) H (aQ [] (.cons (.refl _) (.cons (.refl _) (.cons (.refl _) (.nil _)))) rfl) ?_;rintro ⟨n5, y3⟩ H;obtain ⟨n5, rfl, H⟩ := dx H;replace H : jD a1 (jC a1 n5) y3 = some r2 := H
  unfold jD at H
  refine af <| aa ?_;show AR _ _ _ _ _ [0] _;refine zS rfl (bQ rfl rfl) <| aj <| af <| ay rfl (fun c6 => ?_) (fun c6 => ?_)
  ·replace H := aZ c6 H;refine aC <| af <| aX <| af <| aa ?_;show AR _ _ _ _ _ [0, 1] _;refine zm rfl <| za rfl <| aj <| af ?_;obtain ⟨g7, H⟩ := aP H;obtain ⟨x8, e9, H⟩ := bM H;obtain ⟨x10, e11, H⟩ := bM H;refine aa ?_;show AR _ _ _ _ _ [0, 1, 2, 3, 4] _;refine zm rfl <| zm rfl <| zS rfl (bb ac rfl rfl g7 e9) <| aq rfl rfl (aO rfl ow rfl (show ACalls _ _ _ [] (Ret (i64 x10) []) from by subst e11; exact fe xmla_k1 x8) ?_);refine zS rfl (bQ rfl rfl) <| aj <| ay rfl (fun c12 => ?_) (fun c12 => ?_)
   ·replace H := aZ c12 H;refine af <| aa ?_;show AR _ _ _ _ _ [0] _;refine za rfl <| aj <| aK ?_;obtain rfl := ap H;exact And.intro rfl (Exists.intro _ (Exists.intro _ ⟨aJ rfl (.refl _), aH [] rfl, rfl, rfl⟩))
   ·replace H := ba c12 H;refine aC ?_;obtain ⟨g13, H⟩ := aP H;refine aa ?_;show AR _ _ _ _ _ [0, 1] _;refine zS rfl (bD rfl rfl g13) <| zm rfl <| aj ?_;exact Exists.intro (n5, y3 + 1) ⟨H, Nat.lt_succ_self _, aQ [] (.cons (.refl _) (.cons (.refl _) (.cons (.refl _) (.nil _)))) rfl⟩
  ·replace H := ba c6 H;refine bW ?_;exact Exists.intro () ⟨H, aQ [] (.nil _) rfl⟩
 rintro _ H;replace H : ky = some r2 := H
 unfold ky at H
 refine af <| aa ?_;show AR _ _ _ _ _ [0] _;refine za rfl <| aj <| aK ?_;obtain rfl := ap H;exact And.intro rfl (Exists.intro _ (Exists.intro _ ⟨aJ rfl (.refl _), aH [] rfl, rfl, rfl⟩))
set_option maxRecDepth 100000 in
set_option maxHeartbeats 1000000 in
theorem oe (F : Nat) (a1 : List UInt8) (r2 : Bool) (H : mz F a1 = some r2) : ACalls Tryz.prog 18 [S a1] [] (Ret (B r2) []) := by
 unfold mz at H
 refine aw Tryz.func18 rfl rfl ?_;show AW _ _ 24 _ _ _;refine af <| aa ?_;show AR _ _ _ _ _ [0] _;refine za rfl <| aj <| af ?_;obtain ⟨g5, H⟩ := cG H;obtain ⟨x6, e7, H⟩ := bM H;obtain ⟨g8, H⟩ := cG H;obtain ⟨x9, e10, H⟩ := bM H;obtain ⟨g12, H⟩ := cG H;obtain ⟨g13, H⟩ := cG H;obtain ⟨g14, H⟩ := cG H;obtain ⟨x15, e16, H⟩ := bM H;obtain ⟨x18, e19, H⟩ := gV H;refine aa ?_;show AR _ _ _ _ _ [0, 1, 2, 3, 4, 5, 6, 7, 8, 9, 10, 11, 12, 13, 14, 15, 16, 17, 18, 19, 20, 21] _;refine zm rfl <| zS rfl (mB rfl rfl) <| zm rfl <| bf (l := [7, 8, 9, 10, 11, 12, 13, 14, 15, 16, 17, 18, 19, 20, 21]) 9 (B ((!decide (a1 = ([] : List UInt8))) && (decide ((a1.length : Int) ≤ 60)))) (fun K => ?_) ?_
 ·rcases am (!decide (a1 = ([] : List UInt8))) with h3 | h3
  ·refine zM h3 rfl <| zU h3 rfl (aW ac rfl) <| zU h3 rfl (dC rfl rfl) <| zS rfl (aB (av := .v _) rfl h3 rfl) ?_;exact K _ 3 _ (au (bN h3)) rfl rfl
  ·refine zF h3 rfl <| zF h3 rfl <| zF h3 rfl <| zS rfl (aD (av := .v _) rfl h3 rfl) ?_;exact K _ 3 _ (au (ca h3)) rfl rfl
 refine zm rfl <| bf (l := [12, 13, 14, 15, 16, 17, 18, 19, 20, 21]) 14 (B (((!decide (a1 = ([] : List UInt8))) && (decide ((a1.length : Int) ≤ 60))) && x9)) (fun K => ?_) ?_
 ·rcases am ((!decide (a1 = ([] : List UInt8))) && (decide ((a1.length : Int) ≤ 60))) with h4 | h4
  ·refine zM h4 rfl <| zU h4 rfl (nI ac rfl rfl (g5 h4) e7) <| zT h4 rfl (aO rfl ox rfl (show ACalls _ _ _ [] (Ret (B x9) []) from by subst e10; exact ls xmla_k2 x6 (nh (g8 h4))) ?_);refine zS rfl (aB (av := .v _) rfl h4 rfl) ?_;exact K _ 3 _ (au (bN h4)) rfl rfl
  ·refine zF h4 rfl <| zF h4 rfl <| zF h4 rfl <| zS rfl (aD (av := .v _) rfl h4 rfl) ?_;exact K _ 3 _ (au (ca h4)) rfl rfl
 refine zm rfl <| bf (l := [17, 18, 19, 20, 21]) 19 (B ((((!decide (a1 = ([] : List UInt8))) && (decide ((a1.length : Int) ≤ 60))) && x9) && (decide (x15 = ([] : List UInt8))))) (fun K => ?_) ?_
 ·rcases am (((!decide (a1 = ([] : List UInt8))) && (decide ((a1.length : Int) ≤ 60))) && x9) with h11 | h11
  ·refine zM h11 rfl <| zT h11 rfl (aO rfl wx rfl (show ACalls _ _ _ [] (Ret (S x15) []) from by subst e16; exact lib_Trim a1 xmla_k1 (nh (g12 h11)) (nh (g13 h11)) (g14 h11)) ?_);refine zU h11 rfl (cm rfl rfl) <| zS rfl (aB (av := .v _) rfl h11 rfl) ?_;exact K _ 3 _ (au (bN h11)) rfl rfl
  ·refine zF h11 rfl <| zF h11 rfl <| zF h11 rfl <| zS rfl (aD (av := .v _) rfl h11 rfl) ?_;exact K _ 3 _ (au (ca h11)) rfl rfl
 refine zm rfl <| bf (l := [21]) 23 (B (((((!decide (a1 = ([] : List UInt8))) && (decide ((a1.length : Int) ≤ 60))) && x9) && (decide (x15 = ([] : List UInt8)))) && x18)) (fun K => ?_) ?_
 ·rcases am ((((!decide (a1 = ([] : List UInt8))) && (decide ((a1.length : Int) ≤ 60))) && x9) && (decide (x15 = ([] : List UInt8)))) with h17 | h17
  ·refine zM h17 rfl <| zT h17 rfl (aO rfl ww rfl (up F a1 x18 (e19 h17)) ?_);refine zS rfl (aB (av := .v _) rfl h17 rfl) ?_;exact K _ 2 _ (au (bN h17)) rfl rfl
  ·refine zF h17 rfl <| zF h17 rfl <| zS rfl (aD (av := .v _) rfl h17 rfl) ?_;exact K _ 2 _ (au (ca h17)) rfl rfl
 refine za rfl <| aj <| aK ?_;obtain rfl := ap H;exact And.intro rfl (Exists.intro _ (Exists.intro _ ⟨aJ rfl (.refl _), aH [] rfl, rfl, rfl⟩))
set_option maxRecDepth 100000 in
set_option maxHeartbeats 1000000 in
theorem oC (F : Nat) (a1 : Bool) (rv : Res Unit) (H : cJ F a1 = some rv) : ACalls Tryz.prog 23 [B a1] [] (kZ (fun (r : Unit) => (Ret (.tup []) [])) (fun e => du (.iface 46 (.agg #[.int .i64 e]))) rv) := by
 unfold cJ at H
 refine aw Tryz.func23 rfl rfl ?_;show AW _ _ 6 _ _ _;refine af <| aa ?_;show AR _ _ _ _ _ [0, 1] _;refine zm rfl <| zS rfl (bS rfl) <| aj <| ay rfl (fun c2 => ?_) (fun c2 => ?_)
 ·replace H := aZ c2 H;obtain rfl := ap H;refine aa ?_;show AR _ _ _ _ _ [0, 1, 2] _;refine zS rfl (eG (zs := [.int .i64 0]) (ps := [(0, 1)]) (cs := [i64 2]) (by kernel_rfl) rfl rfl) <| zS rfl (bH (a := .agg _) Tryz.underlying46 rfl rfl) <| aq rfl rfl (AO.panicT (c := du (.iface 46 (.agg #[.int .i64 2]))) rfl rfl ?_);exact And.intro rfl (Exists.intro [] ⟨br _, rfl, rfl⟩)
 ·replace H := ba c2 H;refine aC ?_;obtain rfl := ap H;exact And.intro rfl (Exists.intro _ (Exists.intro _ ⟨bk rfl, aH [] rfl, rfl, rfl⟩))
theorem ck (F : Nat) (a1 : Bool) (H : cJ F a1 = some (Res.ok ())) : ACalls Tryz.prog 23 [B a1] [] (Ret (.tup []) []) := oC F a1 _ H
theorem cc (F : Nat) (a1 : Bool) (e : Int) (H : cJ F a1 = some (Res.pan e)) : ACalls Tryz.prog 23 [B a1] [] (fun ae A' => ae = .pan ((fun e => du (.iface 46 (.agg #[.int .i64 e]))) e) ∧ A' = []) := oC F a1 _ H
set_option maxRecDepth 100000 in
set_option maxHeartbeats 1000000 in
theorem ek (F : Nat) (o1 : Nat) (a2 : List UInt8) (a3 : List (List UInt8)) (t4 : Nat) (a5 : Int) (a6 : List (Int × (List UInt8) × (List UInt8) × List ((List UInt8) × List UInt8))) (t7 : Nat) (a8 : List UInt8) (r9 : Bool) (r10 : List UInt8) (H : fg F a2 a3 a5 a6 a8 = some (r9, r10)) : ACalls Tryz.prog 67 [.pt o1 0, S a8] [.obj o1 [S a2, .sk t4 a3.length, i64 a5, slE (ab Enc.int (ab Enc.str (ab Enc.str (Enc.sl (ab Enc.str Enc.str))))) a6 (some t7)], .stk t4 (Enc.str.fl a3), .tok t7 33] (fun e A' => e = .ret (B r9) ∧ A' = [.obj o1 [S r10, .sk t4 a3.length, i64 a5, slE (ab Enc.int (ab Enc.str (ab Enc.str (Enc.sl (ab Enc.str Enc.str))))) a6 (some t7)], .stk t4 (Enc.str.fl a3), .tok t7 33]) := by
 unfold fg at H
 refine aw Tryz.func67 rfl rfl ?_;show AW _ _ 21 _ _ _;refine af <| aa ?_;show AR _ _ _ _ _ [0] _;refine za rfl <| aj <| af ?_;obtain ⟨x11, e12, H⟩ := bM H;refine aa ?_;show AR _ _ _ _ _ [0, 1, 2, 3, 4, 5, 6, 7, 8, 9, 10] _;refine zS rfl (ah (av := .pt _ _) rfl) <| zS rfl (al rfl) <| zS rfl (ag (n := 0) (by kernel_rfl) rfl) <| zR rfl (ak (i := 0) ac rfl rfl rfl rfl) <| zm rfl <| aq rfl rfl (aO rfl wh rfl (show ACalls _ _ _ [] (Ret (.tup [S x11.1, B x11.2]) []) from by subst e12; exact kK a2 a8) ?_);refine zS rfl (ah (av := .tup _) rfl) <| zS rfl (aL (av := .v _) rfl rfl) <| zS rfl (aL (av := .v _) rfl rfl) <| za rfl <| za rfl <| aj <| af <| aa ?_;show AR _ _ _ _ _ [0, 1, 2, 3, 4] _;refine zS rfl (ah (av := .pt _ _) rfl) <| zm rfl <| zS rfl (al rfl) <| zS rfl (ag (n := 0) (by kernel_rfl) rfl) <| s0 rfl rfl (aA (i := 0) (c := .v _) (by kernel_rfl) rfl rfl rfl rfl (ai rfl)) <| aj <| af <| aa ?_;show AR _ _ _ _ _ [0, 1] _;refine zm rfl <| za rfl <| aj <| aK ?_;obtain ⟨rfl, rfl⟩ := dX H;exact And.intro rfl (Exists.intro _ (Exists.intro _ ⟨aJ rfl (.refl _), aH [0, 0, 0] rfl, rfl, rfl⟩))
set_option maxRecDepth 100000 in
set_option maxHeartbeats 1000000 in
theorem rf (F : Nat) (o1 : Nat) (a2 : List UInt8) (a3 : List (List UInt8)) (t4 : Nat) (a5 : Int) (a6 : List (Int × (List UInt8) × (List UInt8) × List ((List UInt8) × List UInt8))) (t7 : Nat) (a8 : List UInt8) (rv : Res ((List UInt8) × (List UInt8))) (H : iE F a2 a3 a5 a6 a8 = some rv) : ACalls Tryz.prog 68 [.pt o1 0, S a8] [.obj o1 [S a2, .sk t4 a3.length, i64 a5, slE (ab Enc.int (ab Enc.str (ab Enc.str (Enc.sl (ab Enc.str Enc.str))))) a6 (some t7)], .stk t4 (Enc.str.fl a3), .tok t7 33] (kZ (fun (r : (List UInt8) × (List UInt8)) => (fun e A' => e = .ret (S r.1) ∧ A' = [.obj o1 [S r.2, .sk t4 a3.length, i64 a5, slE (ab Enc.int (ab Enc.str (ab Enc.str (Enc.sl (ab Enc.str Enc.str))))) a6 (some t7)], .stk t4 (Enc.str.fl a3), .tok t7 33])) (fun e => du (.iface 46 (.agg #[.int .i64 e]))) rv) := by
 unfold iE at H
 refine aw Tryz.func68 rfl rfl ?_;show AW _ _ 25 _ _ _;refine af <| aa ?_;show AR _ _ _ _ _ [0] _;refine za rfl <| aj <| af ?_;obtain ⟨g11, H⟩ := aP H;obtain ⟨x12, e13, H⟩ := bM H;refine aa ?_;show AR _ _ _ _ _ [0, 1, 2, 3, 4, 5, 6, 7, 8, 9, 10, 11, 12] _;refine zS rfl (ah (av := .pt _ _) rfl) <| zS rfl (al rfl) <| zS rfl (ag (n := 0) (by kernel_rfl) rfl) <| zR rfl (ak (i := 0) ac rfl rfl rfl rfl) <| zm rfl <| aq rfl rfl (aO rfl wg rfl (show ACalls _ _ _ [] (Ret (.tup [S x12.1, S x12.2.1, B x12.2.2]) []) from by subst e13; exact lib_Cut a2 a8 (nh g11)) ?_);refine zS rfl (ah (av := .tup _) rfl) <| zS rfl (aL (av := .v _) rfl rfl) <| zS rfl (aL (av := .v _) rfl rfl) <| zS rfl (aL (av := .v _) rfl rfl) <| za rfl <| za rfl <| za rfl <| aj <| af ?_
 rcases Or.symm (de H) with ⟨p16, e15, H⟩ | ⟨x14, e15, H⟩
 ·subst H;refine aa ?_;show AR _ _ _ _ _ [0, 1] _;refine zm rfl <| aq rfl rfl (bK (c := du (.iface 46 (.agg #[.int .i64 p16]))) [] rfl bX rfl (cc F x12.2.2 p16 e15) rfl ?_);exact And.intro rfl (Exists.intro [] ⟨br _, rfl, rfl⟩)
 refine aa ?_;show AR _ _ _ _ _ [0, 1] _;refine zm rfl <| aq rfl rfl (aO rfl bX rfl (ck F x12.2.2 e15) ?_);refine aj <| af <| aa ?_;show AR _ _ _ _ _ [0, 1, 2, 3, 4] _;refine zS rfl (ah (av := .pt _ _) rfl) <| zm rfl <| zS rfl (al rfl) <| zS rfl (ag (n := 0) (by kernel_rfl) rfl) <| s0 rfl rfl (aA (i := 0) (c := .v _) (by kernel_rfl) rfl rfl rfl rfl (ai rfl)) <| aj <| af <| aa ?_;show AR _ _ _ _ _ [0, 1] _;refine zm rfl <| za rfl <| aj <| aK ?_;obtain rfl := ap H;exact And.intro rfl (Exists.intro _ (Exists.intro _ ⟨aJ rfl (.refl _), aH [0, 0, 0] rfl, rfl, rfl⟩))
theorem jd (F : Nat) (o1 : Nat) (a2 : List UInt8) (a3 : List (List UInt8)) (t4 : Nat) (a5 : Int) (a6 : List (Int × (List UInt8) × (List UInt8) × List ((List UInt8) × List UInt8))) (t7 : Nat) (a8 : List UInt8) (r9 : List UInt8) (r10 : List UInt8) (H : iE F a2 a3 a5 a6 a8 = some (Res.ok (r9, r10))) : ACalls Tryz.prog 68 [.pt o1 0, S a8] [.obj o1 [S a2, .sk t4 a3.length, i64 a5, slE (ab Enc.int (ab Enc.str (ab Enc.str (Enc.sl (ab Enc.str Enc.str))))) a6 (some t7)], .stk t4 (Enc.str.fl a3), .tok t7 33] (fun e A' => e = .ret (S r9) ∧ A' = [.obj o1 [S r10, .sk t4 a3.length, i64 a5, slE (ab Enc.int (ab Enc.str (ab Enc.str (Enc.sl (ab Enc.str Enc.str))))) a6 (some t7)], .stk t4 (Enc.str.fl a3), .tok t7 33]) := rf F o1 a2 a3 t4 a5 a6 t7 a8 _ H
theorem hP (F : Nat) (o1 : Nat) (a2 : List UInt8) (a3 : List (List UInt8)) (t4 : Nat) (a5 : Int) (a6 : List (Int × (List UInt8) × (List UInt8) × List ((List UInt8) × List UInt8))) (t7 : Nat) (a8 : List UInt8) (e : Int) (H : iE F a2 a3 a5 a6 a8 = some (Res.pan e)) : ACalls Tryz.prog 68 [.pt o1 0, S a8] [.obj o1 [S a2, .sk t4 a3.length, i64 a5, slE (ab Enc.int (ab Enc.str (ab Enc.str (Enc.sl (ab Enc.str Enc.str))))) a6 (some t7)], .stk t4 (Enc.str.fl a3), .tok t7 33] (fun ae A' => ae = .pan ((fun e => du (.iface 46 (.agg #[.int .i64 e]))) e) ∧ A' = []) := rf F o1 a2 a3 t4 a5 a6 t7 a8 _ H
set_option maxRecDepth 100000 in
set_option maxHeartbeats 1000000 in
theorem oD (F : Nat) (o1 : Nat) (a2 : List UInt8) (a3 : List (List UInt8)) (t4 : Nat) (a5 : Int) (a6 : List (Int × (List UInt8) × (List UInt8) × List ((List UInt8) × List UInt8))) (t7 : Nat) (r8 : Bool) (r9 : List UInt8) (H : kb F a2 a3 a5 a6 = some (r8, r9)) : ACalls Tryz.prog 70 [.pt o1 0] [.obj o1 [S a2, .sk t4 a3.length, i64 a5, slE (ab Enc.int (ab Enc.str (ab Enc.str (Enc.sl (ab Enc.str Enc.str))))) a6 (some t7)], .stk t4 (Enc.str.fl a3), .tok t7 33] (fun e A' => e = .ret (B r8) ∧ A' = [.obj o1 [S r9, .sk t4 a3.length, i64 a5, slE (ab Enc.int (ab Enc.str (ab Enc.str (Enc.sl (ab Enc.str Enc.str))))) a6 (some t7)], .stk t4 (Enc.str.fl a3), .tok t7 33]) := by
 unfold kb at H
 refine aw Tryz.func70 rfl rfl ?_;show AW _ _ 24 _ _ _;refine af <| aa ?_;show AR _ _ _ _ _ [0] _;refine za rfl <| aj <| af <| aa ?_;show AR _ _ _ _ _ [0, 1, 2, 3, 4, 5] _;refine zS rfl (ah (av := .pt _ _) rfl) <| zS rfl (al rfl) <| zS rfl (ag (n := 0) (by kernel_rfl) rfl) <| zR rfl (ak (i := 0) ac rfl rfl rfl rfl) <| zS rfl (aW ac rfl) <| za rfl <| aj <| af ?_;obtain ⟨g10, H⟩ := aP H;obtain ⟨g11, H⟩ := aP H;obtain ⟨x12, e13, H⟩ := bM H;refine aa ?_;show AR _ _ _ _ _ [0, 1, 2, 3, 4, 5, 6, 7, 8] _;refine zS rfl (ah (av := .pt _ _) rfl) <| zS rfl (ah (av := .pt _ _) rfl) <| zS rfl (al rfl) <| zS rfl (ag (n := 0) (by kernel_rfl) rfl) <| zR rfl (ak (i := 0) ac rfl rfl rfl rfl) <| aq rfl rfl (aO rfl we rfl (show ACalls _ _ _ [] (Ret (S x12) []) from by subst e13; exact sC a2 ([9, 10, 13, 32] : List UInt8) (nh g10) g11) ?_);refine zS rfl (al rfl) <| zS rfl (ag (n := 0) (by kernel_rfl) rfl) <| s0 rfl rfl (aA (i := 0) (c := .v _) (by kernel_rfl) rfl rfl rfl rfl (ai rfl)) <| aj <| af <| aa ?_;show AR _ _ _ _ _ [0, 1, 2, 3, 4, 5, 6, 7] _
 refine zS rfl (ah (av := .pt _ _) rfl) <| zS rfl (al rfl) <| zS rfl (ag (n := 0) (by kernel_rfl) rfl) <| zR rfl (ak (i := 0) ac rfl rfl rfl rfl) <| zS rfl (aW ac rfl) <| zm rfl <| zS rfl (bQ rfl rfl) <| za rfl <| aj <| aK ?_;obtain ⟨rfl, rfl⟩ := dX H;exact And.intro rfl (Exists.intro _ (Exists.intro _ ⟨aJ rfl (.refl _), aH [0, 0, 0] rfl, rfl, rfl⟩))
set_option maxRecDepth 100000 in
set_option maxHeartbeats 1000000 in
theorem rj (F : Nat) (o1 : Nat) (a2 : List UInt8) (a3 : List (List UInt8)) (t4 : Nat) (a5 : Int) (a6 : List (Int × (List UInt8) × (List UInt8) × List ((List UInt8) × List UInt8))) (t7 : Nat) (rv : Res ((List UInt8) × (List UInt8))) (H : kO F a2 a3 a5 a6 = some rv) : ACalls Tryz.prog 69 [.pt o1 0] [.obj o1 [S a2, .sk t4 a3.length, i64 a5, slE (ab Enc.int (ab Enc.str (ab Enc.str (Enc.sl (ab Enc.str Enc.str))))) a6 (some t7)], .stk t4 (Enc.str.fl a3), .tok t7 33] (kZ (fun (r : (List UInt8) × (List UInt8)) => (fun e A' => e = .ret (S r.1) ∧ A' = [.obj o1 [S r.2, .sk t4 a3.length, i64 a5, slE (ab Enc.int (ab Enc.str (ab Enc.str (Enc.sl (ab Enc.str Enc.str))))) a6 (some t7)], .stk t4 (Enc.str.fl a3), .tok t7 33])) (fun e => du (.iface 46 (.agg #[.int .i64 e]))) rv) := by
 unfold kO at H
 refine aw Tryz.func69 rfl rfl ?_;show AW _ _ 43 _ _ _;refine af <| aa ?_;show AR _ _ _ _ _ [0] _;refine za rfl <| aj <| af <| aa ?_;show AR _ _ _ _ _ [0] _;refine za rfl <| aj <| bt (X := Int) (fun y21 => ⟨[(0, .pt o1 0), (3, i64 y21)], [], [.obj o1 [S a2, .sk t4 a3.length, i64 a5, slE (ab Enc.int (ab Enc.str (ab Enc.str (Enc.sl (ab Enc.str Enc.str))))) a6 (some t7)], .stk t4 (Enc.str.fl a3), .tok t7 33]⟩) (fun y21 => jj F a2 y21 = some rv) ?_ ?_
 ·refine aX <| cA (X := Nat × Int) (fun (n12, y10) => ⟨[(0, .pt o1 0), (3, i64 y10)], [], [.obj o1 [S a2, .sk t4 a3.length, i64 a5, slE (ab Enc.int (ab Enc.str (ab Enc.str (Enc.sl (ab Enc.str Enc.str))))) a6 (some t7)], .stk t4 (Enc.str.fl a3), .tok t7 33]⟩) (fun (n12, y10) => kh F a2 n12 y10 = some rv) (fun (n12, y10) => n12) (F, 0) H (aQ [0, 0, 0] (.cons (.refl _) (.cons (.refl _) (.nil _))) rfl) ?_;rintro ⟨n12, y10⟩ H;obtain ⟨n12, rfl, H⟩ := dx H;replace H : ki F a2 (kh F a2 n12) y10 = some rv := H
  unfold ki at H
  refine af <| af ?_;obtain ⟨g14, H⟩ := cG H;obtain ⟨x15, e16, H⟩ := bM H;obtain ⟨x17, e18, H⟩ := bM H;refine aa ?_;show AR _ _ _ _ _ [0, 1, 2, 3, 4, 5, 6, 7, 8, 9, 10, 11, 12, 13, 14, 15, 16] _;refine zm rfl <| zS rfl (ah (av := .pt _ _) rfl) <| zS rfl (al rfl) <| zS rfl (ag (n := 0) (by kernel_rfl) rfl) <| zR rfl (ak (i := 0) ac rfl rfl rfl rfl) <| zS rfl (aW ac rfl) <| zS rfl (bQ rfl rfl) <| zm rfl <| bf (l := []) 21 (B ((decide (y10 < (a2.length : Int))) && (decide (0 ≤ x17)))) (fun K => ?_) ?_
  ·rcases am (decide (y10 < (a2.length : Int))) with h13 | h13
   ·refine zU h13 rfl (ah (av := .pt _ _) rfl) <| zU h13 rfl (al rfl) <| zU h13 rfl (ag (n := 0) (by kernel_rfl) rfl) <| zT h13 rfl (cj rfl rfl (ak (i := 0) ac rfl rfl rfl rfl) ?_);refine zM h13 rfl <| zU h13 rfl (bb ac rfl rfl (g14 h13) e16) <| zT h13 rfl (aO rfl ow rfl (show ACalls _ _ _ [] (Ret (i64 x17) []) from by subst e18; exact fe xmla_k1 x15) ?_);refine zU h13 rfl (dd rfl rfl) <| zS rfl (aB (av := .v _) rfl h13 rfl) ?_;exact K _ 8 _ (au (bN h13)) rfl rfl
   ·refine zF h13 rfl <| zF h13 rfl <| zF h13 rfl <| zF h13 rfl <| zF h13 rfl <| zF h13 rfl <| zF h13 rfl <| zF h13 rfl <| zS rfl (aD (av := .v _) rfl h13 rfl) ?_;exact K _ 8 _ (au (ca h13)) rfl rfl
  refine aj <| ay rfl (fun c19 => ?_) (fun c19 => ?_)
  ·replace H := aZ c19 H;refine aC <| aX ?_;obtain ⟨g20, H⟩ := aP H;refine aa ?_;show AR _ _ _ _ _ [0, 1, 2] _;refine zm rfl <| zS rfl (bD rfl rfl g20) <| za rfl <| aj ?_;exact Exists.intro (n12, y10 + 1) ⟨H, Nat.lt_succ_self _, aQ [0, 0, 0] (.cons (.refl _) (.cons (.refl _) (.nil _))) rfl⟩
  ·replace H := ba c19 H;refine bW ?_;exact Exists.intro y10 ⟨H, aQ [0, 0, 0] (.cons (.refl _) (.cons (.refl _) (.nil _))) rfl⟩
 rintro y21 H;replace H : jj F a2 y21 = some rv := H
 unfold jj at H
 refine af ?_;obtain ⟨g23, H⟩ := aP H;obtain ⟨x24, e25, H⟩ := bM H;refine aa ?_;show AR _ _ _ _ _ [0, 1, 2, 3, 4, 5, 6] _;refine zS rfl (ah (av := .pt _ _) rfl) <| zS rfl (al rfl) <| zS rfl (ag (n := 0) (by kernel_rfl) rfl) <| zR rfl (ak (i := 0) ac rfl rfl rfl rfl) <| zm rfl <| zS rfl (nI ac rfl rfl g23 e25) <| za rfl <| aj <| af ?_;obtain ⟨x26, e27, H⟩ := ci H
 rcases Or.symm (de H) with ⟨p30, e29, H⟩ | ⟨x28, e29, H⟩
 ·subst H;refine aa ?_;show AR _ _ _ _ _ [0, 1, 2] _;refine zm rfl <| aq rfl rfl (aO rfl sb rfl (oe F x24 x26 e27) ?_);refine aq rfl rfl (bK (c := du (.iface 46 (.agg #[.int .i64 p30]))) [] rfl bX rfl (cc F x26 p30 e29) rfl ?_);exact And.intro rfl (Exists.intro [] ⟨br _, rfl, rfl⟩)
 refine aa ?_;show AR _ _ _ _ _ [0, 1, 2] _;refine zm rfl <| aq rfl rfl (aO rfl sb rfl (oe F x24 x26 e27) ?_);refine aq rfl rfl (aO rfl bX rfl (ck F x26 e29) ?_);refine aj <| af ?_;obtain ⟨g31, H⟩ := aP H;obtain ⟨x32, e33, H⟩ := bM H;refine aa ?_;show AR _ _ _ _ _ [0, 1, 2, 3, 4, 5, 6, 7, 8, 9] _;refine zS rfl (ah (av := .pt _ _) rfl) <| zS rfl (ah (av := .pt _ _) rfl) <| zS rfl (al rfl) <| zS rfl (ag (n := 0) (by kernel_rfl) rfl) <| zR rfl (ak (i := 0) ac rfl rfl rfl rfl) <| zm rfl <| zS rfl (dT ac rfl rfl g31 e33) <| zS rfl (al rfl) <| zS rfl (ag (n := 0) (by kernel_rfl) rfl) <| s0 rfl rfl (aA (i := 0) (c := .v _) (by kernel_rfl) rfl rfl rfl rfl (ai rfl)) <| aj <| af <| aa ?_;show AR _ _ _ _ _ [0, 1] _;refine zm rfl <| za rfl <| aj <| aK ?_;obtain rfl := ap H;exact And.intro rfl (Exists.intro _ (Exists.intro _ ⟨aJ rfl (.refl _), aH [0, 0, 0] rfl, rfl, rfl⟩))
theorem lm (F : Nat) (o1 : Nat) (a2 : List UInt8) (a3 : List (List UInt8)) (t4 : Nat) (a5 : Int) (a6 : List (Int × (List UInt8) × (List UInt8) × List ((List UInt8) × List UInt8))) (t7 : Nat) (r8 : List UInt8) (r9 : List UInt8) (H : kO F a2 a3 a5 a6 = some (Res.ok (r8, r9))) : ACalls Tryz.prog 69 [.pt o1 0] [.obj o1 [S a2, .sk t4 a3.length, i64 a5, slE (ab Enc.int (ab Enc.str (ab Enc.str (Enc.sl (ab Enc.str Enc.str))))) a6 (some t7)], .stk t4 (Enc.str.fl a3), .tok t7 33] (fun e A' => e = .ret (S r8) ∧ A' = [.obj o1 [S r9, .sk t4 a3.length, i64 a5, slE (ab Enc.int (ab Enc.str (ab Enc.str (Enc.sl (ab Enc.str Enc.str))))) a6 (some t7)], .stk t4 (Enc.str.fl a3), .tok t7 33]) := rj F o1 a2 a3 t4 a5 a6 t7 _ H
theorem kH (F : Nat) (o1 : Nat) (a2 : List UInt8) (a3 : List (List UInt8)) (t4 : Nat) (a5 : Int) (a6 : List (Int × (List UInt8) × (List UInt8) × List ((List UInt8) × List UInt8))) (t7 : Nat) (e : Int) (H : kO F a2 a3 a5 a6 = some (Res.pan e)) : ACalls Tryz.prog 69 [.pt o1 0] [.obj o1 [S a2, .sk t4 a3.length, i64 a5, slE (ab Enc.int (ab Enc.str (ab Enc.str (Enc.sl (ab Enc.str Enc.str))))) a6 (some t7)], .stk t4 (Enc.str.fl a3), .tok t7 33] (fun ae A' => ae = .pan ((fun e => du (.iface 46 (.agg #[.int .i64 e]))) e) ∧ A' = []) := rj F o1 a2 a3 t4 a5 a6 t7 _ H
set_option maxRecDepth 100000 in
set_option maxHeartbeats 1000000 in
theorem oG (F : Nat) (a1 : List UInt8) (rv : Res ((List UInt8))) (H : iQ F a1 = some rv) : ACalls Tryz.prog 64 [S a1] [] (kZ (fun (r : (List UInt8)) => (Ret (S r) [])) (fun e => du (.iface 46 (.agg #[.int .i64 e]))) rv) := by
 unfold iQ at H
 refine aw Tryz.func64 rfl rfl ?_;show AW _ _ 14 _ _ _;refine af <| aa ?_;show AR _ _ _ _ _ [0] _;refine za rfl <| aj <| af ?_;obtain ⟨x3, x4, e5, H⟩ := cQ H;refine aa ?_;show AR _ _ _ _ _ [0, 1, 2, 3, 4, 5, 6] _;refine zm rfl <| aq rfl rfl (aO rfl wk rfl (sw F a1 x3 x4 e5) ?_);refine zS rfl (ah (av := .tup _) rfl) <| zS rfl (aL (av := .v _) rfl rfl) <| zS rfl (aL (av := .v _) rfl rfl) <| za rfl <| za rfl <| aj <| af ?_
 rcases Or.symm (de H) with ⟨p8, e7, H⟩ | ⟨x6, e7, H⟩
 ·subst H;refine aa ?_;show AR _ _ _ _ _ [0, 1, 2] _;refine zm rfl <| zS rfl (bC rfl rfl) <| aq rfl rfl (bK (c := du (.iface 46 (.agg #[.int .i64 p8]))) [] rfl bX rfl (cc F (decide (x4 = 0)) p8 e7) rfl ?_);exact And.intro rfl (Exists.intro [] ⟨br _, rfl, rfl⟩)
 refine aa ?_;show AR _ _ _ _ _ [0, 1, 2] _;refine zm rfl <| zS rfl (bC rfl rfl) <| aq rfl rfl (aO rfl bX rfl (ck F (decide (x4 = 0)) e7) ?_);refine aj <| af <| aa ?_;show AR _ _ _ _ _ [0, 1] _;refine zm rfl <| za rfl <| aj <| aK ?_;obtain rfl := ap H;exact And.intro rfl (Exists.intro _ (Exists.intro _ ⟨aJ rfl (.refl _), aH [] rfl, rfl, rfl⟩))
theorem lP (F : Nat) (a1 : List UInt8) (r2 : List UInt8) (H : iQ F a1 = some (Res.ok r2)) : ACalls Tryz.prog 64 [S a1] [] (Ret (S r2) []) := oG F a1 _ H
theorem lz (F : Nat) (a1 : List UInt8) (e : Int) (H : iQ F a1 = some (Res.pan e)) : ACalls Tryz.prog 64 [S a1] [] (fun ae A' => ae = .pan ((fun e => du (.iface 46 (.agg #[.int .i64 e]))) e) ∧ A' = []) := oG F a1 _ H
abbrev _root_.Go.Av.ax := @Tryz.underlying24
set_option maxRecDepth 100000 in
set_option maxHeartbeats 1000000 in
theorem rg (F : Nat) (o1 : Nat) (a2 : List UInt8) (a3 : List (List UInt8)) (t4 : Nat) (a5 : Int) (a6 : List (Int × (List UInt8) × (List UInt8) × List ((List UInt8) × List UInt8))) (t7 : Nat) (a8 : List UInt8) (r9 : List (Int × (List UInt8) × (List UInt8) × List ((List UInt8) × List UInt8))) (H : my F a2 a3 a5 a6 a8 = some r9) : ACalls Tryz.prog 66 [.pt o1 0, S a8] [.obj o1 [S a2, .sk t4 a3.length, i64 a5, slE (ab Enc.int (ab Enc.str (ab Enc.str (Enc.sl (ab Enc.str Enc.str))))) a6 (some t7)], .stk t4 (Enc.str.fl a3), .tok t7 33] (fun e A' => e = .ret (.tup []) ∧ ∃ t10, A' = [.obj o1 [S a2, .sk t4 a3.length, i64 a5, slE (ab Enc.int (ab Enc.str (ab Enc.str (Enc.sl (ab Enc.str Enc.str))))) r9 (some t10)], .stk t4 (Enc.str.fl a3), .tok t10 33]) := by
 unfold my at H
 refine aw Tryz.func66 rfl rfl ?_;show AW _ _ 17 _ _ _;refine af <| aa ?_;show AR _ _ _ _ _ [0, 1] _;refine zm rfl <| zS rfl (mB rfl rfl) <| aj <| ay rfl (fun c11 => ?_) (fun c11 => ?_)
 ·replace H := aZ c11 H;obtain ⟨g13, H⟩ := aP H;obtain ⟨x14, e15, H⟩ := bM H;refine aa ?_;show AR _ _ _ _ _ [0, 1, 2, 3, 4, 5, 6, 7, 8, 9, 10, 11] _;refine zS rfl (ah (av := .pt _ _) rfl) <| zS rfl (ah (av := .pt _ _) rfl) <| zS rfl (al rfl) <| zS rfl (ag (n := 3) (by kernel_rfl) rfl) <| zR rfl (ak (i := 0) ax rfl rfl rfl rfl) <| zm rfl <| zS rfl (eG (zs := [.int .i64 0, .string ⟨#[]⟩, .string ⟨#[]⟩, .slice none 0 0]) (ps := [(0, 1), (1, 1), (2, 1), (3, 1)]) (cs := [i64 2, S ([] : List UInt8), S a8, gj]) (by kernel_rfl) rfl rfl) <| zR rfl (dq (ds := [i64 2, S ([] : List UInt8), S a8, slE (ab Enc.str Enc.str) ([] : List ((List UInt8) × List UInt8)) none]) 12 (.cons (.refl _) (.cons (.refl _) (.cons (.refl _) (.cons (.nil _) (.nil))))) (hc := rfl) <| cC (E := (ab Enc.int (ab Enc.str (ab Enc.str (Enc.sl (ab Enc.str Enc.str)))))) (bytes := 64) (zs := [.int .i64 0, .string ⟨#[]⟩, .string ⟨#[]⟩, .slice none 0 0]) (l := ([(2, ([] : List UInt8), a8, ([] : List ((List UInt8) × List UInt8)))] : List (Int × (List UInt8) × (List UInt8) × List ((List UInt8) × List UInt8)))) ax (by kernel_rfl) (by kernel_rfl) rfl rfl rfl rfl rfl) <| zX rfl (df (E := (ab Enc.int (ab Enc.str (ab Enc.str (Enc.sl (ab Enc.str Enc.str)))))) (bytes := 64) 2 ax ax rfl (by kernel_rfl) rfl rfl rfl rfl g13 e15) ?_;rintro _ _ ⟨t12, rfl, rfl⟩
  refine zS rfl (al rfl) <| zS rfl (ag (n := 3) (by kernel_rfl) rfl) <| s0 rfl rfl (aA (i := 0) (c := slE _ _ _) (by kernel_rfl) rfl rfl rfl rfl (ai rfl)) <| aj ?_;obtain rfl := ap H;exact And.intro rfl (Exists.intro _ (Exists.intro _ ⟨bk rfl, aH [0, 0, 0] rfl, rfl, t12, rfl⟩))
 ·replace H := ba c11 H;refine aC ?_;obtain rfl := ap H;exact And.intro rfl (Exists.intro _ (Exists.intro _ ⟨bk rfl, aH [0, 0, 0] rfl, rfl, t7, rfl⟩))
set_option maxRecDepth 100000 in
set_option maxHeartbeats 1000000 in
theorem ri (F : Nat) (o1 : Nat) (a2 : List UInt8) (a3 : List (List UInt8)) (t4 : Nat) (a5 : Int) (a6 : List (Int × (List UInt8) × (List UInt8) × List ((List UInt8) × List UInt8))) (t7 : Nat) (a8 : List UInt8) (rv : Res ((List (Int × (List UInt8) × (List UInt8) × List ((List UInt8) × List UInt8))) × (List (List UInt8)))) (H : kN F a2 a3 a5 a6 a8 = some rv) : ACalls Tryz.prog 71 [.pt o1 0, S a8] [.obj o1 [S a2, .sk t4 a3.length, i64 a5, slE (ab Enc.int (ab Enc.str (ab Enc.str (Enc.sl (ab Enc.str Enc.str))))) a6 (some t7)], .stk t4 (Enc.str.fl a3), .tok t7 33] (kZ (fun (r : (List (Int × (List UInt8) × (List UInt8) × List ((List UInt8) × List UInt8))) × (List (List UInt8))) => (fun e A' => e = .ret (.tup []) ∧ ∃ t10 t12, A' = [.obj o1 [S a2, .sk t10 r.2.length, i64 a5, slE (ab Enc.int (ab Enc.str (ab Enc.str (Enc.sl (ab Enc.str Enc.str))))) r.1 (some t12)], .stk t10 (Enc.str.fl r.2), .tok t12 33])) (fun e => du (.iface 46 (.agg #[.int .i64 e]))) rv) := by
 unfold kN at H
 refine aw Tryz.func71 rfl rfl ?_;show AW _ _ 45 _ _ _;refine af ?_;obtain ⟨g13, H⟩ := aP H;refine aa ?_;show AR _ _ _ _ _ [0, 1, 2, 3, 4, 5, 6] _;refine zS rfl (ah (av := .pt _ _) rfl) <| zS rfl (al rfl) <| zS rfl (ag (n := 1) (by kernel_rfl) rfl) <| zR rfl (ak (i := 0) ao rfl rfl rfl rfl) <| zS rfl (gJ ao rfl) <| zS rfl (nZ rfl rfl g13) <| za rfl <| aj <| af ?_;obtain ⟨g15, H⟩ := cG H;obtain ⟨g16, H⟩ := cG H;obtain ⟨x17, e18, H⟩ := bM H
 rcases Or.symm (de H) with ⟨p21, e20, H⟩ | ⟨x19, e20, H⟩
 ·subst H;refine aa ?_;show AR _ _ _ _ _ [0, 1, 2, 3, 4, 5, 6, 7, 8, 9, 10, 11, 12, 13] _;refine zm rfl <| zS rfl (dd rfl rfl) <| zm rfl <| bf (l := [13]) 23 (B ((decide (0 ≤ (a3.length : Int) - 1)) && (decide (x17 = a8)))) (fun K => ?_) ?_
  ·rcases am (decide (0 ≤ (a3.length : Int) - 1)) with h14 | h14
   ·refine zU h14 rfl (ah (av := .pt _ _) rfl) <| zU h14 rfl (al rfl) <| zU h14 rfl (ag (n := 1) (by kernel_rfl) rfl) <| zT h14 rfl (cj rfl rfl (ak (i := 0) ao rfl rfl rfl rfl) ?_);refine zM h14 rfl <| zU h14 rfl (lT ao (by kernel_rfl) rfl rfl (g15 h14)) <| zT h14 rfl (cj rfl rfl (ql (E := Enc.str) 1 ac rfl rfl rfl rfl (g16 h14) e18 rfl) ?_);refine zM h14 rfl <| zU h14 rfl (cm rfl rfl) <| zS rfl (aB (av := .v _) rfl h14 rfl) ?_;exact K _ 9 _ (au (bN h14)) rfl rfl
   ·refine zF h14 rfl <| zF h14 rfl <| zF h14 rfl <| zF h14 rfl <| zF h14 rfl <| zF h14 rfl <| zF h14 rfl <| zF h14 rfl <| zF h14 rfl <| zS rfl (aD (av := .v _) rfl h14 rfl) ?_;exact K _ 9 _ (au (ca h14)) rfl rfl
  refine aq rfl rfl (bK (c := du (.iface 46 (.agg #[.int .i64 p21]))) [] rfl bX rfl (cc F ((decide (0 ≤ (a3.length : Int) - 1)) && (decide (x17 = a8))) p21 e20) rfl ?_);exact And.intro rfl (Exists.intro [] ⟨br _, rfl, rfl⟩)
 refine aa ?_;show AR _ _ _ _ _ [0, 1, 2, 3, 4, 5, 6, 7, 8, 9, 10, 11, 12, 13] _;refine zm rfl <| zS rfl (dd rfl rfl) <| zm rfl <| bf (l := [13]) 23 (B ((decide (0 ≤ (a3.length : Int) - 1)) && (decide (x17 = a8)))) (fun K => ?_) ?_
 ·rcases am (decide (0 ≤ (a3.length : Int) - 1)) with h14 | h14
  ·refine zU h14 rfl (ah (av := .pt _ _) rfl) <| zU h14 rfl (al rfl) <| zU h14 rfl (ag (n := 1) (by kernel_rfl) rfl) <| zT h14 rfl (cj rfl rfl (ak (i := 0) ao rfl rfl rfl rfl) ?_);refine zM h14 rfl <| zU h14 rfl (lT ao (by kernel_rfl) rfl rfl (g15 h14)) <| zT h14 rfl (cj rfl rfl (ql (E := Enc.str) 1 ac rfl rfl rfl rfl (g16 h14) e18 rfl) ?_);refine zM h14 rfl <| zU h14 rfl (cm rfl rfl) <| zS rfl (aB (av := .v _) rfl h14 rfl) ?_;exact K _ 9 _ (au (bN h14)) rfl rfl
  ·refine zF h14 rfl <| zF h14 rfl <| zF h14 rfl <| zF h14 rfl <| zF h14 rfl <| zF h14 rfl <| zF h14 rfl <| zF h14 rfl <| zF h14 rfl <| zS rfl (aD (av := .v _) rfl h14 rfl) ?_;exact K _ 9 _ (au (ca h14)) rfl rfl
 refine aq rfl rfl (aO rfl bX rfl (ck F ((decide (0 ≤ (a3.length : Int) - 1)) && (decide (x17 = a8))) e20) ?_);refine aj <| af ?_;obtain ⟨g22, H⟩ := aP H;obtain ⟨x23, e24, H⟩ := bM H;refine aa ?_;show AR _ _ _ _ _ [0, 1, 2, 3, 4, 5, 6, 7, 8, 9] _;refine zS rfl (ah (av := .pt _ _) rfl) <| zS rfl (ah (av := .pt _ _) rfl) <| zS rfl (al rfl) <| zS rfl (ag (n := 1) (by kernel_rfl) rfl) <| zR rfl (ak (i := 0) ao rfl rfl rfl rfl) <| zm rfl <| zR rfl (uI (E := Enc.str) 1 ao (by kernel_rfl) rfl rfl rfl rfl g22 e24) <| zS rfl (al rfl) <| zS rfl (ag (n := 1) (by kernel_rfl) rfl) <| s0 rfl rfl (aA (i := 0) (c := .sk _ _) (by kernel_rfl) rfl rfl rfl rfl (ai rfl)) <| aj ?_;obtain ⟨g26, H⟩ := aP H;obtain ⟨x27, e28, H⟩ := bM H;refine aa ?_;show AR _ _ _ _ _ [0, 1, 2, 3, 4, 5, 6, 7, 8, 9, 10, 11] _
 refine zS rfl (ah (av := .pt _ _) rfl) <| zS rfl (ah (av := .pt _ _) rfl) <| zS rfl (al rfl) <| zS rfl (ag (n := 3) (by kernel_rfl) rfl) <| zR rfl (ak (i := 0) ax rfl rfl rfl rfl) <| zm rfl <| zS rfl (eG (zs := [.int .i64 0, .string ⟨#[]⟩, .string ⟨#[]⟩, .slice none 0 0]) (ps := [(0, 1), (1, 1), (2, 1), (3, 1)]) (cs := [i64 1, S a8, S ([] : List UInt8), gj]) (by kernel_rfl) rfl rfl) <| zR rfl (dq (ds := [i64 1, S a8, S ([] : List UInt8), slE (ab Enc.str Enc.str) ([] : List ((List UInt8) × List UInt8)) none]) 40 (.cons (.refl _) (.cons (.refl _) (.cons (.refl _) (.cons (.nil _) (.nil))))) (hc := rfl) <| cC (E := (ab Enc.int (ab Enc.str (ab Enc.str (Enc.sl (ab Enc.str Enc.str)))))) (bytes := 64) (zs := [.int .i64 0, .string ⟨#[]⟩, .string ⟨#[]⟩, .slice none 0 0]) (l := ([(1, a8, ([] : List UInt8), ([] : List ((List UInt8) × List UInt8)))] : List (Int × (List UInt8) × (List UInt8) × List ((List UInt8) × List UInt8)))) ax (by kernel_rfl) (by kernel_rfl) rfl rfl rfl rfl rfl) <| zX rfl (df (E := (ab Enc.int (ab Enc.str (ab Enc.str (Enc.sl (ab Enc.str Enc.str)))))) (bytes := 64) 2 ax ax rfl (by kernel_rfl) rfl rfl rfl rfl g26 e28) ?_;rintro _ _ ⟨t25, rfl, rfl⟩;refine zS rfl (al rfl) <| zS rfl (ag (n := 3) (by kernel_rfl) rfl) <| s0 rfl rfl (aA (i := 0) (c := slE _ _ _) (by kernel_rfl) rfl rfl rfl rfl (ai rfl)) <| aj ?_
 obtain rfl := ap H;exact And.intro rfl (Exists.intro _ (Exists.intro _ ⟨bk rfl, aH [0, 0, 0] rfl, rfl, t4, t25, rfl⟩))
theorem nn (F : Nat) (o1 : Nat) (a2 : List UInt8) (a3 : List (List UInt8)) (t4 : Nat) (a5 : Int) (a6 : List (Int × (List UInt8) × (List UInt8) × List ((List UInt8) × List UInt8))) (t7 : Nat) (a8 : List UInt8) (r11 : List (Int × (List UInt8) × (List UInt8) × List ((List UInt8) × List UInt8))) (r9 : List (List UInt8)) (H : kN F a2 a3 a5 a6 a8 = some (Res.ok (r11, r9))) : ACalls Tryz.prog 71 [.pt o1 0, S a8] [.obj o1 [S a2, .sk t4 a3.length, i64 a5, slE (ab Enc.int (ab Enc.str (ab Enc.str (Enc.sl (ab Enc.str Enc.str))))) a6 (some t7)], .stk t4 (Enc.str.fl a3), .tok t7 33] (fun e A' => e = .ret (.tup []) ∧ ∃ t10 t12, A' = [.obj o1 [S a2, .sk t10 r9.length, i64 a5, slE (ab Enc.int (ab Enc.str (ab Enc.str (Enc.sl (ab Enc.str Enc.str))))) r11 (some t12)], .stk t10 (Enc.str.fl r9), .tok t12 33]) := ri F o1 a2 a3 t4 a5 a6 t7 a8 _ H
theorem mK (F : Nat) (o1 : Nat) (a2 : List UInt8) (a3 : List (List UInt8)) (t4 : Nat) (a5 : Int) (a6 : List (Int × (List UInt8) × (List UInt8) × List ((List UInt8) × List UInt8))) (t7 : Nat) (a8 : List UInt8) (e : Int) (H : kN F a2 a3 a5 a6 a8 = some (Res.pan e)) : ACalls Tryz.prog 71 [.pt o1 0, S a8] [.obj o1 [S a2, .sk t4 a3.length, i64 a5, slE (ab Enc.int (ab Enc.str (ab Enc.str (Enc.sl (ab Enc.str Enc.str))))) a6 (some t7)], .stk t4 (Enc.str.fl a3), .tok t7 33] (fun ae A' => ae = .pan ((fun e => du (.iface 46 (.agg #[.int .i64 e]))) e) ∧ A' = []) := ri F o1 a2 a3 t4 a5 a6 t7 a8 _ H
set_option maxRecDepth 100000 in
set_option maxHeartbeats 1000000 in
theorem pZ (F : Nat) (o1 : Nat) (a2 : List UInt8) (a3 : List (List UInt8)) (t4 : Nat) (a5 : Int) (a6 : List (Int × (List UInt8) × (List UInt8) × List ((List UInt8) × List UInt8))) (t7 : Nat) (rv : Res (Bool × (List UInt8) × (List (Int × (List UInt8) × (List UInt8) × List ((List UInt8) × List UInt8))))) (H : jf F a2 a3 a5 a6 = some rv) : ACalls Tryz.prog 37 [.pt o1 0] [.obj o1 [S a2, .sk t4 a3.length, i64 a5, slE (ab Enc.int (ab Enc.str (ab Enc.str (Enc.sl (ab Enc.str Enc.str))))) a6 (some t7)], .stk t4 (Enc.str.fl a3), .tok t7 33] (kZ (fun (r : Bool × (List UInt8) × (List (Int × (List UInt8) × (List UInt8) × List ((List UInt8) × List UInt8)))) => (fun e A' => e = .ret (B r.1) ∧ ∃ t11, A' = [.obj o1 [S r.2.1, .sk t4 a3.length, i64 a5, slE (ab Enc.int (ab Enc.str (ab Enc.str (Enc.sl (ab Enc.str Enc.str))))) r.2.2 (some t11)], .stk t4 (Enc.str.fl a3), .tok t11 33])) (fun e => du (.iface 46 (.agg #[.int .i64 e]))) rv) := by
 unfold jf at H
 refine aw Tryz.func37 rfl rfl ?_;show AW _ _ 50 _ _ _;refine af <| aa ?_;show AR _ _ _ _ _ [0] _;refine za rfl <| aj <| af ?_;obtain ⟨x12, e13, H⟩ := bM H;refine aa ?_;show AR _ _ _ _ _ [0, 1, 2, 3, 4, 5] _;refine zS rfl (ah (av := .pt _ _) rfl) <| zS rfl (al rfl) <| zS rfl (ag (n := 0) (by kernel_rfl) rfl) <| zR rfl (ak (i := 0) ac rfl rfl rfl rfl) <| aq rfl rfl (aO rfl ow rfl (show ACalls _ _ _ [] (Ret (i64 x12) []) from by subst e13; exact fe a2 60) ?_);refine za rfl <| aj <| bt (X := Int) (fun y15 => ⟨[(0, .pt o1 0), (3, i64 y15)], [], [.obj o1 [S a2, .sk t4 a3.length, i64 a5, slE (ab Enc.int (ab Enc.str (ab Enc.str (Enc.sl (ab Enc.str Enc.str))))) a6 (some t7)], .stk t4 (Enc.str.fl a3), .tok t7 33]⟩) (fun y15 => fF F a2 a3 a5 a6 y15 = some rv) ?_ ?_
 ·refine af <| aa ?_;show AR _ _ _ _ _ [0, 1] _;refine zm rfl <| zS rfl (bQ rfl rfl) <| aj <| ay rfl (fun c14 => ?_) (fun c14 => ?_)
  ·replace H := aZ c14 H;refine aa ?_;show AR _ _ _ _ _ [0, 1, 2, 3, 4, 5] _;refine zS rfl (ah (av := .pt _ _) rfl) <| zS rfl (al rfl) <| zS rfl (ag (n := 0) (by kernel_rfl) rfl) <| zR rfl (ak (i := 0) ac rfl rfl rfl rfl) <| zS rfl (aW ac rfl) <| za rfl <| aj ?_;exact Exists.intro (a2.length : Int) ⟨H, aQ [0, 0, 0] (.cons (.refl _) (.cons (.refl _) (.nil _))) rfl⟩
  ·replace H := ba c14 H;refine aC ?_;exact Exists.intro x12 ⟨H, aQ [0, 0, 0] (.cons (.refl _) (.cons (.refl _) (.nil _))) rfl⟩
 rintro y15 H;replace H : fF F a2 a3 a5 a6 y15 = some rv := H
 unfold fF at H
 refine af <| af <| aa ?_;show AR _ _ _ _ _ [0, 1] _;refine zm rfl <| zS rfl (bC rfl rfl) <| aj <| ay rfl (fun c17 => ?_) (fun c17 => ?_)
 ·replace H := aZ c17 H;refine af <| aa ?_;show AR _ _ _ _ _ [0] _;refine za rfl <| aj <| aK ?_;obtain rfl := ap H;exact And.intro rfl (Exists.intro _ (Exists.intro _ ⟨aJ rfl (.refl _), aH [0, 0, 0] rfl, rfl, t7, rfl⟩))
 ·replace H := ba c17 H;refine aC <| af ?_;obtain ⟨g18, H⟩ := aP H;obtain ⟨x19, e20, H⟩ := bM H;refine aa ?_;show AR _ _ _ _ _ [0, 1, 2, 3, 4, 5, 6] _;refine zS rfl (ah (av := .pt _ _) rfl) <| zS rfl (al rfl) <| zS rfl (ag (n := 0) (by kernel_rfl) rfl) <| zR rfl (ak (i := 0) ac rfl rfl rfl rfl) <| zm rfl <| zS rfl (nI ac rfl rfl g18 e20) <| za rfl <| aj <| af ?_;obtain ⟨g21, H⟩ := aP H;obtain ⟨x22, e23, H⟩ := bM H;refine aa ?_;show AR _ _ _ _ _ [0, 1, 2, 3, 4, 5, 6, 7, 8, 9] _;refine zS rfl (ah (av := .pt _ _) rfl) <| zS rfl (ah (av := .pt _ _) rfl) <| zS rfl (al rfl) <| zS rfl (ag (n := 0) (by kernel_rfl) rfl) <| zR rfl (ak (i := 0) ac rfl rfl rfl rfl) <| zm rfl <| zS rfl (dT ac rfl rfl g21 e23) <| zS rfl (al rfl) <| zS rfl (ag (n := 0) (by kernel_rfl) rfl) <| s0 rfl rfl (aA (i := 0) (c := .v _) (by kernel_rfl) rfl rfl rfl rfl (ai rfl)) <| aj <| af ?_
  rcases Or.symm (de H) with ⟨p26, e25, H⟩ | ⟨x24, e25, H⟩
  ·subst H;refine aa ?_;show AR _ _ _ _ _ [0, 1, 2] _;refine zm rfl <| aq rfl rfl (bK (c := du (.iface 46 (.agg #[.int .i64 p26]))) [] rfl mt rfl (lz F x19 p26 e25) rfl ?_);exact And.intro rfl (Exists.intro [] ⟨br _, rfl, rfl⟩)
  refine aa ?_;show AR _ _ _ _ _ [0, 1, 2] _;refine zm rfl <| aq rfl rfl (aO rfl mt rfl (lP F x19 x24 e25) ?_);refine za rfl <| aj <| af <| af <| aa ?_;show AR _ _ _ _ _ [0, 1, 2, 3, 4, 5] _;refine zS rfl (ah (av := .pt _ _) rfl) <| zS rfl (al rfl) <| zS rfl (ag (n := 1) (by kernel_rfl) rfl) <| zR rfl (ak (i := 0) ao rfl rfl rfl rfl) <| zS rfl (gJ ao rfl) <| zS rfl (bC rfl rfl) <| aj <| ay rfl (fun c27 => ?_) (fun c27 => ?_)
  ·replace H := aZ c27 H;refine af ?_;obtain ⟨x28, e29, H⟩ := ci H
   rcases Or.symm (de H) with ⟨p32, e31, H⟩ | ⟨x30, e31, H⟩
   ·subst H;refine aa ?_;show AR _ _ _ _ _ [0, 1, 2, 3] _;refine zm rfl <| aq rfl rfl (aO rfl rQ rfl (qa F x19 x28 e29) ?_);refine zS rfl (cm rfl rfl) <| aq rfl rfl (bK (c := du (.iface 46 (.agg #[.int .i64 p32]))) [] rfl bX rfl (cc F (decide (x28 = ([] : List UInt8))) p32 e31) rfl ?_);exact And.intro rfl (Exists.intro [] ⟨br _, rfl, rfl⟩)
   refine aa ?_;show AR _ _ _ _ _ [0, 1, 2, 3] _;refine zm rfl <| aq rfl rfl (aO rfl rQ rfl (qa F x19 x28 e29) ?_);refine zS rfl (cm rfl rfl) <| aq rfl rfl (aO rfl bX rfl (ck F (decide (x28 = ([] : List UInt8))) e31) ?_);refine aj <| af <| aa ?_;show AR _ _ _ _ _ [0] _;refine za rfl <| aj <| aK ?_;obtain rfl := ap H;exact And.intro rfl (Exists.intro _ (Exists.intro _ ⟨aJ rfl (.refl _), aH [0, 0, 0] rfl, rfl, t7, rfl⟩))
  ·replace H := ba c27 H;refine aC <| af ?_;obtain ⟨x33, e34, H⟩ := ci H;refine aa ?_;show AR _ _ _ _ _ [0, 1, 2] _;refine zS rfl (ah (av := .pt _ _) rfl) <| zm rfl <| aq rfl rfl (aN [0, 0, 0] rfl rP rfl (rg F o1 x22 a3 t4 a5 a6 t7 x24 x33 e34) rfl (fun c A' h => by cases h.1) ?_)
   rintro av A' ⟨h, t35, rfl⟩; cases h
   refine aj <| af <| aa ?_;show AR _ _ _ _ _ [0] _;refine za rfl <| aj <| aK ?_;obtain rfl := ap H;exact And.intro rfl (Exists.intro _ (Exists.intro _ ⟨aJ rfl (.refl _), aH [0, 0, 0] rfl, rfl, t35, rfl⟩))
theorem qK (F : Nat) (o1 : Nat) (a2 : List UInt8) (a3 : List (List UInt8)) (t4 : Nat) (a5 : Int) (a6 : List (Int × (List UInt8) × (List UInt8) × List ((List UInt8) × List UInt8))) (t7 : Nat) (r8 : Bool) (r9 : List UInt8) (r10 : List (Int × (List UInt8) × (List UInt8) × List ((List UInt8) × List UInt8))) (H : jf F a2 a3 a5 a6 = some (Res.ok (r8, r9, r10))) : ACalls Tryz.prog 37 [.pt o1 0] [.obj o1 [S a2, .sk t4 a3.length, i64 a5, slE (ab Enc.int (ab Enc.str (ab Enc.str (Enc.sl (ab Enc.str Enc.str))))) a6 (some t7)], .stk t4 (Enc.str.fl a3), .tok t7 33] (fun e A' => e = .ret (B r8) ∧ ∃ t11, A' = [.obj o1 [S r9, .sk t4 a3.length, i64 a5, slE (ab Enc.int (ab Enc.str (ab Enc.str (Enc.sl (ab Enc.str Enc.str))))) r10 (some t11)], .stk t4 (Enc.str.fl a3), .tok t11 33]) := pZ F o1 a2 a3 t4 a5 a6 t7 _ H
theorem pJ (F : Nat) (o1 : Nat) (a2 : List UInt8) (a3 : List (List UInt8)) (t4 : Nat) (a5 : Int) (a6 : List (Int × (List UInt8) × (List UInt8) × List ((List UInt8) × List UInt8))) (t7 : Nat) (e : Int) (H : jf F a2 a3 a5 a6 = some (Res.pan e)) : ACalls Tryz.prog 37 [.pt o1 0] [.obj o1 [S a2, .sk t4 a3.length, i64 a5, slE (ab Enc.int (ab Enc.str (ab Enc.str (Enc.sl (ab Enc.str Enc.str))))) a6 (some t7)], .stk t4 (Enc.str.fl a3), .tok t7 33] (fun ae A' => ae = .pan ((fun e => du (.iface 46 (.agg #[.int .i64 e]))) e) ∧ A' = []) := pZ F o1 a2 a3 t4 a5 a6 t7 _ H
set_option maxRecDepth 100000 in
set_option maxHeartbeats 1000000 in
theorem nq (F : Nat) (o1 : Nat) (a2 : List UInt8) (a3 : List (List UInt8)) (t4 : Nat) (a5 : Int) (a6 : List (Int × (List UInt8) × (List UInt8) × List ((List UInt8) × List UInt8))) (t7 : Nat) (rv : Res (Bool × (List UInt8))) (H : jk F a2 a3 a5 a6 = some rv) : ACalls Tryz.prog 38 [.pt o1 0] [.obj o1 [S a2, .sk t4 a3.length, i64 a5, slE (ab Enc.int (ab Enc.str (ab Enc.str (Enc.sl (ab Enc.str Enc.str))))) a6 (some t7)], .stk t4 (Enc.str.fl a3), .tok t7 33] (kZ (fun (r : Bool × (List UInt8)) => (fun e A' => e = .ret (B r.1) ∧ A' = [.obj o1 [S r.2, .sk t4 a3.length, i64 a5, slE (ab Enc.int (ab Enc.str (ab Enc.str (Enc.sl (ab Enc.str Enc.str))))) a6 (some t7)], .stk t4 (Enc.str.fl a3), .tok t7 33])) (fun e => du (.iface 46 (.agg #[.int .i64 e]))) rv) := by
 unfold jk at H
 refine aw Tryz.func38 rfl rfl ?_;show AW _ _ 8 _ _ _;refine af <| aa ?_;show AR _ _ _ _ _ [0] _;refine za rfl <| aj <| af <| af ?_;obtain ⟨x10, x11, e12, H⟩ := cQ H;refine aa ?_;show AR _ _ _ _ _ [0, 1, 2] _;refine zS rfl (ah (av := .pt _ _) rfl) <| aq rfl rfl (aN [0, 0, 0] rfl ep rfl (ek F o1 a2 a3 t4 a5 a6 t7 ([60, 33, 45, 45] : List UInt8) x10 x11 e12) rfl (fun c A' h => by cases h.1) ?_)
 rintro av A' ⟨h, rfl⟩; cases h
 refine zS rfl (bS rfl) <| aj <| ay rfl (fun c13 => ?_) (fun c13 => ?_)
 ·replace H := aZ c13 H;refine af <| aa ?_;show AR _ _ _ _ _ [0] _;refine za rfl <| aj <| aK ?_;obtain rfl := ap H;exact And.intro rfl (Exists.intro _ (Exists.intro _ ⟨aJ rfl (.refl _), aH [0, 0, 0] rfl, rfl, rfl⟩))
 ·replace H := ba c13 H;refine aC <| af ?_
  rcases Or.symm (de H) with ⟨p16, e15, H⟩ | ⟨x14, e15, H⟩
  ·subst H;refine aa ?_;show AR _ _ _ _ _ [0, 1] _;refine zS rfl (ah (av := .pt _ _) rfl) <| aq rfl rfl (bK (c := du (.iface 46 (.agg #[.int .i64 p16]))) [0, 0, 0] rfl gh rfl (hP F o1 x11 a3 t4 a5 a6 t7 ([45, 45, 62] : List UInt8) p16 e15) rfl ?_);exact And.intro rfl (Exists.intro [] ⟨br _, rfl, rfl⟩)
  refine aa ?_;show AR _ _ _ _ _ [0, 1] _;refine zS rfl (ah (av := .pt _ _) rfl) <| aq rfl rfl (aN [0, 0, 0] rfl gh rfl (jd F o1 x11 a3 t4 a5 a6 t7 ([45, 45, 62] : List UInt8) x14.1 x14.2 e15) rfl (fun c A' h => by cases h.1) ?_)
  rintro av A' ⟨h, rfl⟩; cases h
  refine aj <| af <| aa ?_;show AR _ _ _ _ _ [0] _;refine za rfl <| aj <| aK ?_;obtain rfl := ap H;exact And.intro rfl (Exists.intro _ (Exists.intro _ ⟨aJ rfl (.refl _), aH [0, 0, 0] rfl, rfl, rfl⟩))
theorem pj (F : Nat) (o1 : Nat) (a2 : List UInt8) (a3 : List (List UInt8)) (t4 : Nat) (a5 : Int) (a6 : List (Int × (List UInt8) × (List UInt8) × List ((List UInt8) × List UInt8))) (t7 : Nat) (r8 : Bool) (r9 : List UInt8) (H : jk F a2 a3 a5 a6 = some (Res.ok (r8, r9))) : ACalls Tryz.prog 38 [.pt o1 0] [.obj o1 [S a2, .sk t4 a3.length, i64 a5, slE (ab Enc.int (ab Enc.str (ab Enc.str (Enc.sl (ab Enc.str Enc.str))))) a6 (some t7)], .stk t4 (Enc.str.fl a3), .tok t7 33] (fun e A' => e = .ret (B r8) ∧ A' = [.obj o1 [S r9, .sk t4 a3.length, i64 a5, slE (ab Enc.int (ab Enc.str (ab Enc.str (Enc.sl (ab Enc.str Enc.str))))) a6 (some t7)], .stk t4 (Enc.str.fl a3), .tok t7 33]) := nq F o1 a2 a3 t4 a5 a6 t7 _ H
theorem nT (F : Nat) (o1 : Nat) (a2 : List UInt8) (a3 : List (List UInt8)) (t4 : Nat) (a5 : Int) (a6 : List (Int × (List UInt8) × (List UInt8) × List ((List UInt8) × List UInt8))) (t7 : Nat) (e : Int) (H : jk F a2 a3 a5 a6 = some (Res.pan e)) : ACalls Tryz.prog 38 [.pt o1 0] [.obj o1 [S a2, .sk t4 a3.length, i64 a5, slE (ab Enc.int (ab Enc.str (ab Enc.str (Enc.sl (ab Enc.str Enc.str))))) a6 (some t7)], .stk t4 (Enc.str.fl a3), .tok t7 33] (fun ae A' => ae = .pan ((fun e => du (.iface 46 (.agg #[.int .i64 e]))) e) ∧ A' = []) := nq F o1 a2 a3 t4 a5 a6 t7 _ H
set_option maxRecDepth 100000 in
set_option maxHeartbeats 1000000 in
theorem tK (F : Nat) (o1 : Nat) (a2 : List UInt8) (a3 : List (List UInt8)) (t4 : Nat) (a5 : Int) (a6 : List (Int × (List UInt8) × (List UInt8) × List ((List UInt8) × List UInt8))) (t7 : Nat) (rv : Res (Bool × (List UInt8))) (H : pb F a2 a3 a5 a6 = some rv) : ACalls Tryz.prog 39 [.pt o1 0] [.obj o1 [S a2, .sk t4 a3.length, i64 a5, slE (ab Enc.int (ab Enc.str (ab Enc.str (Enc.sl (ab Enc.str Enc.str))))) a6 (some t7)], .stk t4 (Enc.str.fl a3), .tok t7 33] (kZ (fun (r : Bool × (List UInt8)) => (fun e A' => e = .ret (B r.1) ∧ A' = [.obj o1 [S r.2, .sk t4 a3.length, i64 a5, slE (ab Enc.int (ab Enc.str (ab Enc.str (Enc.sl (ab Enc.str Enc.str))))) a6 (some t7)], .stk t4 (Enc.str.fl a3), .tok t7 33])) (fun e => du (.iface 46 (.agg #[.int .i64 e]))) rv) := by
 unfold pb at H
 refine aw Tryz.func39 rfl rfl ?_;show AW _ _ 8 _ _ _;refine af <| aa ?_;show AR _ _ _ _ _ [0] _;refine za rfl <| aj <| af <| af ?_;obtain ⟨x10, x11, e12, H⟩ := cQ H;refine aa ?_;show AR _ _ _ _ _ [0, 1, 2] _;refine zS rfl (ah (av := .pt _ _) rfl) <| aq rfl rfl (aN [0, 0, 0] rfl ep rfl (ek F o1 a2 a3 t4 a5 a6 t7 ([60, 63] : List UInt8) x10 x11 e12) rfl (fun c A' h => by cases h.1) ?_)
 rintro av A' ⟨h, rfl⟩; cases h
 refine zS rfl (bS rfl) <| aj <| ay rfl (fun c13 => ?_) (fun c13 => ?_)
 ·replace H := aZ c13 H;refine af <| aa ?_;show AR _ _ _ _ _ [0] _;refine za rfl <| aj <| aK ?_;obtain rfl := ap H;exact And.intro rfl (Exists.intro _ (Exists.intro _ ⟨aJ rfl (.refl _), aH [0, 0, 0] rfl, rfl, rfl⟩))
 ·replace H := ba c13 H;refine aC <| af ?_
  rcases Or.symm (de H) with ⟨p16, e15, H⟩ | ⟨x14, e15, H⟩
  ·subst H;refine aa ?_;show AR _ _ _ _ _ [0, 1] _;refine zS rfl (ah (av := .pt _ _) rfl) <| aq rfl rfl (bK (c := du (.iface 46 (.agg #[.int .i64 p16]))) [0, 0, 0] rfl gh rfl (hP F o1 x11 a3 t4 a5 a6 t7 ([63, 62] : List UInt8) p16 e15) rfl ?_);exact And.intro rfl (Exists.intro [] ⟨br _, rfl, rfl⟩)
  refine aa ?_;show AR _ _ _ _ _ [0, 1] _;refine zS rfl (ah (av := .pt _ _) rfl) <| aq rfl rfl (aN [0, 0, 0] rfl gh rfl (jd F o1 x11 a3 t4 a5 a6 t7 ([63, 62] : List UInt8) x14.1 x14.2 e15) rfl (fun c A' h => by cases h.1) ?_)
  rintro av A' ⟨h, rfl⟩; cases h
  refine aj <| af <| aa ?_;show AR _ _ _ _ _ [0] _;refine za rfl <| aj <| aK ?_;obtain rfl := ap H;exact And.intro rfl (Exists.intro _ (Exists.intro _ ⟨aJ rfl (.refl _), aH [0, 0, 0] rfl, rfl, rfl⟩))
theorem tm (F : Nat) (o1 : Nat) (a2 : List UInt8) (a3 : List (List UInt8)) (t4 : Nat) (a5 : Int) (a6 : List (Int × (List UInt8) × (List UInt8) × List ((List UInt8) × List UInt8))) (t7 : Nat) (r8 : Bool) (r9 : List UInt8) (H : pb F a2 a3 a5 a6 = some (Res.ok (r8, r9))) : ACalls Tryz.prog 39 [.pt o1 0] [.obj o1 [S a2, .sk t4 a3.length, i64 a5, slE (ab Enc.int (ab Enc.str (ab Enc.str (Enc.sl (ab Enc.str Enc.str))))) a6 (some t7)], .stk t4 (Enc.str.fl a3), .tok t7 33] (fun e A' => e = .ret (B r8) ∧ A' = [.obj o1 [S r9, .sk t4 a3.length, i64 a5, slE (ab Enc.int (ab Enc.str (ab Enc.str (Enc.sl (ab Enc.str Enc.str))))) a6 (some t7)], .stk t4 (Enc.str.fl a3), .tok t7 33]) := tK F o1 a2 a3 t4 a5 a6 t7 _ H
theorem so (F : Nat) (o1 : Nat) (a2 : List UInt8) (a3 : List (List UInt8)) (t4 : Nat) (a5 : Int) (a6 : List (Int × (List UInt8) × (List UInt8) × List ((List UInt8) × List UInt8))) (t7 : Nat) (e : Int) (H : pb F a2 a3 a5 a6 = some (Res.pan e)) : ACalls Tryz.prog 39 [.pt o1 0] [.obj o1 [S a2, .sk t4 a3.length, i64 a5, slE (ab Enc.int (ab Enc.str (ab Enc.str (Enc.sl (ab Enc.str Enc.str))))) a6 (some t7)], .stk t4 (Enc.str.fl a3), .tok t7 33] (fun ae A' => ae = .pan ((fun e => du (.iface 46 (.agg #[.int .i64 e]))) e) ∧ A' = []) := tK F o1 a2 a3 t4 a5 a6 t7 _ H
set_option maxRecDepth 100000 in
set_option maxHeartbeats 1000000 in
theorem rk (F : Nat) (o1 : Nat) (a2 : List UInt8) (a3 : List (List UInt8)) (t4 : Nat) (a5 : Int) (a6 : List (Int × (List UInt8) × (List UInt8) × List ((List UInt8) × List UInt8))) (t7 : Nat) (rv : Res (Bool × (List UInt8) × (List (Int × (List UInt8) × (List UInt8) × List ((List UInt8) × List UInt8))))) (H : kP F a2 a3 a5 a6 = some rv) : ACalls Tryz.prog 40 [.pt o1 0] [.obj o1 [S a2, .sk t4 a3.length, i64 a5, slE (ab Enc.int (ab Enc.str (ab Enc.str (Enc.sl (ab Enc.str Enc.str))))) a6 (some t7)], .stk t4 (Enc.str.fl a3), .tok t7 33] (kZ (fun (r : Bool × (List UInt8) × (List (Int × (List UInt8) × (List UInt8) × List ((List UInt8) × List UInt8)))) => (fun e A' => e = .ret (B r.1) ∧ ∃ t11, A' = [.obj o1 [S r.2.1, .sk t4 a3.length, i64 a5, slE (ab Enc.int (ab Enc.str (ab Enc.str (Enc.sl (ab Enc.str Enc.str))))) r.2.2 (some t11)], .stk t4 (Enc.str.fl a3), .tok t11 33])) (fun e => du (.iface 46 (.agg #[.int .i64 e]))) rv) := by
 unfold kP at H
 refine aw Tryz.func40 rfl rfl ?_;show AW _ _ 19 _ _ _;refine af <| aa ?_;show AR _ _ _ _ _ [0] _;refine za rfl <| aj <| af <| af ?_;obtain ⟨x12, x13, e14, H⟩ := cQ H;refine aa ?_;show AR _ _ _ _ _ [0, 1, 2] _;refine zS rfl (ah (av := .pt _ _) rfl) <| aq rfl rfl (aN [0, 0, 0] rfl ep rfl (ek F o1 a2 a3 t4 a5 a6 t7 ([60, 33, 91, 67, 68, 65, 84, 65, 91] : List UInt8) x12 x13 e14) rfl (fun c A' h => by cases h.1) ?_)
 rintro av A' ⟨h, rfl⟩; cases h
 refine zS rfl (bS rfl) <| aj <| ay rfl (fun c15 => ?_) (fun c15 => ?_)
 ·replace H := aZ c15 H;refine af <| aa ?_;show AR _ _ _ _ _ [0] _;refine za rfl <| aj <| aK ?_;obtain rfl := ap H;exact And.intro rfl (Exists.intro _ (Exists.intro _ ⟨aJ rfl (.refl _), aH [0, 0, 0] rfl, rfl, t7, rfl⟩))
 ·replace H := ba c15 H;refine aC <| af ?_
  rcases Or.symm (de H) with ⟨p18, e17, H⟩ | ⟨x16, e17, H⟩
  ·subst H;refine aa ?_;show AR _ _ _ _ _ [0, 1, 2] _;refine zS rfl (ah (av := .pt _ _) rfl) <| aq rfl rfl (bK (c := du (.iface 46 (.agg #[.int .i64 p18]))) [0, 0, 0] rfl gh rfl (hP F o1 x13 a3 t4 a5 a6 t7 ([93, 93, 62] : List UInt8) p18 e17) rfl ?_);exact And.intro rfl (Exists.intro [] ⟨br _, rfl, rfl⟩)
  refine aa ?_;show AR _ _ _ _ _ [0, 1, 2] _;refine zS rfl (ah (av := .pt _ _) rfl) <| aq rfl rfl (aN [0, 0, 0] rfl gh rfl (jd F o1 x13 a3 t4 a5 a6 t7 ([93, 93, 62] : List UInt8) x16.1 x16.2 e17) rfl (fun c A' h => by cases h.1) ?_)
  rintro av A' ⟨h, rfl⟩; cases h
  refine za rfl <| aj <| af ?_
  rcases Or.symm (de H) with ⟨p21, e20, H⟩ | ⟨x19, e20, H⟩
  ·subst H;refine aa ?_;show AR _ _ _ _ _ [0, 1, 2, 3, 4, 5, 6] _;refine zS rfl (ah (av := .pt _ _) rfl) <| zS rfl (al rfl) <| zS rfl (ag (n := 1) (by kernel_rfl) rfl) <| zR rfl (ak (i := 0) ao rfl rfl rfl rfl) <| zS rfl (gJ ao rfl) <| zS rfl (gg rfl rfl) <| aq rfl rfl (bK (c := du (.iface 46 (.agg #[.int .i64 p21]))) [] rfl bX rfl (cc F (decide (0 < (a3.length : Int))) p21 e20) rfl ?_);exact And.intro rfl (Exists.intro [] ⟨br _, rfl, rfl⟩)
  refine aa ?_;show AR _ _ _ _ _ [0, 1, 2, 3, 4, 5, 6] _;refine zS rfl (ah (av := .pt _ _) rfl) <| zS rfl (al rfl) <| zS rfl (ag (n := 1) (by kernel_rfl) rfl) <| zR rfl (ak (i := 0) ao rfl rfl rfl rfl) <| zS rfl (gJ ao rfl) <| zS rfl (gg rfl rfl) <| aq rfl rfl (aO rfl bX rfl (ck F (decide (0 < (a3.length : Int))) e20) ?_);refine aj <| af ?_;obtain ⟨x22, e23, H⟩ := ci H;refine aa ?_;show AR _ _ _ _ _ [0, 1, 2] _;refine zS rfl (ah (av := .pt _ _) rfl) <| zm rfl <| aq rfl rfl (aN [0, 0, 0] rfl rP rfl (rg F o1 x16.2 a3 t4 a5 a6 t7 x16.1 x22 e23) rfl (fun c A' h => by cases h.1) ?_)
  rintro av A' ⟨h, t24, rfl⟩; cases h
  refine aj <| af <| aa ?_;show AR _ _ _ _ _ [0] _;refine za rfl <| aj <| aK ?_;obtain rfl := ap H;exact And.intro rfl (Exists.intro _ (Exists.intro _ ⟨aJ rfl (.refl _), aH [0, 0, 0] rfl, rfl, t24, rfl⟩))
theorem sm (F : Nat) (o1 : Nat) (a2 : List UInt8) (a3 : List (List UInt8)) (t4 : Nat) (a5 : Int) (a6 : List (Int × (List UInt8) × (List UInt8) × List ((List UInt8) × List UInt8))) (t7 : Nat) (r8 : Bool) (r9 : List UInt8) (r10 : List (Int × (List UInt8) × (List UInt8) × List ((List UInt8) × List UInt8))) (H : kP F a2 a3 a5 a6 = some (Res.ok (r8, r9, r10))) : ACalls Tryz.prog 40 [.pt o1 0] [.obj o1 [S a2, .sk t4 a3.length, i64 a5, slE (ab Enc.int (ab Enc.str (ab Enc.str (Enc.sl (ab Enc.str Enc.str))))) a6 (some t7)], .stk t4 (Enc.str.fl a3), .tok t7 33] (fun e A' => e = .ret (B r8) ∧ ∃ t11, A' = [.obj o1 [S r9, .sk t4 a3.length, i64 a5, slE (ab Enc.int (ab Enc.str (ab Enc.str (Enc.sl (ab Enc.str Enc.str))))) r10 (some t11)], .stk t4 (Enc.str.fl a3), .tok t11 33]) := rk F o1 a2 a3 t4 a5 a6 t7 _ H
theorem qL (F : Nat) (o1 : Nat) (a2 : List UInt8) (a3 : List (List UInt8)) (t4 : Nat) (a5 : Int) (a6 : List (Int × (List UInt8) × (List UInt8) × List ((List UInt8) × List UInt8))) (t7 : Nat) (e : Int) (H : kP F a2 a3 a5 a6 = some (Res.pan e)) : ACalls Tryz.prog 40 [.pt o1 0] [.obj o1 [S a2, .sk t4 a3.length, i64 a5, slE (ab Enc.int (ab Enc.str (ab Enc.str (Enc.sl (ab Enc.str Enc.str))))) a6 (some t7)], .stk t4 (Enc.str.fl a3), .tok t7 33] (fun ae A' => ae = .pan ((fun e => du (.iface 46 (.agg #[.int .i64 e]))) e) ∧ A' = []) := rk F o1 a2 a3 t4 a5 a6 t7 _ H
set_option maxRecDepth 100000 in
set_option maxHeartbeats 1000000 in
theorem tJ (F : Nat) (o1 : Nat) (a2 : List UInt8) (a3 : List (List UInt8)) (t4 : Nat) (a5 : Int) (a6 : List (Int × (List UInt8) × (List UInt8) × List ((List UInt8) × List UInt8))) (t7 : Nat) (rv : Res (Bool × (List UInt8))) (H : pa F a2 a3 a5 a6 = some rv) : ACalls Tryz.prog 41 [.pt o1 0] [.obj o1 [S a2, .sk t4 a3.length, i64 a5, slE (ab Enc.int (ab Enc.str (ab Enc.str (Enc.sl (ab Enc.str Enc.str))))) a6 (some t7)], .stk t4 (Enc.str.fl a3), .tok t7 33] (kZ (fun (r : Bool × (List UInt8)) => (fun e A' => e = .ret (B r.1) ∧ A' = [.obj o1 [S r.2, .sk t4 a3.length, i64 a5, slE (ab Enc.int (ab Enc.str (ab Enc.str (Enc.sl (ab Enc.str Enc.str))))) a6 (some t7)], .stk t4 (Enc.str.fl a3), .tok t7 33])) (fun e => du (.iface 46 (.agg #[.int .i64 e]))) rv) := by
 unfold pa at H
 refine aw Tryz.func41 rfl rfl ?_;show AW _ _ 8 _ _ _;refine af <| aa ?_;show AR _ _ _ _ _ [0] _;refine za rfl <| aj <| af <| af ?_;obtain ⟨x10, x11, e12, H⟩ := cQ H;refine aa ?_;show AR _ _ _ _ _ [0, 1, 2] _;refine zS rfl (ah (av := .pt _ _) rfl) <| aq rfl rfl (aN [0, 0, 0] rfl ep rfl (ek F o1 a2 a3 t4 a5 a6 t7 ([60, 33] : List UInt8) x10 x11 e12) rfl (fun c A' h => by cases h.1) ?_)
 rintro av A' ⟨h, rfl⟩; cases h
 refine zS rfl (bS rfl) <| aj <| ay rfl (fun c13 => ?_) (fun c13 => ?_)
 ·replace H := aZ c13 H;refine af <| aa ?_;show AR _ _ _ _ _ [0] _;refine za rfl <| aj <| aK ?_;obtain rfl := ap H;exact And.intro rfl (Exists.intro _ (Exists.intro _ ⟨aJ rfl (.refl _), aH [0, 0, 0] rfl, rfl, rfl⟩))
 ·replace H := ba c13 H;refine aC <| af ?_
  rcases Or.symm (de H) with ⟨p16, e15, H⟩ | ⟨x14, e15, H⟩
  ·subst H;refine aa ?_;show AR _ _ _ _ _ [0, 1] _;refine zS rfl (ah (av := .pt _ _) rfl) <| aq rfl rfl (bK (c := du (.iface 46 (.agg #[.int .i64 p16]))) [0, 0, 0] rfl gh rfl (hP F o1 x11 a3 t4 a5 a6 t7 ([62] : List UInt8) p16 e15) rfl ?_);exact And.intro rfl (Exists.intro [] ⟨br _, rfl, rfl⟩)
  refine aa ?_;show AR _ _ _ _ _ [0, 1] _;refine zS rfl (ah (av := .pt _ _) rfl) <| aq rfl rfl (aN [0, 0, 0] rfl gh rfl (jd F o1 x11 a3 t4 a5 a6 t7 ([62] : List UInt8) x14.1 x14.2 e15) rfl (fun c A' h => by cases h.1) ?_)
  rintro av A' ⟨h, rfl⟩; cases h
  refine aj <| af <| aa ?_;show AR _ _ _ _ _ [0] _;refine za rfl <| aj <| aK ?_;obtain rfl := ap H;exact And.intro rfl (Exists.intro _ (Exists.intro _ ⟨aJ rfl (.refl _), aH [0, 0, 0] rfl, rfl, rfl⟩))
theorem tk (F : Nat) (o1 : Nat) (a2 : List UInt8) (a3 : List (List UInt8)) (t4 : Nat) (a5 : Int) (a6 : List (Int × (List UInt8) × (List UInt8) × List ((List UInt8) × List UInt8))) (t7 : Nat) (r8 : Bool) (r9 : List UInt8) (H : pa F a2 a3 a5 a6 = some (Res.ok (r8, r9))) : ACalls Tryz.prog 41 [.pt o1 0] [.obj o1 [S a2, .sk t4 a3.length, i64 a5, slE (ab Enc.int (ab Enc.str (ab Enc.str (Enc.sl (ab Enc.str Enc.str))))) a6 (some t7)], .stk t4 (Enc.str.fl a3), .tok t7 33] (fun e A' => e = .ret (B r8) ∧ A' = [.obj o1 [S r9, .sk t4 a3.length, i64 a5, slE (ab Enc.int (ab Enc.str (ab Enc.str (Enc.sl (ab Enc.str Enc.str))))) a6 (some t7)], .stk t4 (Enc.str.fl a3), .tok t7 33]) := tJ F o1 a2 a3 t4 a5 a6 t7 _ H
theorem sj (F : Nat) (o1 : Nat) (a2 : List UInt8) (a3 : List (List UInt8)) (t4 : Nat) (a5 : Int) (a6 : List (Int × (List UInt8) × (List UInt8) × List ((List UInt8) × List UInt8))) (t7 : Nat) (e : Int) (H : pa F a2 a3 a5 a6 = some (Res.pan e)) : ACalls Tryz.prog 41 [.pt o1 0] [.obj o1 [S a2, .sk t4 a3.length, i64 a5, slE (ab Enc.int (ab Enc.str (ab Enc.str (Enc.sl (ab Enc.str Enc.str))))) a6 (some t7)], .stk t4 (Enc.str.fl a3), .tok t7 33] (fun ae A' => ae = .pan ((fun e => du (.iface 46 (.agg #[.int .i64 e]))) e) ∧ A' = []) := tJ F o1 a2 a3 t4 a5 a6 t7 _ H
set_option maxRecDepth 100000 in
set_option maxHeartbeats 1000000 in
theorem oE (F : Nat) (o1 : Nat) (a2 : List UInt8) (a3 : List (List UInt8)) (t4 : Nat) (a5 : Int) (a6 : List (Int × (List UInt8) × (List UInt8) × List ((List UInt8) × List UInt8))) (t7 : Nat) (rv : Res (Bool × (List UInt8) × (List (Int × (List UInt8) × (List UInt8) × List ((List UInt8) × List UInt8))) × (List (List UInt8)))) (H : iP F a2 a3 a5 a6 = some rv) : ACalls Tryz.prog 42 [.pt o1 0] [.obj o1 [S a2, .sk t4 a3.length, i64 a5, slE (ab Enc.int (ab Enc.str (ab Enc.str (Enc.sl (ab Enc.str Enc.str))))) a6 (some t7)], .stk t4 (Enc.str.fl a3), .tok t7 33] (kZ (fun (r : Bool × (List UInt8) × (List (Int × (List UInt8) × (List UInt8) × List ((List UInt8) × List UInt8))) × (List (List UInt8))) => (fun e A' => e = .ret (B r.1) ∧ ∃ t11 t13, A' = [.obj o1 [S r.2.1, .sk t11 r.2.2.2.length, i64 a5, slE (ab Enc.int (ab Enc.str (ab Enc.str (Enc.sl (ab Enc.str Enc.str))))) r.2.2.1 (some t13)], .stk t11 (Enc.str.fl r.2.2.2), .tok t13 33])) (fun e => du (.iface 46 (.agg #[.int .i64 e]))) rv) := by
 unfold iP at H
 refine aw Tryz.func42 rfl rfl ?_;show AW _ _ 17 _ _ _;refine af <| aa ?_;show AR _ _ _ _ _ [0] _;refine za rfl <| aj <| af <| af ?_;obtain ⟨x14, x15, e16, H⟩ := cQ H;refine aa ?_;show AR _ _ _ _ _ [0, 1, 2] _;refine zS rfl (ah (av := .pt _ _) rfl) <| aq rfl rfl (aN [0, 0, 0] rfl ep rfl (ek F o1 a2 a3 t4 a5 a6 t7 ([60, 47] : List UInt8) x14 x15 e16) rfl (fun c A' h => by cases h.1) ?_)
 rintro av A' ⟨h, rfl⟩; cases h
 refine zS rfl (bS rfl) <| aj <| ay rfl (fun c17 => ?_) (fun c17 => ?_)
 ·replace H := aZ c17 H;refine af <| aa ?_;show AR _ _ _ _ _ [0] _;refine za rfl <| aj <| aK ?_;obtain rfl := ap H;exact And.intro rfl (Exists.intro _ (Exists.intro _ ⟨aJ rfl (.refl _), aH [0, 0, 0] rfl, rfl, t4, t7, rfl⟩))
 ·replace H := ba c17 H;refine aC <| af ?_
  rcases Or.symm (de H) with ⟨p20, e19, H⟩ | ⟨x18, e19, H⟩
  ·subst H;refine aa ?_;show AR _ _ _ _ _ [0, 1, 2] _;refine zS rfl (ah (av := .pt _ _) rfl) <| aq rfl rfl (bK (c := du (.iface 46 (.agg #[.int .i64 p20]))) [0, 0, 0] rfl ke rfl (kH F o1 x15 a3 t4 a5 a6 t7 p20 e19) rfl ?_);exact And.intro rfl (Exists.intro [] ⟨br _, rfl, rfl⟩)
  refine aa ?_;show AR _ _ _ _ _ [0, 1, 2] _;refine zS rfl (ah (av := .pt _ _) rfl) <| aq rfl rfl (aN [0, 0, 0] rfl ke rfl (lm F o1 x15 a3 t4 a5 a6 t7 x18.1 x18.2 e19) rfl (fun c A' h => by cases h.1) ?_)
  rintro av A' ⟨h, rfl⟩; cases h
  refine za rfl <| aj <| af ?_;obtain ⟨x21, x22, e23, H⟩ := cQ H;refine aa ?_;show AR _ _ _ _ _ [0, 1] _;refine zS rfl (ah (av := .pt _ _) rfl) <| aq rfl rfl (aN [0, 0, 0] rfl rO rfl (oD F o1 x18.2 a3 t4 a5 a6 t7 x21 x22 e23) rfl (fun c A' h => by cases h.1) ?_)
  rintro av A' ⟨h, rfl⟩; cases h
  refine aj <| af ?_;obtain ⟨x24, x25, e26, H⟩ := cQ H
  rcases Or.symm (de H) with ⟨p29, e28, H⟩ | ⟨x27, e28, H⟩
  ·subst H;refine aa ?_;show AR _ _ _ _ _ [0, 1, 2] _;refine zS rfl (ah (av := .pt _ _) rfl) <| aq rfl rfl (aN [0, 0, 0] rfl ep rfl (ek F o1 x22 a3 t4 a5 a6 t7 ([62] : List UInt8) x24 x25 e26) rfl (fun c A' h => by cases h.1) ?_)
   rintro av A' ⟨h, rfl⟩; cases h
   refine aq rfl rfl (bK (c := du (.iface 46 (.agg #[.int .i64 p29]))) [] rfl bX rfl (cc F x24 p29 e28) rfl ?_);exact And.intro rfl (Exists.intro [] ⟨br _, rfl, rfl⟩)
  refine aa ?_;show AR _ _ _ _ _ [0, 1, 2] _;refine zS rfl (ah (av := .pt _ _) rfl) <| aq rfl rfl (aN [0, 0, 0] rfl ep rfl (ek F o1 x22 a3 t4 a5 a6 t7 ([62] : List UInt8) x24 x25 e26) rfl (fun c A' h => by cases h.1) ?_)
  rintro av A' ⟨h, rfl⟩; cases h
  refine aq rfl rfl (aO rfl bX rfl (ck F x24 e28) ?_);refine aj <| af ?_
  rcases Or.symm (de H) with ⟨p32, e31, H⟩ | ⟨x30, e31, H⟩
  ·subst H;refine aa ?_;show AR _ _ _ _ _ [0, 1, 2] _;refine zS rfl (ah (av := .pt _ _) rfl) <| zm rfl <| aq rfl rfl (bK (c := du (.iface 46 (.agg #[.int .i64 p32]))) [0, 0, 0] rfl mr rfl (mK F o1 x25 a3 t4 a5 a6 t7 x18.1 p32 e31) rfl ?_);exact And.intro rfl (Exists.intro [] ⟨br _, rfl, rfl⟩)
  refine aa ?_;show AR _ _ _ _ _ [0, 1, 2] _;refine zS rfl (ah (av := .pt _ _) rfl) <| zm rfl <| aq rfl rfl (aN [0, 0, 0] rfl mr rfl (nn F o1 x25 a3 t4 a5 a6 t7 x18.1 x30.1 x30.2 e31) rfl (fun c A' h => by cases h.1) ?_)
  rintro av A' ⟨h, t33, t34, rfl⟩; cases h
  refine aj <| af <| aa ?_;show AR _ _ _ _ _ [0] _;refine za rfl <| aj <| aK ?_;obtain rfl := ap H;exact And.intro rfl (Exists.intro _ (Exists.intro _ ⟨aJ rfl (.refl _), aH [0, 0, 0] rfl, rfl, t33, t34, rfl⟩))
theorem pK (F : Nat) (o1 : Nat) (a2 : List UInt8) (a3 : List (List UInt8)) (t4 : Nat) (a5 : Int) (a6 : List (Int × (List UInt8) × (List UInt8) × List ((List UInt8) × List UInt8))) (t7 : Nat) (r8 : Bool) (r9 : List UInt8) (r12 : List (Int × (List UInt8) × (List UInt8) × List ((List UInt8) × List UInt8))) (r10 : List (List UInt8)) (H : iP F a2 a3 a5 a6 = some (Res.ok (r8, r9, r12, r10))) : ACalls Tryz.prog 42 [.pt o1 0] [.obj o1 [S a2, .sk t4 a3.length, i64 a5, slE (ab Enc.int (ab Enc.str (ab Enc.str (Enc.sl (ab Enc.str Enc.str))))) a6 (some t7)], .stk t4 (Enc.str.fl a3), .tok t7 33] (fun e A' => e = .ret (B r8) ∧ ∃ t11 t13, A' = [.obj o1 [S r9, .sk t11 r10.length, i64 a5, slE (ab Enc.int (ab Enc.str (ab Enc.str (Enc.sl (ab Enc.str Enc.str))))) r12 (some t13)], .stk t11 (Enc.str.fl r10), .tok t13 33]) := oE F o1 a2 a3 t4 a5 a6 t7 _ H
theorem ph (F : Nat) (o1 : Nat) (a2 : List UInt8) (a3 : List (List UInt8)) (t4 : Nat) (a5 : Int) (a6 : List (Int × (List UInt8) × (List UInt8) × List ((List UInt8) × List UInt8))) (t7 : Nat) (e : Int) (H : iP F a2 a3 a5 a6 = some (Res.pan e)) : ACalls Tryz.prog 42 [.pt o1 0] [.obj o1 [S a2, .sk t4 a3.length, i64 a5, slE (ab Enc.int (ab Enc.str (ab Enc.str (Enc.sl (ab Enc.str Enc.str))))) a6 (some t7)], .stk t4 (Enc.str.fl a3), .tok t7 33] (fun ae A' => ae = .pan ((fun e => du (.iface 46 (.agg #[.int .i64 e]))) e) ∧ A' = []) := oE F o1 a2 a3 t4 a5 a6 t7 _ H
abbrev _root_.Go.Av.bI := @Tryz.underlying44
set_option maxRecDepth 100000 in
set_option maxHeartbeats 1000000 in
theorem rl (F : Nat) (o1 : Nat) (a2 : List UInt8) (a3 : List (List UInt8)) (t4 : Nat) (a5 : Int) (a6 : List (Int × (List UInt8) × (List UInt8) × List ((List UInt8) × List UInt8))) (t7 : Nat) (rv : Res ((List UInt8) × (List UInt8) × (List UInt8))) (H : lG F a2 a3 a5 a6 = some rv) : ACalls Tryz.prog 72 [.pt o1 0] [.obj o1 [S a2, .sk t4 a3.length, i64 a5, slE (ab Enc.int (ab Enc.str (ab Enc.str (Enc.sl (ab Enc.str Enc.str))))) a6 (some t7)], .stk t4 (Enc.str.fl a3), .tok t7 33] (kZ (fun (r : (List UInt8) × (List UInt8) × (List UInt8)) => (fun e A' => e = .ret (.agg [S r.1, S r.2.1]) ∧ A' = [.obj o1 [S r.2.2, .sk t4 a3.length, i64 a5, slE (ab Enc.int (ab Enc.str (ab Enc.str (Enc.sl (ab Enc.str Enc.str))))) a6 (some t7)], .stk t4 (Enc.str.fl a3), .tok t7 33])) (fun e => du (.iface 46 (.agg #[.int .i64 e]))) rv) := by
 unfold lG at H
 refine aw Tryz.func72 rfl rfl ?_;show AW _ _ 26 _ _ _;refine af <| aa ?_;show AR _ _ _ _ _ [0] _;refine zX rfl (dR (zs := [.string ⟨#[]⟩, .string ⟨#[]⟩]) (by kernel_rfl)) ?_;rintro _ _ ⟨o11, rfl, rfl⟩;refine aj <| af ?_
 rcases Or.symm (de H) with ⟨p14, e13, H⟩ | ⟨x12, e13, H⟩
 ·subst H;refine aa ?_;show AR _ _ _ _ _ [0, 1, 2, 3, 4] _;refine zS rfl (ah (av := .pt _ _) rfl) <| aq rfl rfl (bK (c := du (.iface 46 (.agg #[.int .i64 p14]))) [1, 1, 1] rfl ke rfl (kH F o1 a2 a3 t4 a5 a6 t7 p14 e13) rfl ?_);exact And.intro rfl (Exists.intro [] ⟨br _, rfl, rfl⟩)
 refine aa ?_;show AR _ _ _ _ _ [0, 1, 2, 3, 4] _;refine zS rfl (ah (av := .pt _ _) rfl) <| aq rfl rfl (aN [1, 1, 1] rfl ke rfl (lm F o1 a2 a3 t4 a5 a6 t7 x12.1 x12.2 e13) rfl (fun c A' h => by cases h.1) ?_)
 rintro av A' ⟨h, rfl⟩; cases h
 refine zS rfl (eG (zs := [.string ⟨#[]⟩, .string ⟨#[]⟩]) (ps := [(0, 1), (1, 1)]) (cs := [S x12.1, S ([] : List UInt8)]) (by kernel_rfl) rfl rfl) <| zX rfl (dR (zs := [.string ⟨#[]⟩, .string ⟨#[]⟩]) (by kernel_rfl)) ?_;rintro _ _ ⟨o15, rfl, rfl⟩;refine s0 rfl rfl (cw (i := 0) (vs := [S x12.1, S ([] : List UInt8)]) (by kernel_rfl) rfl rfl (by simp [cr, slE]) rfl (ai rfl)) <| aj <| af <| aa ?_;show AR _ _ _ _ _ [0] _;refine za rfl <| aj <| bt (X := (List UInt8) × (List UInt8)) (fun (y26, y27) => ⟨[(0, .pt o1 0), (2, .pt o11 0), (3, .pt o15 0), (4, S y26)], [], [.obj o1 [S y27, .sk t4 a3.length, i64 a5, slE (ab Enc.int (ab Enc.str (ab Enc.str (Enc.sl (ab Enc.str Enc.str))))) a6 (some t7)], .obj o15 [S x12.1, S ([] : List UInt8)], .obj o11 [S ([] : List UInt8), S ([] : List UInt8)], .stk t4 (Enc.str.fl a3), .tok t7 33]⟩) (fun (y26, y27) => ix F a3 a5 a6 x12 y26 y27 = some rv) ?_ ?_
 ·refine af ?_;obtain ⟨x16, x17, e18, H⟩ := cQ H;refine aa ?_;show AR _ _ _ _ _ [0, 1, 2] _;refine zS rfl (ah (av := .pt _ _) rfl) <| aq rfl rfl (aN [1, 1, 1] rfl ep rfl (ek F o1 x12.2 a3 t4 a5 a6 t7 ([61, 34] : List UInt8) x16 x17 e18) rfl (fun c A' h => by cases h.1) ?_)
  rintro av A' ⟨h, rfl⟩; cases h
  refine zS rfl (bS rfl) <| aj <| ay rfl (fun c19 => ?_) (fun c19 => ?_)
  ·replace H := aZ c19 H;refine af ?_;obtain ⟨x20, x21, e22, H⟩ := cQ H
   rcases Or.symm (de H) with ⟨p25, e24, H⟩ | ⟨x23, e24, H⟩
   ·subst H;refine aa ?_;show AR _ _ _ _ _ [0, 1, 2] _;refine zS rfl (ah (av := .pt _ _) rfl) <| aq rfl rfl (aN [0, 0, 0] rfl ep rfl (ek F o1 x17 a3 t4 a5 a6 t7 ([61, 39] : List UInt8) x20 x21 e22) rfl (fun c A' h => by cases h.1) ?_)
    rintro av A' ⟨h, rfl⟩; cases h
    refine aq rfl rfl (bK (c := du (.iface 46 (.agg #[.int .i64 p25]))) [] rfl bX rfl (cc F x20 p25 e24) rfl ?_);exact And.intro rfl (Exists.intro [] ⟨br _, rfl, rfl⟩)
   refine aa ?_;show AR _ _ _ _ _ [0, 1, 2] _;refine zS rfl (ah (av := .pt _ _) rfl) <| aq rfl rfl (aN [0, 0, 0] rfl ep rfl (ek F o1 x17 a3 t4 a5 a6 t7 ([61, 39] : List UInt8) x20 x21 e22) rfl (fun c A' h => by cases h.1) ?_)
   rintro av A' ⟨h, rfl⟩; cases h
   refine aq rfl rfl (aO rfl bX rfl (ck F x20 e24) ?_);refine aj <| aa ?_;show AR _ _ _ _ _ [0] _;refine za rfl <| aj ?_;exact Exists.intro (([39] : List UInt8), x21) ⟨H, aQ [0, 2, 2, 0, 0] (.cons (.refl _) (.cons (.refl _) (.cons (.refl _) (.cons (.refl _) (.nil _))))) rfl⟩
  ·replace H := ba c19 H;refine aC ?_;exact Exists.intro (([34] : List UInt8), x17) ⟨H, aQ [0, 2, 2, 0, 0] (.cons (.refl _) (.cons (.refl _) (.cons (.refl _) (.cons (.refl _) (.nil _))))) rfl⟩
 rintro ⟨y26, y27⟩ H;replace H : ix F a3 a5 a6 x12 y26 y27 = some rv := H
 unfold ix at H
 refine af ?_
 rcases Or.symm (de H) with ⟨p31, e30, H⟩ | ⟨x29, e30, H⟩
 ·subst H;refine aa ?_;show AR _ _ _ _ _ [0, 1, 2, 3] _;refine zS rfl (ah (av := .pt _ _) rfl) <| zm rfl <| aq rfl rfl (bK (c := du (.iface 46 (.agg #[.int .i64 p31]))) [0, 2, 2] rfl gh rfl (hP F o1 y27 a3 t4 a5 a6 t7 y26 p31 e30) rfl ?_);exact And.intro rfl (Exists.intro [] ⟨br _, rfl, rfl⟩)
 refine aa ?_;show AR _ _ _ _ _ [0, 1, 2, 3] _;refine zS rfl (ah (av := .pt _ _) rfl) <| zm rfl <| aq rfl rfl (aN [0, 2, 2] rfl gh rfl (jd F o1 y27 a3 t4 a5 a6 t7 y26 x29.1 x29.2 e30) rfl (fun c A' h => by cases h.1) ?_)
 rintro av A' ⟨h, rfl⟩; cases h
 refine za rfl <| aj <| af ?_;obtain ⟨g32, H⟩ := aP H;obtain ⟨x33, e34, H⟩ := bM H
 rcases Or.symm (de H) with ⟨p37, e36, H⟩ | ⟨x35, e36, H⟩
 ·subst H;refine aa ?_;show AR _ _ _ _ _ [0, 1, 2, 3] _;refine zm rfl <| aq rfl rfl (aO rfl ox rfl (show ACalls _ _ _ [] (Ret (B x33) []) from by subst e34; exact ls x29.1 ([60] : List UInt8) (nh g32)) ?_);refine zS rfl (bS rfl) <| aq rfl rfl (bK (c := du (.iface 46 (.agg #[.int .i64 p37]))) [] rfl bX rfl (cc F (!x33) p37 e36) rfl ?_);exact And.intro rfl (Exists.intro [] ⟨br _, rfl, rfl⟩)
 refine aa ?_;show AR _ _ _ _ _ [0, 1, 2, 3] _;refine zm rfl <| aq rfl rfl (aO rfl ox rfl (show ACalls _ _ _ [] (Ret (B x33) []) from by subst e34; exact ls x29.1 ([60] : List UInt8) (nh g32)) ?_);refine zS rfl (bS rfl) <| aq rfl rfl (aO rfl bX rfl (ck F (!x33) e36) ?_);refine aj <| af ?_
 rcases Or.symm (de H) with ⟨p40, e39, H⟩ | ⟨x38, e39, H⟩
 ·subst H;refine aa ?_;show AR _ _ _ _ _ [0, 1, 2, 3] _;refine zm rfl <| aq rfl rfl (bK (c := du (.iface 46 (.agg #[.int .i64 p40]))) [] rfl mt rfl (lz F x29.1 p40 e39) rfl ?_);exact And.intro rfl (Exists.intro [] ⟨br _, rfl, rfl⟩)
 refine aa ?_;show AR _ _ _ _ _ [0, 1, 2, 3] _;refine zm rfl <| aq rfl rfl (aO rfl mt rfl (lP F x29.1 x38 e39) ?_);refine zS rfl (ag (n := 1) (by kernel_rfl) rfl) <| s0 rfl rfl (aA (i := 3) (c := .v _) (by kernel_rfl) rfl rfl rfl rfl (ai rfl)) <| aj <| af <| aa ?_;show AR _ _ _ _ _ [0, 1] _;refine zR rfl (eW (i := 3) (n := 2) bI rfl (by kernel_rfl) rfl rfl (ai rfl)) <| s0 rfl rfl (cw (i := 4) (vs := [S x12.1, S x38]) (by kernel_rfl) rfl rfl (by simp [cr, slE]) rfl (ai rfl)) <| aj <| aK ?_;obtain rfl := ap H;exact And.intro rfl (Exists.intro _ (Exists.intro _ ⟨oA (mc rfl (CellV.agg (off := 0) (cs := [S x12.1, S x38]) (n := 2) 4 bI rfl (by kernel_rfl) rfl rfl (ai rfl))), aH [0, 0, 0] rfl, rfl, rfl⟩))
theorem sn (F : Nat) (o1 : Nat) (a2 : List UInt8) (a3 : List (List UInt8)) (t4 : Nat) (a5 : Int) (a6 : List (Int × (List UInt8) × (List UInt8) × List ((List UInt8) × List UInt8))) (t7 : Nat) (r8 : List UInt8) (r9 : List UInt8) (r10 : List UInt8) (H : lG F a2 a3 a5 a6 = some (Res.ok (r8, r9, r10))) : ACalls Tryz.prog 72 [.pt o1 0] [.obj o1 [S a2, .sk t4 a3.length, i64 a5, slE (ab Enc.int (ab Enc.str (ab Enc.str (Enc.sl (ab Enc.str Enc.str))))) a6 (some t7)], .stk t4 (Enc.str.fl a3), .tok t7 33] (fun e A' => e = .ret (.agg [S r8, S r9]) ∧ A' = [.obj o1 [S r10, .sk t4 a3.length, i64 a5, slE (ab Enc.int (ab Enc.str (ab Enc.str (Enc.sl (ab Enc.str Enc.str))))) a6 (some t7)], .stk t4 (Enc.str.fl a3), .tok t7 33]) := rl F o1 a2 a3 t4 a5 a6 t7 _ H
theorem qM (F : Nat) (o1 : Nat) (a2 : List UInt8) (a3 : List (List UInt8)) (t4 : Nat) (a5 : Int) (a6 : List (Int × (List UInt8) × (List UInt8) × List ((List UInt8) × List UInt8))) (t7 : Nat) (e : Int) (H : lG F a2 a3 a5 a6 = some (Res.pan e)) : ACalls Tryz.prog 72 [.pt o1 0] [.obj o1 [S a2, .sk t4 a3.length, i64 a5, slE (ab Enc.int (ab Enc.str (ab Enc.str (Enc.sl (ab Enc.str Enc.str))))) a6 (some t7)], .stk t4 (Enc.str.fl a3), .tok t7 33] (fun ae A' => ae = .pan ((fun e => du (.iface 46 (.agg #[.int .i64 e]))) e) ∧ A' = []) := rl F o1 a2 a3 t4 a5 a6 t7 _ H
set_option maxRecDepth 100000 in
set_option maxHeartbeats 1000000 in
theorem uq (F : Nat) (a1 : List UInt8) (a2 : List UInt8) (o3 : Nat) (a4 : List UInt8) (a5 : List UInt8) (r6 : Bool) (H : nC F a1 a2 a4 a5 = some r6) : ACalls Tryz.prog 74 [.agg [S a1, S a2], .pt o3 0] [.obj o3 [S a4, S a5]] (fun e A' => e = .ret (B r6) ∧ A' = [.obj o3 [S a4, S a5]]) := by
 unfold nC at H
 refine aw Tryz.func74 rfl rfl ?_;show AW _ _ 9 _ _ _;refine af <| aa ?_;show AR _ _ _ _ _ [0, 1] _;refine zR rfl (oo rfl (.inr ⟨_, rfl⟩)) <| za rfl <| aj <| af <| aa ?_;show AR _ _ _ _ _ [0, 1, 2, 3, 4, 5] _;refine zS rfl (ag (n := 0) (by kernel_rfl) rfl) <| zR rfl (ak (i := 0) ac rfl rfl rfl rfl) <| zS rfl (bo (n := 0) (by kernel_rfl) rfl (ai rfl)) <| zS rfl (bh ac rfl rfl) <| zS rfl (cm rfl rfl) <| za rfl <| aj <| aK ?_;obtain rfl := ap H;exact And.intro rfl (Exists.intro _ (Exists.intro _ ⟨aJ rfl (.refl _), aH [0] rfl, rfl, rfl⟩))
abbrev _root_.Go.Av.aV := @Tryz.underlying31
set_option maxRecDepth 100000 in
set_option maxHeartbeats 1000000 in
theorem pL (F : Nat) (a1 : List ((List UInt8) × List UInt8)) (q2 : Option Nat) (o3 : Nat) (a4 : List UInt8) (a5 : List UInt8) (r6 : Int) (H : jX F a1 a4 a5 = some r6) : ACalls Tryz.prog 96 [slE (ab Enc.str Enc.str) a1 q2, .fn (.func 74) [] [.pt o3 0]] [.obj o3 [S a4, S a5]] (fun e A' => e = .ret (i64 r6) ∧ A' = [.obj o3 [S a4, S a5]]) := by
 unfold jX at H
 refine aw Tryz.func96 rfl rfl ?_;show AW _ _ 19 _ _ _;refine af <| aa ?_;show AR _ _ _ _ _ [0] _;refine za rfl <| aj <| bt (X := Unit) (fun _ => ⟨[], [], [.obj o3 [S a4, S a5]]⟩) (fun _ => ik = some r6) ?_ ?_
 ·refine af <| aa ?_;show AR _ _ _ _ _ [0, 1, 2] _;refine zS rfl (ah (av := slE _ _ _) rfl) <| zS rfl (bn aV rfl) <| zm rfl <| aj <| aX <| cA (X := Nat × Int) (fun (n9, y7) => ⟨[(0, slE (ab Enc.str Enc.str) a1 q2), (1, .fn (.func 74) [] [.pt o3 0]), (7, i64 (a1.length : Int)), (8, i64 y7)], [], [.obj o3 [S a4, S a5]]⟩) (fun (n9, y7) => eH F a1 a4 a5 n9 y7 = some r6) (fun (n9, y7) => n9) (F, 0) H (aQ [0] (.cons (.refl _) (.cons (.refl _) (.cons (.refl _) (.cons (.refl _) (.nil _))))) rfl) ?_;rintro ⟨n9, y7⟩ H;obtain ⟨n9, rfl, H⟩ := dx H;replace H : fL F a1 a4 a5 (eH F a1 a4 a5 n9) y7 = some r6 := H
  unfold fL at H
  refine af <| aa ?_;show AR _ _ _ _ _ [0] _;refine zS rfl (bQ rfl rfl) <| aj <| af <| ay rfl (fun c10 => ?_) (fun c10 => ?_)
  ·replace H := aZ c10 H;refine aC <| af <| aX <| af <| aa ?_;show AR _ _ _ _ _ [0, 1] _;refine zm rfl <| za rfl <| aj <| af ?_;obtain ⟨g11, H⟩ := aP H;obtain ⟨x12, e13, H⟩ := bM H;obtain ⟨x14, e15, H⟩ := ci H;refine aa ?_;show AR _ _ _ _ _ [0, 1, 2, 3, 4, 5] _;refine zS rfl (ah (av := .fn _ _ _) rfl) <| zS rfl (ah (av := slE _ _ _) rfl) <| zm rfl <| zS rfl (bV (E := (ab Enc.str Enc.str)) aV (by kernel_rfl) rfl rfl g11 e13) <| zS rfl (cD bI rfl (n := 2) (by kernel_rfl) rfl (ai rfl)) <| aq rfl rfl (AO.callFAt [0] rfl (.inl rfl) wn rfl (uq F x12.1 x12.2 o3 a4 a5 x14 e15) rfl (fun c A' h => by cases h.1) ?_)
   rintro av A' ⟨h, rfl⟩; cases h
   refine aj <| ay rfl (fun c16 => ?_) (fun c16 => ?_)
   ·replace H := aZ c16 H;refine af <| aa ?_;show AR _ _ _ _ _ [0, 1] _;refine zm rfl <| za rfl <| aj <| aK ?_;obtain rfl := ap H;exact And.intro rfl (Exists.intro _ (Exists.intro _ ⟨aJ rfl (.refl _), aH [0] rfl, rfl, rfl⟩))
   ·replace H := ba c16 H;refine aC ?_;obtain ⟨g17, H⟩ := aP H;refine aa ?_;show AR _ _ _ _ _ [0, 1] _;refine zS rfl (bD rfl rfl g17) <| zm rfl <| aj ?_;exact Exists.intro (n9, y7 + 1) ⟨H, Nat.lt_succ_self _, aQ [0] (.cons (.refl _) (.cons (.refl _) (.cons (.refl _) (.cons (.refl _) (.nil _))))) rfl⟩
  ·replace H := ba c10 H;refine bW ?_;exact Exists.intro () ⟨H, aQ [0] (.nil _) rfl⟩
 rintro _ H;replace H : ik = some r6 := H
 unfold ik at H
 refine af <| aa ?_;show AR _ _ _ _ _ [0] _;refine za rfl <| aj <| aK ?_;obtain rfl := ap H;exact And.intro rfl (Exists.intro _ (Exists.intro _ ⟨aJ rfl (.refl _), aH [0] rfl, rfl, rfl⟩))
set_option maxRecDepth 100000 in
set_option maxHeartbeats 1000000 in
theorem kx (F : Nat) (a1 : List ((List UInt8) × List UInt8)) (q2 : Option Nat) (o3 : Nat) (a4 : List UInt8) (a5 : List UInt8) (r6 : Bool) (H : fM F a1 a4 a5 = some r6) : ACalls Tryz.prog 73 [slE (ab Enc.str Enc.str) a1 q2, .fn (.func 74) [] [.pt o3 0]] [.obj o3 [S a4, S a5]] (fun e A' => e = .ret (B r6) ∧ A' = [.obj o3 [S a4, S a5]]) := by
 unfold fM at H
 refine aw Tryz.func73 rfl rfl ?_;show AW _ _ 9 _ _ _;refine af <| aa ?_;show AR _ _ _ _ _ [0] _;refine za rfl <| aj <| af ?_;obtain ⟨x7, e8, H⟩ := ci H;refine aa ?_;show AR _ _ _ _ _ [0, 1, 2, 3, 4] _;refine zS rfl (ah (av := slE _ _ _) rfl) <| zS rfl (ah (av := .fn _ _ _) rfl) <| aq rfl rfl (aN [0] rfl wa rfl (pL F a1 q2 o3 a4 a5 x7 e8) rfl (fun c A' h => by cases h.1) ?_)
 rintro av A' ⟨h, rfl⟩; cases h
 refine zS rfl (dd rfl rfl) <| za rfl <| aj <| aK ?_;obtain rfl := ap H;exact And.intro rfl (Exists.intro _ (Exists.intro _ ⟨aJ rfl (.refl _), aH [0] rfl, rfl, rfl⟩))
abbrev _root_.Go.Av.ar := @Tryz.underlying3
abbrev _root_.Go.Av.dp := @Tryz.underlying33
set_option maxRecDepth 100000 in
set_option maxHeartbeats 1000000 in
theorem np (F : Nat) (o1 : Nat) (a2 : List UInt8) (a3 : List (List UInt8)) (t4 : Nat) (a5 : Int) (a6 : List (Int × (List UInt8) × (List UInt8) × List ((List UInt8) × List UInt8))) (t7 : Nat) (rv : Res (Bool × (List UInt8) × Int × (List (Int × (List UInt8) × (List UInt8) × List ((List UInt8) × List UInt8))) × (List (List UInt8)))) (H : iw F a2 a3 a5 a6 = some rv) : ACalls Tryz.prog 43 [.pt o1 0] [.obj o1 [S a2, .sk t4 a3.length, i64 a5, slE (ab Enc.int (ab Enc.str (ab Enc.str (Enc.sl (ab Enc.str Enc.str))))) a6 (some t7)], .stk t4 (Enc.str.fl a3), .tok t7 33] (kZ (fun (r : Bool × (List UInt8) × Int × (List (Int × (List UInt8) × (List UInt8) × List ((List UInt8) × List UInt8))) × (List (List UInt8))) => (fun e A' => e = .ret (B r.1) ∧ ∃ t11 t14, A' = [.obj o1 [S r.2.1, .sk t11 r.2.2.2.2.length, i64 r.2.2.1, slE (ab Enc.int (ab Enc.str (ab Enc.str (Enc.sl (ab Enc.str Enc.str))))) r.2.2.2.1 (some t14)], .stk t11 (Enc.str.fl r.2.2.2.2), .tok t14 33])) (fun e => du (.iface 46 (.agg #[.int .i64 e]))) rv) := by
 unfold iw at H
 refine aw Tryz.func43 rfl rfl ?_;show AW _ _ 88 _ _ _;refine af <| aa ?_;show AR _ _ _ _ _ [0] _;refine za rfl <| aj <| af <| af ?_;obtain ⟨x15, x16, e17, H⟩ := cQ H;refine aa ?_;show AR _ _ _ _ _ [0, 1, 2] _;refine zS rfl (ah (av := .pt _ _) rfl) <| aq rfl rfl (aN [0, 0, 0] rfl ep rfl (ek F o1 a2 a3 t4 a5 a6 t7 ([60] : List UInt8) x15 x16 e17) rfl (fun c A' h => by cases h.1) ?_)
 rintro av A' ⟨h, rfl⟩; cases h
 refine zS rfl (bS rfl) <| aj <| ay rfl (fun c18 => ?_) (fun c18 => ?_)
 ·replace H := aZ c18 H;refine af <| aa ?_;show AR _ _ _ _ _ [0] _;refine za rfl <| aj <| aK ?_;obtain rfl := ap H;exact And.intro rfl (Exists.intro _ (Exists.intro _ ⟨aJ rfl (.refl _), aH [0, 0, 0] rfl, rfl, t4, t7, rfl⟩))
 ·replace H := ba c18 H;refine aC <| af ?_
  rcases Or.symm (de H) with ⟨p21, e20, H⟩ | ⟨x19, e20, H⟩
  ·subst H;refine aa ?_;show AR _ _ _ _ _ [0, 1, 2, 3, 4] _;refine zS rfl (ah (av := .pt _ _) rfl) <| aq rfl rfl (bK (c := du (.iface 46 (.agg #[.int .i64 p21]))) [0, 0, 0] rfl ke rfl (kH F o1 x16 a3 t4 a5 a6 t7 p21 e20) rfl ?_);exact And.intro rfl (Exists.intro [] ⟨br _, rfl, rfl⟩)
  refine aa ?_;show AR _ _ _ _ _ [0, 1, 2, 3, 4] _;refine zS rfl (ah (av := .pt _ _) rfl) <| aq rfl rfl (aN [0, 0, 0] rfl ke rfl (lm F o1 x16 a3 t4 a5 a6 t7 x19.1 x19.2 e20) rfl (fun c A' h => by cases h.1) ?_)
  rintro av A' ⟨h, rfl⟩; cases h
  refine zS rfl (eG (zs := [.int .i64 0, .string ⟨#[]⟩, .string ⟨#[]⟩, .slice none 0 0]) (ps := [(0, 1), (1, 1), (2, 1), (3, 1)]) (cs := [i64 0, S x19.1, S ([] : List UInt8), gj]) (by kernel_rfl) rfl rfl) <| zX rfl (dR (zs := [.int .i64 0, .string ⟨#[]⟩, .string ⟨#[]⟩, .slice none 0 0]) (by kernel_rfl)) ?_;rintro _ _ ⟨o22, rfl, rfl⟩;refine s0 rfl rfl (cw (i := 0) (vs := [i64 0, S x19.1, S ([] : List UInt8), gj]) (by kernel_rfl) rfl rfl (by simp [cr, slE]) rfl (ai rfl)) <| aj ?_
  refine gP 0 3 2 44 rfl rfl fun t23 => ?_
  show AW _ _ _ _ _ ⟨_, _, [.tok t23 44, .obj o22 [i64 0, S x19.1, S ([] : List UInt8), slE (ab Enc.str Enc.str) [] (some t23)], .obj o1 [S x19.2, .sk t4 a3.length, i64 a5, slE (ab Enc.int (ab Enc.str (ab Enc.str (Enc.sl (ab Enc.str Enc.str))))) a6 (some t7)], .stk t4 (Enc.str.fl a3), .tok t7 33]⟩;refine af <| aa ?_;show AR _ _ _ _ _ [0] _;refine za rfl <| aj <| bt (X := Bool × (List UInt8) × (List ((List UInt8) × List UInt8)) × Nat) (fun (y56, y57, y58, t59) => ⟨[(0, .pt o1 0), (3, .pt o22 0), (4, B y56)], [], [.obj o1 [S y57, .sk t4 a3.length, i64 a5, slE (ab Enc.int (ab Enc.str (ab Enc.str (Enc.sl (ab Enc.str Enc.str))))) a6 (some t7)], .obj o22 [i64 0, S x19.1, S ([] : List UInt8), slE (ab Enc.str Enc.str) y58 (some t59)], .stk t4 (Enc.str.fl a3), .tok t7 33, .tok t59 44]⟩) (fun (y56, y57, y58, t59) => eY F a3 a5 a6 x19 y56 y57 y58 = some rv) ?_ ?_
  ·refine aX <| cA (X := Nat × (List ((List UInt8) × List UInt8)) × Nat × (List UInt8)) (fun (n28, y24, t25, y26) => ⟨[(0, .pt o1 0), (3, .pt o22 0), (4, B false)], [], [.obj o22 [i64 0, S x19.1, S ([] : List UInt8), slE (ab Enc.str Enc.str) y24 (some t25)], .obj o1 [S y26, .sk t4 a3.length, i64 a5, slE (ab Enc.int (ab Enc.str (ab Enc.str (Enc.sl (ab Enc.str Enc.str))))) a6 (some t7)], .stk t4 (Enc.str.fl a3), .tok t25 44, .tok t7 33]⟩) (fun (n28, y24, t25, y26) => hN F a3 a5 a6 x19 n28 (y24, y26) = some rv) (fun (n28, y24, t25, y26) => n28) (F, [], t23, x19.2) H (aQ [1, 1, 1, 0, 0] (.cons (.refl _) (.cons (.refl _) (.cons (.refl _) (.nil _)))) rfl) ?_;rintro ⟨n28, y24, t25, y26⟩ H;obtain ⟨n28, rfl, H⟩ := dx H;replace H : hO F a3 a5 a6 x19 (hN F a3 a5 a6 x19 n28) y24 y26 = some rv := H
   unfold hO at H
   refine aX <| af ?_;obtain ⟨x29, x30, e31, H⟩ := cQ H;refine aa ?_;show AR _ _ _ _ _ [0, 1, 2] _;refine zS rfl (ah (av := .pt _ _) rfl) <| aq rfl rfl (aN [1, 1, 2] rfl rO rfl (oD F o1 y26 a3 t4 a5 a6 t7 x29 x30 e31) rfl (fun c A' h => by cases h.1) ?_)
   rintro av A' ⟨h, rfl⟩; cases h
   refine za rfl <| aj <| af <| af ?_;obtain ⟨x32, x33, e34, H⟩ := cQ H;refine aa ?_;show AR _ _ _ _ _ [0, 1] _;refine zS rfl (ah (av := .pt _ _) rfl) <| aq rfl rfl (aN [0, 0, 0] rfl ep rfl (ek F o1 x30 a3 t4 a5 a6 t7 ([62] : List UInt8) x32 x33 e34) rfl (fun c A' h => by cases h.1) ?_)
   rintro av A' ⟨h, rfl⟩; cases h
   refine aj <| ay rfl (fun c35 => ?_) (fun c35 => ?_)
   ·replace H := aZ c35 H;refine bW ?_;exact Exists.intro (false, x33, y24, t25) ⟨H, aQ [0, 2, 0, 0, 0] (.cons (.refl _) (.cons (.refl _) (.cons (.refl _) (.nil _)))) rfl⟩
   ·replace H := ba c35 H;refine aC <| af <| af ?_;obtain ⟨x36, x37, e38, H⟩ := cQ H;refine aa ?_;show AR _ _ _ _ _ [0, 1] _;refine zS rfl (ah (av := .pt _ _) rfl) <| aq rfl rfl (aN [0, 0, 0] rfl ep rfl (ek F o1 x33 a3 t4 a5 a6 t7 ([47, 62] : List UInt8) x36 x37 e38) rfl (fun c A' h => by cases h.1) ?_)
    rintro av A' ⟨h, rfl⟩; cases h
    refine aj <| ay rfl (fun c39 => ?_) (fun c39 => ?_)
    ·replace H := aZ c39 H;refine af <| aa ?_;show AR _ _ _ _ _ [0] _;refine za rfl <| aj <| bW ?_;exact Exists.intro (true, x37, y24, t25) ⟨H, aQ [0, 2, 0, 0, 0] (.cons (.refl _) (.cons (.refl _) (.cons (.refl _) (.nil _)))) rfl⟩
    ·replace H := ba c39 H;refine aC <| af ?_
     rcases Or.symm (de H) with ⟨p42, e41, H⟩ | ⟨x40, e41, H⟩
     ·subst H;refine aa ?_;show AR _ _ _ _ _ [0, 1] _;refine zm rfl <| aq rfl rfl (bK (c := du (.iface 46 (.agg #[.int .i64 p42]))) [] rfl bX rfl (cc F x29 p42 e41) rfl ?_);exact And.intro rfl (Exists.intro [] ⟨br _, rfl, rfl⟩)
     refine aa ?_;show AR _ _ _ _ _ [0, 1] _;refine zm rfl <| aq rfl rfl (aO rfl bX rfl (ck F x29 e41) ?_);refine aj <| af ?_
     rcases Or.symm (de H) with ⟨p45, e44, H⟩ | ⟨x43, e44, H⟩
     ·subst H;refine aa ?_;show AR _ _ _ _ _ [0, 1, 2, 3] _;refine zS rfl (ah (av := .pt _ _) rfl) <| aq rfl rfl (bK (c := du (.iface 46 (.agg #[.int .i64 p45]))) [0, 0, 0] rfl rN rfl (qM F o1 x37 a3 t4 a5 a6 t7 p45 e44) rfl ?_);exact And.intro rfl (Exists.intro [] ⟨br _, rfl, rfl⟩)
     refine aa ?_;show AR _ _ _ _ _ [0, 1, 2, 3] _;refine zS rfl (ah (av := .pt _ _) rfl) <| aq rfl rfl (aN [0, 0, 0] rfl rN rfl (sn F o1 x37 a3 t4 a5 a6 t7 x43.1 x43.2.1 x43.2.2 e44) rfl (fun c A' h => by cases h.1) ?_)
     rintro av A' ⟨h, rfl⟩; cases h
     refine zX rfl (dR (zs := [.string ⟨#[]⟩, .string ⟨#[]⟩]) (by kernel_rfl)) ?_;rintro _ _ ⟨o46, rfl, rfl⟩;refine s0 rfl rfl (cw (i := 0) (vs := [S x43.1, S x43.2.1]) (by kernel_rfl) rfl rfl (by simp [cr, slE]) rfl (ai rfl)) <| aj <| af ?_;obtain ⟨x47, e48, H⟩ := ci H
     rcases Or.symm (de H) with ⟨p51, e50, H⟩ | ⟨x49, e50, H⟩
     ·subst H;refine aa ?_;show AR _ _ _ _ _ [0, 1, 2, 3, 4, 5] _;refine zS rfl (ag (n := 3) (by kernel_rfl) rfl) <| zR rfl (ak (i := 4) aV rfl rfl rfl rfl) <| zS rfl (lq rfl rfl) <| aq rfl rfl (aN [0] rfl rM rfl (kx F y24 (some t25) o46 x43.1 x43.2.1 x47 e48) rfl (fun c A' h => by cases h.1) ?_)
      rintro av A' ⟨h, rfl⟩; cases h
      refine zS rfl (bS rfl) <| aq rfl rfl (bK (c := du (.iface 46 (.agg #[.int .i64 p51]))) [] rfl bX rfl (cc F (!x47) p51 e50) rfl ?_);exact And.intro rfl (Exists.intro [] ⟨br _, rfl, rfl⟩)
     refine aa ?_;show AR _ _ _ _ _ [0, 1, 2, 3, 4, 5] _;refine zS rfl (ag (n := 3) (by kernel_rfl) rfl) <| zR rfl (ak (i := 4) aV rfl rfl rfl rfl) <| zS rfl (lq rfl rfl) <| aq rfl rfl (aN [0] rfl rM rfl (kx F y24 (some t25) o46 x43.1 x43.2.1 x47 e48) rfl (fun c A' h => by cases h.1) ?_)
     rintro av A' ⟨h, rfl⟩; cases h
     refine zS rfl (bS rfl) <| aq rfl rfl (aO rfl bX rfl (ck F (!x47) e50) ?_);refine aj ?_;obtain ⟨g53, H⟩ := aP H;obtain ⟨x54, e55, H⟩ := bM H;refine aa ?_;show AR _ _ _ _ _ [0, 1, 2, 3, 4, 5, 6] _;refine zS rfl (ag (n := 3) (by kernel_rfl) rfl) <| zR rfl (ak (i := 4) aV rfl rfl rfl rfl) <| zR rfl (eW (i := 0) (n := 2) bI rfl (by kernel_rfl) rfl rfl (ai rfl)) <| zR rfl (cC (E := (ab Enc.str Enc.str)) (bytes := 32) (zs := [.string ⟨#[]⟩, .string ⟨#[]⟩]) (l := ([(x43.1, x43.2.1)] : List ((List UInt8) × List UInt8))) aV (by kernel_rfl) (by kernel_rfl) rfl rfl rfl rfl rfl) <| zX rfl (df (E := (ab Enc.str Enc.str)) (bytes := 32) 5 aV aV rfl (by kernel_rfl) rfl rfl rfl rfl g53 e55) ?_;rintro _ _ ⟨t52, rfl, rfl⟩;refine zS rfl (ag (n := 3) (by kernel_rfl) rfl) <| s0 rfl rfl (aA (i := 4) (c := slE _ _ _) (by kernel_rfl) rfl rfl rfl rfl (ai rfl)) <| aj ?_;exact Exists.intro (n28, x54, t52, x43.2.2) ⟨H, Nat.lt_succ_self _, aQ [4, 1, 1, 2, 1] (.cons (.refl _) (.cons (.refl _) (.cons (.refl _) (.nil _)))) rfl⟩
  rintro ⟨y56, y57, y58, t59⟩ H;replace H : eY F a3 a5 a6 x19 y56 y57 y58 = some rv := H
  unfold eY at H
  refine bt (X := Int) (fun y66 => ⟨[(0, .pt o1 0), (3, .pt o22 0), (4, B y56)], [], [.obj o1 [S y57, .sk t4 a3.length, i64 y66, slE (ab Enc.int (ab Enc.str (ab Enc.str (Enc.sl (ab Enc.str Enc.str))))) a6 (some t7)], .obj o22 [i64 0, S x19.1, S ([] : List UInt8), slE (ab Enc.str Enc.str) y58 (some t59)], .stk t4 (Enc.str.fl a3), .tok t7 33, .tok t59 44]⟩) (fun y66 => eZ F a3 a6 x19 y56 y57 y58 y66 = some rv) ?_ ?_
  ·refine af <| aa ?_;show AR _ _ _ _ _ [0, 1, 2, 3, 4, 5] _;refine zS rfl (ah (av := .pt _ _) rfl) <| zS rfl (al rfl) <| zS rfl (ag (n := 1) (by kernel_rfl) rfl) <| zR rfl (ak (i := 0) ao rfl rfl rfl rfl) <| zS rfl (gJ ao rfl) <| zS rfl (bC rfl rfl) <| aj <| ay rfl (fun c61 => ?_) (fun c61 => ?_)
   ·replace H := aZ c61 H;refine af ?_;obtain ⟨g62, H⟩ := aP H;refine aa ?_;show AR _ _ _ _ _ [0, 1, 2, 3, 4, 5, 6, 7] _;refine zS rfl (ah (av := .pt _ _) rfl) <| zS rfl (al rfl) <| zS rfl (ag (n := 2) (by kernel_rfl) rfl) <| zR rfl (ak (i := 0) ar rfl rfl rfl rfl) <| zS rfl (bD rfl rfl g62) <| zS rfl (al rfl) <| zS rfl (ag (n := 2) (by kernel_rfl) rfl) <| s0 rfl rfl (aA (i := 0) (c := .v _) (by kernel_rfl) rfl rfl rfl rfl (ai rfl)) <| aj ?_
    rcases Or.symm (de H) with ⟨p65, e64, H⟩ | ⟨x63, e64, H⟩
    ·subst H;refine aa ?_;show AR _ _ _ _ _ [0, 1, 2, 3, 4, 5] _;refine zS rfl (ah (av := .pt _ _) rfl) <| zS rfl (al rfl) <| zS rfl (ag (n := 2) (by kernel_rfl) rfl) <| zR rfl (ak (i := 0) ar rfl rfl rfl rfl) <| zS rfl (bC rfl rfl) <| aq rfl rfl (bK (c := du (.iface 46 (.agg #[.int .i64 p65]))) [] rfl bX rfl (cc F (decide (a5 + 1 = 1)) p65 e64) rfl ?_);exact And.intro rfl (Exists.intro [] ⟨br _, rfl, rfl⟩)
    refine aa ?_;show AR _ _ _ _ _ [0, 1, 2, 3, 4, 5] _;refine zS rfl (ah (av := .pt _ _) rfl) <| zS rfl (al rfl) <| zS rfl (ag (n := 2) (by kernel_rfl) rfl) <| zR rfl (ak (i := 0) ar rfl rfl rfl rfl) <| zS rfl (bC rfl rfl) <| aq rfl rfl (aO rfl bX rfl (ck F (decide (a5 + 1 = 1)) e64) ?_);refine aj ?_;exact Exists.intro (a5 + 1) ⟨H, aQ [0, 0, 0, 0, 0] (.cons (.refl _) (.cons (.refl _) (.cons (.refl _) (.nil _)))) rfl⟩
   ·replace H := ba c61 H;refine aC ?_;exact Exists.intro a5 ⟨H, aQ [0, 0, 0, 0, 0] (.cons (.refl _) (.cons (.refl _) (.cons (.refl _) (.nil _)))) rfl⟩
  rintro y66 H;replace H : eZ F a3 a6 x19 y56 y57 y58 y66 = some rv := H
  unfold eZ at H
  refine bt (X := Nat × (List (List UInt8))) (fun (t78, y79) => ⟨[(0, .pt o1 0), (3, .pt o22 0), (4, B y56)], [], [.obj o1 [S y57, .sk t78 y79.length, i64 y66, slE (ab Enc.int (ab Enc.str (ab Enc.str (Enc.sl (ab Enc.str Enc.str))))) a6 (some t7)], .obj o22 [i64 0, S x19.1, S ([] : List UInt8), slE (ab Enc.str Enc.str) y58 (some t59)], .stk t78 (Enc.str.fl y79), .tok t7 33, .tok t59 44]⟩) (fun (t78, y79) => hH F a6 x19 y56 y57 y58 y66 y79 = some rv) ?_ ?_
  ·refine bt (X := Nat × (List (List UInt8))) (fun (t74, y75) => ⟨[(0, .pt o1 0), (3, .pt o22 0), (4, B y56)], [], [.obj o1 [S y57, .sk t74 y75.length, i64 y66, slE (ab Enc.int (ab Enc.str (ab Enc.str (Enc.sl (ab Enc.str Enc.str))))) a6 (some t7)], .obj o22 [i64 0, S x19.1, S ([] : List UInt8), slE (ab Enc.str Enc.str) y58 (some t59)], .stk t74 (Enc.str.fl y75), .tok t7 33, .tok t59 44]⟩) (fun (t74, y75) => hC F a6 x19 y56 y57 y58 y66 y75 = some rv) ?_ ?_
   ·obtain ⟨g68, H⟩ := aP H;obtain ⟨x69, e70, H⟩ := bM H;refine bg (by kernel_rfl) ?_;show AI _ _ _ _ _ 12 (Array.replicate 12 false) _;refine zk 0 rfl (ah (av := .pt _ _) rfl) ?_;show AI _ _ _ _ _ _ #[true, false, false, false, false, false, false, false, false, false, false, false] _;refine zk 1 rfl (ah (av := .pt _ _) rfl) ?_;show AI _ _ _ _ _ _ #[true, true, false, false, false, false, false, false, false, false, false, false] _;refine zk 2 rfl (al rfl) ?_;show AI _ _ _ _ _ _ #[true, true, true, false, false, false, false, false, false, false, false, false] _;refine zk 3 rfl (ag (n := 1) (by kernel_rfl) rfl) ?_;show AI _ _ _ _ _ _ #[true, true, true, true, false, false, false, false, false, false, false, false] _;refine zk 5 rfl (ag (n := 1) (by kernel_rfl) rfl) ?_;show AI _ _ _ _ _ _ #[true, true, true, true, false, true, false, false, false, false, false, false] _;refine cL (i := 4) (j := 6) (by kernel_rfl) rfl rfl rfl rfl ?_ ?_
    ·refine aE rfl (ak (i := 0) ao rfl rfl rfl rfl) ?_;show AI _ _ _ _ _ _ #[true, true, true, true, true, true, false, false, false, false, false, false] _;refine bc (i := 6) (by kernel_rfl) rfl rfl <| aE rfl (ak (i := 1) ac rfl rfl rfl rfl) ?_;show AI _ _ _ _ _ _ #[true, true, true, true, true, true, true, false, false, false, false, false] _;refine bc (i := 7) (by kernel_rfl) rfl rfl <| aE rfl (cP (E := Enc.str) (bytes := 16) (xs := [.tmp 60]) (l := ([x19.1] : List (List UInt8))) ao (by kernel_rfl) rfl rfl (by decide) rfl rfl) ?_;show AI _ _ _ _ _ _ #[true, true, true, true, true, true, true, true, false, false, false, false] _;refine bc (i := 8) (by kernel_rfl) rfl rfl <| dh rfl (lu (E := Enc.str) (bytes := 16) 2 ao ao rfl (by kernel_rfl) rfl rfl rfl rfl rfl rfl rfl g68 e70) ?_;rintro _ _ ⟨t71, rfl, rfl⟩;show AI _ _ _ _ _ _ #[true, true, true, true, true, true, true, true, true, false, false, false] _;refine zk 9 rfl (al rfl) ?_;show AI _ _ _ _ _ _ #[true, true, true, true, true, true, true, true, true, true, false, false] _;refine zk 10 rfl (ag (n := 1) (by kernel_rfl) rfl) ?_;show AI _ _ _ _ _ _ #[true, true, true, true, true, true, true, true, true, true, true, false] _;refine bc (i := 11) (by kernel_rfl) rfl rfl <| dy (aA (i := 0) (c := .sk _ _) (by kernel_rfl) rfl rfl rfl rfl (ai rfl)) ?_
     show AI _ _ _ _ _ _ #[true, true, true, true, true, true, true, true, true, true, true, true] _;refine bm rfl ?_;exact Exists.intro (t71, x69) ⟨H, aQ [0, 0, 0, 0, 0] (.cons (.refl _) (.cons (.refl _) (.cons (.refl _) (.nil _)))) rfl⟩
    ·refine aE rfl (ak (i := 1) ac rfl rfl rfl rfl) ?_;show AI _ _ _ _ _ _ #[true, true, true, true, false, true, true, false, false, false, false, false] _;refine cL (i := 4) (j := 7) (by kernel_rfl) rfl rfl rfl rfl ?_ ?_
     ·refine aE rfl (ak (i := 0) ao rfl rfl rfl rfl) ?_;show AI _ _ _ _ _ _ #[true, true, true, true, true, true, true, false, false, false, false, false] _;refine bc (i := 7) (by kernel_rfl) rfl rfl <| aE rfl (cP (E := Enc.str) (bytes := 16) (xs := [.tmp 60]) (l := ([x19.1] : List (List UInt8))) ao (by kernel_rfl) rfl rfl (by decide) rfl rfl) ?_;show AI _ _ _ _ _ _ #[true, true, true, true, true, true, true, true, false, false, false, false] _;refine bc (i := 8) (by kernel_rfl) rfl rfl <| dh rfl (lu (E := Enc.str) (bytes := 16) 2 ao ao rfl (by kernel_rfl) rfl rfl rfl rfl rfl rfl rfl g68 e70) ?_;rintro _ _ ⟨t72, rfl, rfl⟩;show AI _ _ _ _ _ _ #[true, true, true, true, true, true, true, true, true, false, false, false] _;refine zk 9 rfl (al rfl) ?_;show AI _ _ _ _ _ _ #[true, true, true, true, true, true, true, true, true, true, false, false] _;refine zk 10 rfl (ag (n := 1) (by kernel_rfl) rfl) ?_;show AI _ _ _ _ _ _ #[true, true, true, true, true, true, true, true, true, true, true, false] _;refine bc (i := 11) (by kernel_rfl) rfl rfl <| dy (aA (i := 0) (c := .sk _ _) (by kernel_rfl) rfl rfl rfl rfl (ai rfl)) ?_;show AI _ _ _ _ _ _ #[true, true, true, true, true, true, true, true, true, true, true, true] _;refine bm rfl ?_;exact Exists.intro (t72, x69) ⟨H, aQ [0, 0, 0, 0, 0] (.cons (.refl _) (.cons (.refl _) (.cons (.refl _) (.nil _)))) rfl⟩
     ·refine aE rfl (cP (E := Enc.str) (bytes := 16) (xs := [.tmp 60]) (l := ([x19.1] : List (List UInt8))) ao (by kernel_rfl) rfl rfl (by decide) rfl rfl) ?_;show AI _ _ _ _ _ _ #[true, true, true, true, false, true, true, true, false, false, false, false] _;refine bc (i := 4) (by kernel_rfl) rfl rfl <| aE rfl (ak (i := 0) ao rfl rfl rfl rfl) ?_;show AI _ _ _ _ _ _ #[true, true, true, true, true, true, true, true, false, false, false, false] _;refine bc (i := 8) (by kernel_rfl) rfl rfl <| dh rfl (lu (E := Enc.str) (bytes := 16) 2 ao ao rfl (by kernel_rfl) rfl rfl rfl rfl rfl rfl rfl g68 e70) ?_;rintro _ _ ⟨t73, rfl, rfl⟩;show AI _ _ _ _ _ _ #[true, true, true, true, true, true, true, true, true, false, false, false] _;refine zk 9 rfl (al rfl) ?_;show AI _ _ _ _ _ _ #[true, true, true, true, true, true, true, true, true, true, false, false] _;refine zk 10 rfl (ag (n := 1) (by kernel_rfl) rfl) ?_;show AI _ _ _ _ _ _ #[true, true, true, true, true, true, true, true, true, true, true, false] _;refine bc (i := 11) (by kernel_rfl) rfl rfl <| dy (aA (i := 0) (c := .sk _ _) (by kernel_rfl) rfl rfl rfl rfl (ai rfl)) ?_;show AI _ _ _ _ _ _ #[true, true, true, true, true, true, true, true, true, true, true, true] _;refine bm rfl ?_;exact Exists.intro (t73, x69) ⟨H, aQ [0, 0, 0, 0, 0] (.cons (.refl _) (.cons (.refl _) (.cons (.refl _) (.nil _)))) rfl⟩
   rintro ⟨t74, y75⟩ H;replace H : hC F a6 x19 y56 y57 y58 y66 y75 = some rv := H
   unfold hC at H
   refine af <| aa ?_;show AR _ _ _ _ _ [0, 1, 2, 3, 4, 5] _;refine zS rfl (ah (av := .pt _ _) rfl) <| zS rfl (al rfl) <| zS rfl (ag (n := 1) (by kernel_rfl) rfl) <| zR rfl (ak (i := 0) ao rfl rfl rfl rfl) <| zS rfl (gJ ao rfl) <| zS rfl (gg rfl rfl) <| aj <| ay rfl (fun c77 => ?_) (fun c77 => ?_)
   ·replace H := aZ c77 H;obtain rfl := ap H;refine aa ?_;show AR _ _ _ _ _ [0, 1, 2] _;refine zS rfl (eG (zs := [.int .i64 0]) (ps := [(0, 1)]) (cs := [i64 5]) (by kernel_rfl) rfl rfl) <| zS rfl (bH (a := .agg _) Tryz.underlying46 rfl rfl) <| aq rfl rfl (AO.panicT (c := du (.iface 46 (.agg #[.int .i64 5]))) rfl rfl ?_);exact And.intro rfl (Exists.intro [] ⟨br _, rfl, rfl⟩)
   ·replace H := ba c77 H;refine aC ?_;exact Exists.intro (t74, y75) ⟨H, aQ [0, 0, 0, 0, 0] (.cons (.refl _) (.cons (.refl _) (.cons (.refl _) (.nil _)))) rfl⟩
  rintro ⟨t78, y79⟩ H;replace H : hH F a6 x19 y56 y57 y58 y66 y79 = some rv := H
  unfold hH at H
  refine bt (X := (List (Int × (List UInt8) × (List UInt8) × List ((List UInt8) × List UInt8))) × Nat) (fun (y87, t88) => ⟨[(0, .pt o1 0), (3, .pt o22 0), (4, B y56)], [], [.obj o1 [S y57, .sk t78 y79.length, i64 y66, slE (ab Enc.int (ab Enc.str (ab Enc.str (Enc.sl (ab Enc.str Enc.str))))) y87 (some t88)], .obj o22 [i64 0, S x19.1, S ([] : List UInt8), slE (ab Enc.str Enc.str) y58 (some t59)], .stk t78 (Enc.str.fl y79), .tok t88 33, .tok t59 44]⟩) (fun (y87, t88) => hM F x19 y56 y57 y66 y79 y87 = some rv) ?_ ?_
  ·obtain ⟨g82, H⟩ := aP H;obtain ⟨x83, e84, H⟩ := bM H;refine bg (by kernel_rfl) ?_;show AI _ _ _ _ _ 11 (Array.replicate 11 false) _;refine zk 0 rfl (ah (av := .pt _ _) rfl) ?_;show AI _ _ _ _ _ _ #[true, false, false, false, false, false, false, false, false, false, false] _;refine zk 1 rfl (ah (av := .pt _ _) rfl) ?_;show AI _ _ _ _ _ _ #[true, true, false, false, false, false, false, false, false, false, false] _;refine zk 2 rfl (al rfl) ?_;show AI _ _ _ _ _ _ #[true, true, true, false, false, false, false, false, false, false, false] _;refine zk 3 rfl (ag (n := 3) (by kernel_rfl) rfl) ?_;show AI _ _ _ _ _ _ #[true, true, true, true, false, false, false, false, false, false, false] _;refine cL (i := 4) (j := 5) (by kernel_rfl) rfl rfl rfl rfl ?_ ?_
   ·refine aE rfl (ak (i := 0) ax rfl rfl rfl rfl) ?_;show AI _ _ _ _ _ _ #[true, true, true, true, true, false, false, false, false, false, false] _;refine bc (i := 5) (by kernel_rfl) rfl rfl <| aE rfl (eW (i := 1) (n := 4) dp rfl (by kernel_rfl) rfl rfl (ai rfl)) ?_;show AI _ _ _ _ _ _ #[true, true, true, true, true, true, false, false, false, false, false] _;refine bc (i := 6) (by kernel_rfl) rfl rfl <| aE rfl (dq (ds := [i64 0, S x19.1, S ([] : List UInt8), slE (ab Enc.str Enc.str) y58 none]) 78 (.cons (.refl _) (.cons (.refl _) (.cons (.refl _) (.cons (.tok _ _ _) (.nil))))) (hc := rfl) <| cC (E := (ab Enc.int (ab Enc.str (ab Enc.str (Enc.sl (ab Enc.str Enc.str)))))) (bytes := 64) (zs := [.int .i64 0, .string ⟨#[]⟩, .string ⟨#[]⟩, .slice none 0 0]) (l := ([(0, x19.1, ([] : List UInt8), y58)] : List (Int × (List UInt8) × (List UInt8) × List ((List UInt8) × List UInt8)))) ax (by kernel_rfl) (by kernel_rfl) rfl rfl rfl rfl rfl) ?_;show AI _ _ _ _ _ _ #[true, true, true, true, true, true, true, false, false, false, false] _;refine bc (i := 7) (by kernel_rfl) rfl rfl <| dh rfl (df (E := (ab Enc.int (ab Enc.str (ab Enc.str (Enc.sl (ab Enc.str Enc.str)))))) (bytes := 64) 3 ax ax rfl (by kernel_rfl) rfl rfl rfl rfl g82 e84) ?_;rintro _ _ ⟨t81, rfl, rfl⟩;show AI _ _ _ _ _ _ #[true, true, true, true, true, true, true, true, false, false, false] _
    refine zk 8 rfl (al rfl) ?_;show AI _ _ _ _ _ _ #[true, true, true, true, true, true, true, true, true, false, false] _;refine zk 9 rfl (ag (n := 3) (by kernel_rfl) rfl) ?_;show AI _ _ _ _ _ _ #[true, true, true, true, true, true, true, true, true, true, false] _;refine bc (i := 10) (by kernel_rfl) rfl rfl <| dy (aA (i := 0) (c := slE _ _ _) (by kernel_rfl) rfl rfl rfl rfl (ai rfl)) ?_;show AI _ _ _ _ _ _ #[true, true, true, true, true, true, true, true, true, true, true] _;refine bm rfl ?_;exact Exists.intro (x83, t81) ⟨H, aQ [0, 0, 0, 0, 0] (.cons (.refl _) (.cons (.refl _) (.cons (.refl _) (.nil _)))) rfl⟩
   ·refine aE rfl (eW (i := 1) (n := 4) dp rfl (by kernel_rfl) rfl rfl (ai rfl)) ?_;show AI _ _ _ _ _ _ #[true, true, true, true, false, true, false, false, false, false, false] _;refine cL (i := 4) (j := 6) (by kernel_rfl) rfl rfl rfl rfl ?_ ?_
    ·refine aE rfl (ak (i := 0) ax rfl rfl rfl rfl) ?_;show AI _ _ _ _ _ _ #[true, true, true, true, true, true, false, false, false, false, false] _;refine bc (i := 6) (by kernel_rfl) rfl rfl <| aE rfl (dq (ds := [i64 0, S x19.1, S ([] : List UInt8), slE (ab Enc.str Enc.str) y58 none]) 78 (.cons (.refl _) (.cons (.refl _) (.cons (.refl _) (.cons (.tok _ _ _) (.nil))))) (hc := rfl) <| cC (E := (ab Enc.int (ab Enc.str (ab Enc.str (Enc.sl (ab Enc.str Enc.str)))))) (bytes := 64) (zs := [.int .i64 0, .string ⟨#[]⟩, .string ⟨#[]⟩, .slice none 0 0]) (l := ([(0, x19.1, ([] : List UInt8), y58)] : List (Int × (List UInt8) × (List UInt8) × List ((List UInt8) × List UInt8)))) ax (by kernel_rfl) (by kernel_rfl) rfl rfl rfl rfl rfl) ?_;show AI _ _ _ _ _ _ #[true, true, true, true, true, true, true, false, false, false, false] _;refine bc (i := 7) (by kernel_rfl) rfl rfl <| dh rfl (df (E := (ab Enc.int (ab Enc.str (ab Enc.str (Enc.sl (ab Enc.str Enc.str)))))) (bytes := 64) 3 ax ax rfl (by kernel_rfl) rfl rfl rfl rfl g82 e84) ?_;rintro _ _ ⟨t85, rfl, rfl⟩;show AI _ _ _ _ _ _ #[true, true, true, true, true, true, true, true, false, false, false] _;refine zk 8 rfl (al rfl) ?_;show AI _ _ _ _ _ _ #[true, true, true, true, true, true, true, true, true, false, false] _;refine zk 9 rfl (ag (n := 3) (by kernel_rfl) rfl) ?_
     show AI _ _ _ _ _ _ #[true, true, true, true, true, true, true, true, true, true, false] _;refine bc (i := 10) (by kernel_rfl) rfl rfl <| dy (aA (i := 0) (c := slE _ _ _) (by kernel_rfl) rfl rfl rfl rfl (ai rfl)) ?_;show AI _ _ _ _ _ _ #[true, true, true, true, true, true, true, true, true, true, true] _;refine bm rfl ?_;exact Exists.intro (x83, t85) ⟨H, aQ [0, 0, 0, 0, 0] (.cons (.refl _) (.cons (.refl _) (.cons (.refl _) (.nil _)))) rfl⟩
    ·refine aE rfl (dq (ds := [i64 0, S x19.1, S ([] : List UInt8), slE (ab Enc.str Enc.str) y58 none]) 78 (.cons (.refl _) (.cons (.refl _) (.cons (.refl _) (.cons (.tok _ _ _) (.nil))))) (hc := rfl) <| cC (E := (ab Enc.int (ab Enc.str (ab Enc.str (Enc.sl (ab Enc.str Enc.str)))))) (bytes := 64) (zs := [.int .i64 0, .string ⟨#[]⟩, .string ⟨#[]⟩, .slice none 0 0]) (l := ([(0, x19.1, ([] : List UInt8), y58)] : List (Int × (List UInt8) × (List UInt8) × List ((List UInt8) × List UInt8)))) ax (by kernel_rfl) (by kernel_rfl) rfl rfl rfl rfl rfl) ?_;show AI _ _ _ _ _ _ #[true, true, true, true, false, true, true, false, false, false, false] _;refine bc (i := 4) (by kernel_rfl) rfl rfl <| aE rfl (ak (i := 0) ax rfl rfl rfl rfl) ?_;show AI _ _ _ _ _ _ #[true, true, true, true, true, true, true, false, false, false, false] _;refine bc (i := 7) (by kernel_rfl) rfl rfl <| dh rfl (df (E := (ab Enc.int (ab Enc.str (ab Enc.str (Enc.sl (ab Enc.str Enc.str)))))) (bytes := 64) 3 ax ax rfl (by kernel_rfl) rfl rfl rfl rfl g82 e84) ?_;rintro _ _ ⟨t86, rfl, rfl⟩;show AI _ _ _ _ _ _ #[true, true, true, true, true, true, true, true, false, false, false] _;refine zk 8 rfl (al rfl) ?_;show AI _ _ _ _ _ _ #[true, true, true, true, true, true, true, true, true, false, false] _;refine zk 9 rfl (ag (n := 3) (by kernel_rfl) rfl) ?_
     show AI _ _ _ _ _ _ #[true, true, true, true, true, true, true, true, true, true, false] _;refine bc (i := 10) (by kernel_rfl) rfl rfl <| dy (aA (i := 0) (c := slE _ _ _) (by kernel_rfl) rfl rfl rfl rfl (ai rfl)) ?_;show AI _ _ _ _ _ _ #[true, true, true, true, true, true, true, true, true, true, true] _;refine bm rfl ?_;exact Exists.intro (x83, t86) ⟨H, aQ [0, 0, 0, 0, 0] (.cons (.refl _) (.cons (.refl _) (.cons (.refl _) (.nil _)))) rfl⟩
  rintro ⟨y87, t88⟩ H;replace H : hM F x19 y56 y57 y66 y79 y87 = some rv := H
  unfold hM at H
  refine bt (X := Nat × (List (List UInt8)) × (List (Int × (List UInt8) × (List UInt8) × List ((List UInt8) × List UInt8))) × Nat) (fun (t96, y97, y98, t99) => ⟨[], [], [.obj o1 [S y57, .sk t96 y97.length, i64 y66, slE (ab Enc.int (ab Enc.str (ab Enc.str (Enc.sl (ab Enc.str Enc.str))))) y98 (some t99)], .stk t96 (Enc.str.fl y97), .tok t99 33]⟩) (fun (t96, y97, y98, t99) => fW y57 y66 y97 y98 = some rv) ?_ ?_
  ·refine af <| aa ?_;show AR _ _ _ _ _ [0] _;refine zm rfl <| aj <| ay rfl (fun c90 => ?_) (fun c90 => ?_)
   ·replace H := aZ c90 H
    rcases Or.symm (de H) with ⟨p93, e92, H⟩ | ⟨x91, e92, H⟩
    ·subst H;refine aa ?_;show AR _ _ _ _ _ [0, 1, 2, 3] _;refine zS rfl (ah (av := .pt _ _) rfl) <| zS rfl (ag (n := 1) (by kernel_rfl) rfl) <| zR rfl (ak (i := 1) ac rfl rfl rfl rfl) <| aq rfl rfl (bK (c := du (.iface 46 (.agg #[.int .i64 p93]))) [0, 1, 1] rfl mr rfl (mK F o1 y57 y79 t78 y66 y87 t88 x19.1 p93 e92) rfl ?_);exact And.intro rfl (Exists.intro [] ⟨br _, rfl, rfl⟩)
    refine aa ?_;show AR _ _ _ _ _ [0, 1, 2, 3] _;refine zS rfl (ah (av := .pt _ _) rfl) <| zS rfl (ag (n := 1) (by kernel_rfl) rfl) <| zR rfl (ak (i := 1) ac rfl rfl rfl rfl) <| aq rfl rfl (aN [0, 1, 1] rfl mr rfl (nn F o1 y57 y79 t78 y66 y87 t88 x19.1 x91.1 x91.2 e92) rfl (fun c A' h => by cases h.1) ?_)
    rintro av A' ⟨h, t94, t95, rfl⟩; cases h
    refine aj ?_;exact Exists.intro (t94, x91.2, x91.1, t95) ⟨H, aQ [0, 0, 0] (.nil _) rfl⟩
   ·replace H := ba c90 H;refine aC ?_;exact Exists.intro (t78, y79, y87, t88) ⟨H, aQ [0, 1, 1] (.nil _) rfl⟩
  rintro ⟨t96, y97, y98, t99⟩ H;replace H : fW y57 y66 y97 y98 = some rv := H
  unfold fW at H
  refine af <| aa ?_;show AR _ _ _ _ _ [0] _;refine za rfl <| aj <| aK ?_;obtain rfl := ap H;exact And.intro rfl (Exists.intro _ (Exists.intro _ ⟨aJ rfl (.refl _), aH [0, 0, 0] rfl, rfl, t96, t99, rfl⟩))
theorem pi (F : Nat) (o1 : Nat) (a2 : List UInt8) (a3 : List (List UInt8)) (t4 : Nat) (a5 : Int) (a6 : List (Int × (List UInt8) × (List UInt8) × List ((List UInt8) × List UInt8))) (t7 : Nat) (r8 : Bool) (r9 : List UInt8) (r12 : Int) (r13 : List (Int × (List UInt8) × (List UInt8) × List ((List UInt8) × List UInt8))) (r10 : List (List UInt8)) (H : iw F a2 a3 a5 a6 = some (Res.ok (r8, r9, r12, r13, r10))) : ACalls Tryz.prog 43 [.pt o1 0] [.obj o1 [S a2, .sk t4 a3.length, i64 a5, slE (ab Enc.int (ab Enc.str (ab Enc.str (Enc.sl (ab Enc.str Enc.str))))) a6 (some t7)], .stk t4 (Enc.str.fl a3), .tok t7 33] (fun e A' => e = .ret (B r8) ∧ ∃ t11 t14, A' = [.obj o1 [S r9, .sk t11 r10.length, i64 r12, slE (ab Enc.int (ab Enc.str (ab Enc.str (Enc.sl (ab Enc.str Enc.str))))) r13 (some t14)], .stk t11 (Enc.str.fl r10), .tok t14 33]) := np F o1 a2 a3 t4 a5 a6 t7 _ H
theorem nS (F : Nat) (o1 : Nat) (a2 : List UInt8) (a3 : List (List UInt8)) (t4 : Nat) (a5 : Int) (a6 : List (Int × (List UInt8) × (List UInt8) × List ((List UInt8) × List UInt8))) (t7 : Nat) (e : Int) (H : iw F a2 a3 a5 a6 = some (Res.pan e)) : ACalls Tryz.prog 43 [.pt o1 0] [.obj o1 [S a2, .sk t4 a3.length, i64 a5, slE (ab Enc.int (ab Enc.str (ab Enc.str (Enc.sl (ab Enc.str Enc.str))))) a6 (some t7)], .stk t4 (Enc.str.fl a3), .tok t7 33] (fun ae A' => ae = .pan ((fun e => du (.iface 46 (.agg #[.int .i64 e]))) e) ∧ A' = []) := np F o1 a2 a3 t4 a5 a6 t7 _ H
abbrev _root_.Go.Av.dL := @Tryz.underlying70
abbrev _root_.Go.Av.cN := @Tryz.underlying71
set_option maxRecDepth 100000 in
set_option maxHeartbeats 1000000 in
theorem rh (F : Nat) (o1 : Nat) (a2 : List UInt8) (a3 : List (List UInt8)) (t4 : Nat) (a5 : Int) (a6 : List (Int × (List UInt8) × (List UInt8) × List ((List UInt8) × List UInt8))) (t7 : Nat) (rv : Res ((List UInt8) × Int × (List (Int × (List UInt8) × (List UInt8) × List ((List UInt8) × List UInt8))) × (List (List UInt8)))) (H : lF F a2 a3 a5 a6 = some rv) : ACalls Tryz.prog 22 [.pt o1 0] [.obj o1 [S a2, .sk t4 a3.length, i64 a5, slE (ab Enc.int (ab Enc.str (ab Enc.str (Enc.sl (ab Enc.str Enc.str))))) a6 (some t7)], .stk t4 (Enc.str.fl a3), .tok t7 33] (kZ (fun (r : (List UInt8) × Int × (List (Int × (List UInt8) × (List UInt8) × List ((List UInt8) × List UInt8))) × (List (List UInt8))) => (fun e A' => e = .ret (.tup []) ∧ ∃ t10 t13, A' = [.obj o1 [S r.1, .sk t10 r.2.2.2.length, i64 r.2.1, slE (ab Enc.int (ab Enc.str (ab Enc.str (Enc.sl (ab Enc.str Enc.str))))) r.2.2.1 (some t13)], .stk t10 (Enc.str.fl r.2.2.2), .tok t13 33])) (fun e => du (.iface 46 (.agg #[.int .i64 e]))) rv) := by
 unfold lF at H
 refine aw Tryz.func22 rfl rfl ?_;show AW _ _ 14 _ _ _;refine af <| aa ?_;show AR _ _ _ _ _ [0, 1, 2] _;refine zR rfl (cP (E := kR) (bytes := 8) (xs := [.func 37, .func 38, .func 39, .func 40, .func 41, .func 42, .func 43]) (l := ([37, 38, 39, 40, 41, 42, 43] : List Nat)) cN (by kernel_rfl) rfl rfl (by decide) rfl rfl) <| zS rfl (bU (av' := i64 7) (bn cN rfl) rfl) <| zm rfl <| aj <| aX <| wV 9 <| af <| aa ?_;show AR _ _ _ _ _ [0] _;refine zS rfl (bU (av' := B true) (bQ rfl rfl) (au (by decide))) <| aj <| af <| ay rfl (fun _ => ?_) (fun hx => dm rfl hx);refine aC <| af <| aX <| af <| aa ?_;show AR _ _ _ _ _ [0, 1, 2] _;refine zS rfl (dE (E := kR) (m := 0) cN (by kernel_rfl) rfl rfl rfl rfl) <| zS rfl (bh dL rfl rfl) <| za rfl <| aj <| af ?_
 rcases Or.symm (de H) with ⟨p16, e15, H⟩ | ⟨x14, e15, H⟩
 ·subst H;refine aa ?_;show AR _ _ _ _ _ [0, 1, 2] _;refine zm rfl <| zS rfl (ah (av := .pt _ _) rfl) <| aq rfl rfl (AO.callFPan (c := du (.iface 46 (.agg #[.int .i64 p16]))) [0, 0, 0] rfl (.inr ⟨rfl, rfl, rfl⟩) rZ rfl (pJ F o1 a2 a3 t4 a5 a6 t7 p16 e15) rfl ?_);exact And.intro rfl (Exists.intro [] ⟨br _, rfl, rfl⟩)
 refine aa ?_;show AR _ _ _ _ _ [0, 1, 2] _;refine zm rfl <| zS rfl (ah (av := .pt _ _) rfl) <| aq rfl rfl (AO.callFAt [0, 0, 0] rfl (.inr ⟨rfl, rfl, rfl⟩) rZ rfl (qK F o1 a2 a3 t4 a5 a6 t7 x14.1 x14.2.1 x14.2.2 e15) rfl (fun c A' h => by cases h.1) ?_)
 rintro av A' ⟨h, t17, rfl⟩; cases h
 refine aj <| ay rfl (fun c18 => ?_) (fun c18 => ?_)
 ·replace H := aZ c18 H;refine aK ?_;obtain rfl := ap H;exact And.intro rfl (Exists.intro _ (Exists.intro _ ⟨bk rfl, aH [0, 0, 0] rfl, rfl, t4, t17, rfl⟩))
 ·replace H := ba c18 H;refine aC <| aa ?_;show AR _ _ _ _ _ [0, 1] _;refine zS rfl (bU (av' := i64 1) (bD rfl rfl (by decide)) rfl) <| zm rfl <| aj <| af <| aa ?_;show AR _ _ _ _ _ [0] _;refine zS rfl (bU (av' := B true) (bQ rfl rfl) (au (by decide))) <| aj <| af <| ay rfl (fun _ => ?_) (fun hx => dm rfl hx);refine aC <| af <| aX <| af <| aa ?_;show AR _ _ _ _ _ [0, 1, 2] _;refine zS rfl (dE (E := kR) (m := 1) cN (by kernel_rfl) rfl rfl rfl rfl) <| zS rfl (bh dL rfl rfl) <| za rfl <| aj <| af ?_
  rcases Or.symm (de H) with ⟨p21, e20, H⟩ | ⟨x19, e20, H⟩
  ·subst H;refine aa ?_;show AR _ _ _ _ _ [0, 1, 2] _;refine zm rfl <| zS rfl (ah (av := .pt _ _) rfl) <| aq rfl rfl (AO.callFPan (c := du (.iface 46 (.agg #[.int .i64 p21]))) [0, 0, 0] rfl (.inr ⟨rfl, rfl, rfl⟩) rY rfl (nT F o1 x14.2.1 a3 t4 a5 x14.2.2 t17 p21 e20) rfl ?_);exact And.intro rfl (Exists.intro [] ⟨br _, rfl, rfl⟩)
  refine aa ?_;show AR _ _ _ _ _ [0, 1, 2] _;refine zm rfl <| zS rfl (ah (av := .pt _ _) rfl) <| aq rfl rfl (AO.callFAt [0, 0, 0] rfl (.inr ⟨rfl, rfl, rfl⟩) rY rfl (pj F o1 x14.2.1 a3 t4 a5 x14.2.2 t17 x19.1 x19.2 e20) rfl (fun c A' h => by cases h.1) ?_)
  rintro av A' ⟨h, rfl⟩; cases h
  refine aj <| ay rfl (fun c22 => ?_) (fun c22 => ?_)
  ·replace H := aZ c22 H;refine aK ?_;obtain rfl := ap H;exact And.intro rfl (Exists.intro _ (Exists.intro _ ⟨bk rfl, aH [0, 0, 0] rfl, rfl, t4, t17, rfl⟩))
  ·replace H := ba c22 H;refine aC <| aa ?_;show AR _ _ _ _ _ [0, 1] _;refine zS rfl (bU (av' := i64 2) (bD rfl rfl (by decide)) rfl) <| zm rfl <| aj <| af <| aa ?_;show AR _ _ _ _ _ [0] _;refine zS rfl (bU (av' := B true) (bQ rfl rfl) (au (by decide))) <| aj <| af <| ay rfl (fun _ => ?_) (fun hx => dm rfl hx);refine aC <| af <| aX <| af <| aa ?_;show AR _ _ _ _ _ [0, 1, 2] _;refine zS rfl (dE (E := kR) (m := 2) cN (by kernel_rfl) rfl rfl rfl rfl) <| zS rfl (bh dL rfl rfl) <| za rfl <| aj <| af ?_
   rcases Or.symm (de H) with ⟨p25, e24, H⟩ | ⟨x23, e24, H⟩
   ·subst H;refine aa ?_;show AR _ _ _ _ _ [0, 1, 2] _;refine zm rfl <| zS rfl (ah (av := .pt _ _) rfl) <| aq rfl rfl (AO.callFPan (c := du (.iface 46 (.agg #[.int .i64 p25]))) [0, 0, 0] rfl (.inr ⟨rfl, rfl, rfl⟩) rX rfl (so F o1 x19.2 a3 t4 a5 x14.2.2 t17 p25 e24) rfl ?_);exact And.intro rfl (Exists.intro [] ⟨br _, rfl, rfl⟩)
   refine aa ?_;show AR _ _ _ _ _ [0, 1, 2] _;refine zm rfl <| zS rfl (ah (av := .pt _ _) rfl) <| aq rfl rfl (AO.callFAt [0, 0, 0] rfl (.inr ⟨rfl, rfl, rfl⟩) rX rfl (tm F o1 x19.2 a3 t4 a5 x14.2.2 t17 x23.1 x23.2 e24) rfl (fun c A' h => by cases h.1) ?_)
   rintro av A' ⟨h, rfl⟩; cases h
   refine aj <| ay rfl (fun c26 => ?_) (fun c26 => ?_)
   ·replace H := aZ c26 H;refine aK ?_;obtain rfl := ap H;exact And.intro rfl (Exists.intro _ (Exists.intro _ ⟨bk rfl, aH [0, 0, 0] rfl, rfl, t4, t17, rfl⟩))
   ·replace H := ba c26 H;refine aC <| aa ?_;show AR _ _ _ _ _ [0, 1] _;refine zS rfl (bU (av' := i64 3) (bD rfl rfl (by decide)) rfl) <| zm rfl <| aj <| af <| aa ?_;show AR _ _ _ _ _ [0] _;refine zS rfl (bU (av' := B true) (bQ rfl rfl) (au (by decide))) <| aj <| af <| ay rfl (fun _ => ?_) (fun hx => dm rfl hx);refine aC <| af <| aX <| af <| aa ?_;show AR _ _ _ _ _ [0, 1, 2] _;refine zS rfl (dE (E := kR) (m := 3) cN (by kernel_rfl) rfl rfl rfl rfl) <| zS rfl (bh dL rfl rfl) <| za rfl <| aj <| af ?_
    rcases Or.symm (de H) with ⟨p29, e28, H⟩ | ⟨x27, e28, H⟩
    ·subst H;refine aa ?_;show AR _ _ _ _ _ [0, 1, 2] _;refine zm rfl <| zS rfl (ah (av := .pt _ _) rfl) <| aq rfl rfl (AO.callFPan (c := du (.iface 46 (.agg #[.int .i64 p29]))) [0, 0, 0] rfl (.inr ⟨rfl, rfl, rfl⟩) rV rfl (qL F o1 x23.2 a3 t4 a5 x14.2.2 t17 p29 e28) rfl ?_);exact And.intro rfl (Exists.intro [] ⟨br _, rfl, rfl⟩)
    refine aa ?_;show AR _ _ _ _ _ [0, 1, 2] _;refine zm rfl <| zS rfl (ah (av := .pt _ _) rfl) <| aq rfl rfl (AO.callFAt [0, 0, 0] rfl (.inr ⟨rfl, rfl, rfl⟩) rV rfl (sm F o1 x23.2 a3 t4 a5 x14.2.2 t17 x27.1 x27.2.1 x27.2.2 e28) rfl (fun c A' h => by cases h.1) ?_)
    rintro av A' ⟨h, t30, rfl⟩; cases h
    refine aj <| ay rfl (fun c31 => ?_) (fun c31 => ?_)
    ·replace H := aZ c31 H;refine aK ?_;obtain rfl := ap H;exact And.intro rfl (Exists.intro _ (Exists.intro _ ⟨bk rfl, aH [0, 0, 0] rfl, rfl, t4, t30, rfl⟩))
    ·replace H := ba c31 H;refine aC <| aa ?_;show AR _ _ _ _ _ [0, 1] _;refine zS rfl (bU (av' := i64 4) (bD rfl rfl (by decide)) rfl) <| zm rfl <| aj <| af <| aa ?_;show AR _ _ _ _ _ [0] _;refine zS rfl (bU (av' := B true) (bQ rfl rfl) (au (by decide))) <| aj <| af <| ay rfl (fun _ => ?_) (fun hx => dm rfl hx);refine aC <| af <| aX <| af <| aa ?_;show AR _ _ _ _ _ [0, 1, 2] _;refine zS rfl (dE (E := kR) (m := 4) cN (by kernel_rfl) rfl rfl rfl rfl) <| zS rfl (bh dL rfl rfl) <| za rfl <| aj <| af ?_
     rcases Or.symm (de H) with ⟨p34, e33, H⟩ | ⟨x32, e33, H⟩
     ·subst H;refine aa ?_;show AR _ _ _ _ _ [0, 1, 2] _;refine zm rfl <| zS rfl (ah (av := .pt _ _) rfl) <| aq rfl rfl (AO.callFPan (c := du (.iface 46 (.agg #[.int .i64 p34]))) [0, 0, 0] rfl (.inr ⟨rfl, rfl, rfl⟩) rU rfl (sj F o1 x27.2.1 a3 t4 a5 x27.2.2 t30 p34 e33) rfl ?_);exact And.intro rfl (Exists.intro [] ⟨br _, rfl, rfl⟩)
     refine aa ?_;show AR _ _ _ _ _ [0, 1, 2] _;refine zm rfl <| zS rfl (ah (av := .pt _ _) rfl) <| aq rfl rfl (AO.callFAt [0, 0, 0] rfl (.inr ⟨rfl, rfl, rfl⟩) rU rfl (tk F o1 x27.2.1 a3 t4 a5 x27.2.2 t30 x32.1 x32.2 e33) rfl (fun c A' h => by cases h.1) ?_)
     rintro av A' ⟨h, rfl⟩; cases h
     refine aj <| ay rfl (fun c35 => ?_) (fun c35 => ?_)
     ·replace H := aZ c35 H;refine aK ?_;obtain rfl := ap H;exact And.intro rfl (Exists.intro _ (Exists.intro _ ⟨bk rfl, aH [0, 0, 0] rfl, rfl, t4, t30, rfl⟩))
     ·replace H := ba c35 H;refine aC <| aa ?_;show AR _ _ _ _ _ [0, 1] _;refine zS rfl (bU (av' := i64 5) (bD rfl rfl (by decide)) rfl) <| zm rfl <| aj <| af <| aa ?_;show AR _ _ _ _ _ [0] _;refine zS rfl (bU (av' := B true) (bQ rfl rfl) (au (by decide))) <| aj <| af <| ay rfl (fun _ => ?_) (fun hx => dm rfl hx);refine aC <| af <| aX <| af <| aa ?_;show AR _ _ _ _ _ [0, 1, 2] _;refine zS rfl (dE (E := kR) (m := 5) cN (by kernel_rfl) rfl rfl rfl rfl) <| zS rfl (bh dL rfl rfl) <| za rfl <| aj <| af ?_
      rcases Or.symm (de H) with ⟨p38, e37, H⟩ | ⟨x36, e37, H⟩
      ·subst H;refine aa ?_;show AR _ _ _ _ _ [0, 1, 2] _;refine zm rfl <| zS rfl (ah (av := .pt _ _) rfl) <| aq rfl rfl (AO.callFPan (c := du (.iface 46 (.agg #[.int .i64 p38]))) [0, 0, 0] rfl (.inr ⟨rfl, rfl, rfl⟩) rT rfl (ph F o1 x32.2 a3 t4 a5 x27.2.2 t30 p38 e37) rfl ?_);exact And.intro rfl (Exists.intro [] ⟨br _, rfl, rfl⟩)
      refine aa ?_;show AR _ _ _ _ _ [0, 1, 2] _;refine zm rfl <| zS rfl (ah (av := .pt _ _) rfl) <| aq rfl rfl (AO.callFAt [0, 0, 0] rfl (.inr ⟨rfl, rfl, rfl⟩) rT rfl (pK F o1 x32.2 a3 t4 a5 x27.2.2 t30 x36.1 x36.2.1 x36.2.2.1 x36.2.2.2 e37) rfl (fun c A' h => by cases h.1) ?_)
      rintro av A' ⟨h, t39, t40, rfl⟩; cases h
      refine aj <| ay rfl (fun c41 => ?_) (fun c41 => ?_)
      ·replace H := aZ c41 H;refine aK ?_;obtain rfl := ap H;exact And.intro rfl (Exists.intro _ (Exists.intro _ ⟨bk rfl, aH [0, 0, 0] rfl, rfl, t39, t40, rfl⟩))
      ·replace H := ba c41 H;refine aC <| aa ?_;show AR _ _ _ _ _ [0, 1] _;refine zS rfl (bU (av' := i64 6) (bD rfl rfl (by decide)) rfl) <| zm rfl <| aj <| af <| aa ?_;show AR _ _ _ _ _ [0] _;refine zS rfl (bU (av' := B true) (bQ rfl rfl) (au (by decide))) <| aj <| af <| ay rfl (fun _ => ?_) (fun hx => dm rfl hx);refine aC <| af <| aX <| af <| aa ?_;show AR _ _ _ _ _ [0, 1, 2] _;refine zS rfl (dE (E := kR) (m := 6) cN (by kernel_rfl) rfl rfl rfl rfl) <| zS rfl (bh dL rfl rfl) <| za rfl <| aj <| af ?_
       rcases Or.symm (de H) with ⟨p44, e43, H⟩ | ⟨x42, e43, H⟩
       ·subst H;refine aa ?_;show AR _ _ _ _ _ [0, 1, 2] _;refine zm rfl <| zS rfl (ah (av := .pt _ _) rfl) <| aq rfl rfl (AO.callFPan (c := du (.iface 46 (.agg #[.int .i64 p44]))) [0, 0, 0] rfl (.inr ⟨rfl, rfl, rfl⟩) rS rfl (nS F o1 x36.2.1 x36.2.2.2 t39 a5 x36.2.2.1 t40 p44 e43) rfl ?_);exact And.intro rfl (Exists.intro [] ⟨br _, rfl, rfl⟩)
       refine aa ?_;show AR _ _ _ _ _ [0, 1, 2] _;refine zm rfl <| zS rfl (ah (av := .pt _ _) rfl) <| aq rfl rfl (AO.callFAt [0, 0, 0] rfl (.inr ⟨rfl, rfl, rfl⟩) rS rfl (pi F o1 x36.2.1 x36.2.2.2 t39 a5 x36.2.2.1 t40 x42.1 x42.2.1 x42.2.2.1 x42.2.2.2.1 x42.2.2.2.2 e43) rfl (fun c A' h => by cases h.1) ?_)
       rintro av A' ⟨h, t45, t46, rfl⟩; cases h
       refine aj <| ay rfl (fun c47 => ?_) (fun c47 => ?_)
       ·replace H := aZ c47 H;refine aK ?_;obtain rfl := ap H;exact And.intro rfl (Exists.intro _ (Exists.intro _ ⟨bk rfl, aH [0, 0, 0] rfl, rfl, t45, t46, rfl⟩))
       ·replace H := ba c47 H;refine aC <| aa ?_;show AR _ _ _ _ _ [0, 1] _;refine zS rfl (bU (av' := i64 7) (bD rfl rfl (by decide)) rfl) <| zm rfl <| aj <| af <| aa ?_;show AR _ _ _ _ _ [0] _;refine zS rfl (bU (av' := B false) (bQ rfl rfl) (au (by decide))) <| aj <| af <| ay rfl (fun hx => dm hx rfl) (fun _ => ?_);refine bW ?_;obtain rfl := ap H;exact And.intro rfl (Exists.intro _ (Exists.intro _ ⟨bk rfl, aH [0, 0, 0] rfl, rfl, t45, t46, rfl⟩))
theorem si (F : Nat) (o1 : Nat) (a2 : List UInt8) (a3 : List (List UInt8)) (t4 : Nat) (a5 : Int) (a6 : List (Int × (List UInt8) × (List UInt8) × List ((List UInt8) × List UInt8))) (t7 : Nat) (r8 : List UInt8) (r11 : Int) (r12 : List (Int × (List UInt8) × (List UInt8) × List ((List UInt8) × List UInt8))) (r9 : List (List UInt8)) (H : lF F a2 a3 a5 a6 = some (Res.ok (r8, r11, r12, r9))) : ACalls Tryz.prog 22 [.pt o1 0] [.obj o1 [S a2, .sk t4 a3.length, i64 a5, slE (ab Enc.int (ab Enc.str (ab Enc.str (Enc.sl (ab Enc.str Enc.str))))) a6 (some t7)], .stk t4 (Enc.str.fl a3), .tok t7 33] (fun e A' => e = .ret (.tup []) ∧ ∃ t10 t13, A' = [.obj o1 [S r8, .sk t10 r9.length, i64 r11, slE (ab Enc.int (ab Enc.str (ab Enc.str (Enc.sl (ab Enc.str Enc.str))))) r12 (some t13)], .stk t10 (Enc.str.fl r9), .tok t13 33]) := rh F o1 a2 a3 t4 a5 a6 t7 _ H
theorem qJ (F : Nat) (o1 : Nat) (a2 : List UInt8) (a3 : List (List UInt8)) (t4 : Nat) (a5 : Int) (a6 : List (Int × (List UInt8) × (List UInt8) × List ((List UInt8) × List UInt8))) (t7 : Nat) (e : Int) (H : lF F a2 a3 a5 a6 = some (Res.pan e)) : ACalls Tryz.prog 22 [.pt o1 0] [.obj o1 [S a2, .sk t4 a3.length, i64 a5, slE (ab Enc.int (ab Enc.str (ab Enc.str (Enc.sl (ab Enc.str Enc.str))))) a6 (some t7)], .stk t4 (Enc.str.fl a3), .tok t7 33] (fun ae A' => ae = .pan ((fun e => du (.iface 46 (.agg #[.int .i64 e]))) e) ∧ A' = []) := rh F o1 a2 a3 t4 a5 a6 t7 _ H
abbrev _root_.Go.Av.bE := @Tryz.underlying25
set_option maxRecDepth 100000 in
set_option maxHeartbeats 1000000 in
theorem oH (F : Nat) (a1 : List UInt8) (q2 : Option Nat) (r3 : List (Int × (List UInt8) × (List UInt8) × List ((List UInt8) × List UInt8))) (r4 : Int) (H : kc F a1 = some (r3, r4)) : ACalls Tryz.prog 10 [slE Enc.byte a1 q2] [] (Ret (.tup [slE (ab Enc.int (ab Enc.str (ab Enc.str (Enc.sl (ab Enc.str Enc.str))))) r3 none, i64 r4]) []) := by
 unfold kc at H
 refine pv [2, 3] Tryz.func10 rfl rfl ?_;show AW _ _ 38 _ _ _;refine af <| aa ?_;show AR _ _ _ _ _ [0, 1] _;refine zX rfl (dR (zs := [.slice none 0 0]) (by kernel_rfl)) ?_;rintro _ _ ⟨o5, rfl, rfl⟩;refine zX rfl (dR (zs := [.int .i64 0]) (by kernel_rfl)) ?_;rintro _ _ ⟨o6, rfl, rfl⟩;refine aj <| af <| af <| aa ?_;show AR _ _ _ _ _ [0, 1, 2] _;refine zS rfl (ah (av := slE _ _ _) rfl) <| zS rfl (bn an rfl) <| zS rfl (gg rfl rfl) <| aj <| ay rfl (fun c7 => ?_) (fun c7 => ?_)
 ·replace H := aZ c7 H;refine af <| aa ?_;show AR _ _ _ _ _ [0, 1] _;refine s0 rfl rfl (aA (i := 1) (c := .v _) (by kernel_rfl) rfl rfl rfl rfl (ai rfl)) <| s0 rfl rfl (aA (i := 0) (c := .v _) (by kernel_rfl) rfl rfl rfl rfl (ai rfl)) <| aj <| aK ?_;obtain ⟨rfl, rfl⟩ := dX H;exact Exists.intro _ (Exists.intro _ ⟨kD rfl ((CellV.one (c := .v _) 1 ax rfl rfl rfl rfl).oneW (.nil _)) (CellV.one (c := .v _) 0 bE rfl rfl rfl rfl), aH [] rfl, rfl, rfl⟩)
 ·replace H := ba c7 H;refine aC <| af <| aa ?_;show AR _ _ _ _ _ [0, 1] _;refine zS rfl (lq rfl rfl) <| aq rfl rfl (AO.defer rfl ?_);show AR _ _ _ _ _ _ ⟨_, [.call (.func 21) [.pt o5 0, .pt o6 0] []], _⟩;refine aj <| af <| aa ?_;show AR _ _ _ _ _ [0, 1, 2, 3, 4] _;refine zS rfl (ah (av := slE _ _ _) rfl) <| zS rfl (da an bp ac rfl) <| zS rfl (eG (zs := [.string ⟨#[]⟩, .slice none 0 0, .int .i64 0, .slice none 0 0]) (ps := [(0, 1), (1, 1), (2, 1), (3, 1)]) (cs := [S a1, gj, i64 0, gj]) (by kernel_rfl) rfl rfl) <| zX rfl (vq rfl (.inr ⟨_, rfl⟩)) ?_;rintro _ _ ⟨o8, rfl, rfl⟩;refine zS rfl (aY (av := .pt _ _) rfl) <| aj ?_
  refine AW.nil_stkAt 0 1 rfl rfl fun t9 => ?_
  show AW _ _ _ _ _ ⟨_, _, [.stk t9 (Enc.str.fl ([] : List (List UInt8))), .obj o8 [S a1, .sk t9 (([] : List (List UInt8)).length), i64 0, gj], .obj o6 [i64 0], .obj o5 [gj]]⟩
  refine gP 1 3 4 33 rfl rfl fun t10 => ?_
  show AW _ _ _ _ _ ⟨_, _, [.tok t10 33, .stk t9 (Enc.str.fl ([] : List (List UInt8))), .obj o8 [S a1, .sk t9 (([] : List (List UInt8)).length), i64 0, slE (ab Enc.int (ab Enc.str (ab Enc.str (Enc.sl (ab Enc.str Enc.str))))) [] (some t10)], .obj o6 [i64 0], .obj o5 [gj]]⟩;refine bt (X := (List UInt8) × Nat × (List (List UInt8)) × Int × (List (Int × (List UInt8) × (List UInt8) × List ((List UInt8) × List UInt8))) × Nat) (fun (y26, t27, y28, y29, y30, t31) => ⟨[(2, .pt o5 0), (3, .pt o6 0), (4, .pt o8 0)], [.call (.func 21) [.pt o5 0, .pt o6 0] []], [.obj o8 [S y26, .sk t27 y28.length, i64 y29, slE (ab Enc.int (ab Enc.str (ab Enc.str (Enc.sl (ab Enc.str Enc.str))))) y30 (some t31)], .obj o6 [i64 0], .obj o5 [gj], .stk t27 (Enc.str.fl y28), .tok t31 33]⟩) (fun (y26, t27, y28, y29, y30, t31) => ja F y26 y28 y29 y30 = some (r3, r4)) ?_ ?_
  ·refine aX <| cA (X := Nat × (List UInt8) × Nat × (List (List UInt8)) × Int × (List (Int × (List UInt8) × (List UInt8) × List ((List UInt8) × List UInt8))) × Nat) (fun (n18, y11, t12, y13, y14, y15, t16) => ⟨[(2, .pt o5 0), (3, .pt o6 0), (4, .pt o8 0)], [.call (.func 21) [.pt o5 0, .pt o6 0] []], [.obj o8 [S y11, .sk t12 y13.length, i64 y14, slE (ab Enc.int (ab Enc.str (ab Enc.str (Enc.sl (ab Enc.str Enc.str))))) y15 (some t16)], .obj o6 [i64 0], .obj o5 [gj], .stk t12 (Enc.str.fl y13), .tok t16 33]⟩) (fun (n18, y11, t12, y13, y14, y15, t16) => jb F n18 (y11, y13, y14, y15) = some (r3, r4)) (fun (n18, y11, t12, y13, y14, y15, t16) => n18) (F, a1, t9, ([] : List (List UInt8)), 0, [], t10) H (aQ [2, 2, 2, 1, 0] (.cons (.refl _) (.cons (.refl _) (.cons (.refl _) (.nil _)))) rfl) ?_;rintro ⟨n18, y11, t12, y13, y14, y15, t16⟩ H;obtain ⟨n18, rfl, H⟩ := dx H;replace H : jc F (jb F n18) y11 y13 y14 y15 = some (r3, r4) := H
   unfold jc at H
   refine af <| af <| aa ?_;show AR _ _ _ _ _ [0, 1, 2, 3, 4] _;refine zS rfl (ah (av := .pt _ _) rfl) <| zS rfl (al rfl) <| zS rfl (ag (n := 0) (by kernel_rfl) rfl) <| zR rfl (ak (i := 0) ac rfl rfl rfl rfl) <| zS rfl (mB rfl rfl) <| aj <| ay rfl (fun c19 => ?_) (fun c19 => ?_)
   ·replace H := aZ c19 H;refine aC <| aX ?_
    rcases Or.symm (bndk_s H) with ⟨p22, e21, H⟩ | ⟨x20, e21, H⟩
    ·refine aa ?_;show AR _ _ _ _ _ [0, 1] _;refine zS rfl (ah (av := .pt _ _) rfl) <| aq rfl rfl (bK (c := du (.iface 46 (.agg #[.int .i64 p22]))) [0, 2, 2] rfl sa rfl (qJ F o8 y11 y13 t12 y14 y15 t16 p22 e21) rfl ?_);refine Exists.intro [(2, .pt o5 0), (3, .pt o6 0)] ⟨by simp, .cons (.refl _) (.cons (.refl _) (.nil _)), ?_⟩;show ALeaves _ _ _ _ _ [.call (.func 21) [.pt o5 0, .pt o6 0] []] _ [.obj o6 [i64 0], .obj o5 [gj]];refine kL (v := .tup []) (u1 := (.panicking [{ v := (.iface 46 (.agg #[.int .i64 p22])), recovered := true }])) (A2 := [.obj o6 [i64 p22], .obj o5 [gj]]) [0, 0] (fun h => by cases h) oz rfl ?_ ?_
     ·show ADCalls _ _ [.pt o5 0, .pt o6 0] [.obj o6 [i64 0], .obj o5 [gj]] _ _;refine ir (av := .ifc 46 (.agg [i64 p22])) (l := [1]) Tryz.func21 rfl rfl rfl rfl rfl Recovers.pan rfl (fun cs => ?_);refine ASR.op rfl rfl ((aY (av := .ifc _ _) rfl).opR _) <| ASR.nil <| af <| aa ?_;show AR _ _ _ _ _ [0, 1] _;refine zS rfl (ah (av := .ifc _ _) rfl) <| zS rfl (oP (ms := []) (.inr rfl) Tryz.underlying20 rfl rfl) <| aj <| ay rfl (fun _ => ?_) (fun hx => dm rfl hx);refine af <| aa ?_;show AR _ _ _ _ _ [0, 1, 2, 3, 4, 5, 6, 7] _;refine zS rfl (ah (av := .ifc _ _) rfl) <| zS rfl (lB Tryz.underlying46 rfl rfl) <| zS rfl (ah (av := .tup _) rfl) <| zS rfl (aL (av := .agg _) rfl rfl) <| zS rfl (aL (av := .v _) rfl rfl) <| zX rfl (dR (zs := [.int .i64 0]) (by kernel_rfl)) ?_;rintro _ _ ⟨o23, rfl, rfl⟩;refine s0 rfl rfl (cw (i := 0) (vs := [i64 p22]) (by kernel_rfl) rfl rfl (by simp [cr, slE]) rfl (ai rfl)) <| za rfl <| aj <| af <| af <| aa ?_;show AR _ _ _ _ _ [0, 1] _;refine zm rfl <| zS rfl (bS rfl) <| aj <| ay rfl (fun hx => dm hx rfl) (fun _ => ?_);refine aC <| bg (by kernel_rfl) ?_;show AI _ _ _ _ _ 4 (Array.replicate 4 false) _;refine zk 0 rfl (ag (n := 0) (by kernel_rfl) rfl) ?_;show AI _ _ _ _ _ _ #[true, false, false, false] _;refine cL (i := 1) (j := 2) (by kernel_rfl) rfl rfl rfl rfl ?_ ?_
      ·refine aE rfl (ak (i := 0) bE rfl rfl rfl rfl) ?_;show AI _ _ _ _ _ _ #[true, true, false, false] _;refine bc (i := 2) (by kernel_rfl) rfl rfl <| dy (aA (i := 2) (c := .v _) (by kernel_rfl) rfl rfl rfl rfl (ai rfl)) ?_;show AI _ _ _ _ _ _ #[true, true, true, false] _;refine bc (i := 3) (by kernel_rfl) rfl rfl <| dy (aA (i := 1) (c := .v _) (by kernel_rfl) rfl rfl rfl rfl (ai rfl)) ?_;show AI _ _ _ _ _ _ #[true, true, true, true] _;refine bm rfl ?_;exact And.intro rfl (Exists.intro _ (Exists.intro _ ⟨bk rfl, aH [1, 1] rfl, rfl, rfl, rfl⟩))
      ·refine dy (aA (i := 2) (c := .v _) (by kernel_rfl) rfl rfl rfl rfl (ai rfl)) ?_;show AI _ _ _ _ _ _ #[true, false, true, false] _;refine bc (i := 1) (by kernel_rfl) rfl rfl <| aE rfl (ak (i := 0) bE rfl rfl rfl rfl) ?_;show AI _ _ _ _ _ _ #[true, true, true, false] _;refine bc (i := 3) (by kernel_rfl) rfl rfl <| dy (aA (i := 1) (c := .v _) (by kernel_rfl) rfl rfl rfl rfl (ai rfl)) ?_;show AI _ _ _ _ _ _ #[true, true, true, true] _;refine bm rfl ?_;exact And.intro rfl (Exists.intro _ (Exists.intro _ ⟨bk rfl, aH [1, 1] rfl, rfl, rfl, rfl⟩))
     show ALeaves _ _ _ _ _ [] .returning [.obj o6 [i64 p22], .obj o5 [gj]];obtain ⟨rfl, rfl⟩ := dX H;exact Exists.intro _ (Exists.intro _ ⟨kD rfl ((CellV.one (c := .v _) 1 ax rfl rfl rfl rfl).oneW (.nil _)) (CellV.one (c := .v _) 0 bE rfl rfl rfl rfl), aH [] rfl, rfl, rfl⟩)
    refine aa ?_;show AR _ _ _ _ _ [0, 1] _;refine zS rfl (ah (av := .pt _ _) rfl) <| aq rfl rfl (aN [0, 2, 2] rfl sa rfl (si F o8 y11 y13 t12 y14 y15 t16 x20.1 x20.2.1 x20.2.2.1 x20.2.2.2 e21) rfl (fun c A' h => by cases h.1) ?_)
    rintro av A' ⟨h, t24, t25, rfl⟩; cases h
    refine aj ?_;exact Exists.intro (n18, x20.1, t24, x20.2.2.2, x20.2.1, x20.2.2.1, t25) ⟨H, Nat.lt_succ_self _, aQ [0, 2, 2, 0, 0] (.cons (.refl _) (.cons (.refl _) (.cons (.refl _) (.nil _)))) rfl⟩
   ·replace H := ba c19 H;refine bW ?_;exact Exists.intro (y11, t12, y13, y14, y15, t16) ⟨H, aQ [0, 0, 0, 0, 0] (.cons (.refl _) (.cons (.refl _) (.cons (.refl _) (.nil _)))) rfl⟩
  rintro ⟨y26, t27, y28, y29, y30, t31⟩ H;replace H : ja F y26 y28 y29 y30 = some (r3, r4) := H
  unfold ja at H
  refine af ?_
  rcases Or.symm (bndk_s H) with ⟨p36, e35, H⟩ | ⟨x34, e35, H⟩
  ·refine aa ?_;show AR _ _ _ _ _ [0, 1, 2, 3, 4, 5, 6, 7, 8, 9, 10, 11, 12, 13] _;refine zS rfl (ah (av := .pt _ _) rfl) <| zS rfl (al rfl) <| zS rfl (ag (n := 1) (by kernel_rfl) rfl) <| zR rfl (ak (i := 0) ao rfl rfl rfl rfl) <| zS rfl (gJ ao rfl) <| zS rfl (bC rfl rfl) <| zm rfl <| bf (l := [13]) 32 (B ((decide ((y28.length : Int) = 0)) && (decide (0 < y29)))) (fun K => ?_) ?_
   ·rcases am (decide ((y28.length : Int) = 0)) with h33 | h33
    ·refine zU h33 rfl (ah (av := .pt _ _) rfl) <| zU h33 rfl (al rfl) <| zU h33 rfl (ag (n := 2) (by kernel_rfl) rfl) <| zT h33 rfl (cj rfl rfl (ak (i := 0) ar rfl rfl rfl rfl) ?_);refine zU h33 rfl (gg rfl rfl) <| zS rfl (aB (av := .v _) rfl h33 rfl) ?_;exact K _ 5 _ (au (bN h33)) rfl rfl
    ·refine zF h33 rfl <| zF h33 rfl <| zF h33 rfl <| zF h33 rfl <| zF h33 rfl <| zS rfl (aD (av := .v _) rfl h33 rfl) ?_;exact K _ 5 _ (au (ca h33)) rfl rfl
   refine aq rfl rfl (bK (c := du (.iface 46 (.agg #[.int .i64 p36]))) [] rfl bX rfl (cc F ((decide ((y28.length : Int) = 0)) && (decide (0 < y29))) p36 e35) rfl ?_);refine Exists.intro [(2, .pt o5 0), (3, .pt o6 0)] ⟨by simp, .cons (.refl _) (.cons (.refl _) (.nil _)), ?_⟩;show ALeaves _ _ _ _ _ [.call (.func 21) [.pt o5 0, .pt o6 0] []] _ [.obj o8 [S y26, .sk t27 y28.length, i64 y29, slE (ab Enc.int (ab Enc.str (ab Enc.str (Enc.sl (ab Enc.str Enc.str))))) y30 (some t31)], .obj o6 [i64 0], .obj o5 [gj], .stk t27 (Enc.str.fl y28), .tok t31 33];refine kL (v := .tup []) (u1 := (.panicking [{ v := (.iface 46 (.agg #[.int .i64 p36])), recovered := true }])) (A2 := [.obj o6 [i64 p36], .obj o5 [gj]]) [1, 1] (fun h => by cases h) oz rfl ?_ ?_
   ·show ADCalls _ _ [.pt o5 0, .pt o6 0] [.obj o6 [i64 0], .obj o5 [gj]] _ _;refine ir (av := .ifc 46 (.agg [i64 p36])) (l := [1]) Tryz.func21 rfl rfl rfl rfl rfl Recovers.pan rfl (fun cs => ?_);refine ASR.op rfl rfl ((aY (av := .ifc _ _) rfl).opR _) <| ASR.nil <| af <| aa ?_;show AR _ _ _ _ _ [0, 1] _;refine zS rfl (ah (av := .ifc _ _) rfl) <| zS rfl (oP (ms := []) (.inr rfl) Tryz.underlying20 rfl rfl) <| aj <| ay rfl (fun _ => ?_) (fun hx => dm rfl hx);refine af <| aa ?_;show AR _ _ _ _ _ [0, 1, 2, 3, 4, 5, 6, 7] _;refine zS rfl (ah (av := .ifc _ _) rfl) <| zS rfl (lB Tryz.underlying46 rfl rfl) <| zS rfl (ah (av := .tup _) rfl) <| zS rfl (aL (av := .agg _) rfl rfl) <| zS rfl (aL (av := .v _) rfl rfl) <| zX rfl (dR (zs := [.int .i64 0]) (by kernel_rfl)) ?_;rintro _ _ ⟨o37, rfl, rfl⟩;refine s0 rfl rfl (cw (i := 0) (vs := [i64 p36]) (by kernel_rfl) rfl rfl (by simp [cr, slE]) rfl (ai rfl)) <| za rfl <| aj <| af <| af <| aa ?_;show AR _ _ _ _ _ [0, 1] _;refine zm rfl <| zS rfl (bS rfl) <| aj <| ay rfl (fun hx => dm hx rfl) (fun _ => ?_);refine aC <| bg (by kernel_rfl) ?_;show AI _ _ _ _ _ 4 (Array.replicate 4 false) _;refine zk 0 rfl (ag (n := 0) (by kernel_rfl) rfl) ?_;show AI _ _ _ _ _ _ #[true, false, false, false] _;refine cL (i := 1) (j := 2) (by kernel_rfl) rfl rfl rfl rfl ?_ ?_
    ·refine aE rfl (ak (i := 0) bE rfl rfl rfl rfl) ?_;show AI _ _ _ _ _ _ #[true, true, false, false] _;refine bc (i := 2) (by kernel_rfl) rfl rfl <| dy (aA (i := 2) (c := .v _) (by kernel_rfl) rfl rfl rfl rfl (ai rfl)) ?_;show AI _ _ _ _ _ _ #[true, true, true, false] _;refine bc (i := 3) (by kernel_rfl) rfl rfl <| dy (aA (i := 1) (c := .v _) (by kernel_rfl) rfl rfl rfl rfl (ai rfl)) ?_;show AI _ _ _ _ _ _ #[true, true, true, true] _;refine bm rfl ?_;exact And.intro rfl (Exists.intro _ (Exists.intro _ ⟨bk rfl, aH [1, 1] rfl, rfl, rfl, rfl⟩))
    ·refine dy (aA (i := 2) (c := .v _) (by kernel_rfl) rfl rfl rfl rfl (ai rfl)) ?_;show AI _ _ _ _ _ _ #[true, false, true, false] _;refine bc (i := 1) (by kernel_rfl) rfl rfl <| aE rfl (ak (i := 0) bE rfl rfl rfl rfl) ?_;show AI _ _ _ _ _ _ #[true, true, true, false] _;refine bc (i := 3) (by kernel_rfl) rfl rfl <| dy (aA (i := 1) (c := .v _) (by kernel_rfl) rfl rfl rfl rfl (ai rfl)) ?_;show AI _ _ _ _ _ _ #[true, true, true, true] _;refine bm rfl ?_;exact And.intro rfl (Exists.intro _ (Exists.intro _ ⟨bk rfl, aH [1, 1] rfl, rfl, rfl, rfl⟩))
   show ALeaves _ _ _ _ _ [] .returning [.obj o6 [i64 p36], .obj o5 [gj], .obj o8 [S y26, .sk t27 y28.length, i64 y29, slE (ab Enc.int (ab Enc.str (ab Enc.str (Enc.sl (ab Enc.str Enc.str))))) y30 (some t31)], .stk t27 (Enc.str.fl y28), .tok t31 33];obtain ⟨rfl, rfl⟩ := dX H;exact Exists.intro _ (Exists.intro _ ⟨kD rfl ((CellV.one (c := .v _) 1 ax rfl rfl rfl rfl).oneW (.nil _)) (CellV.one (c := .v _) 0 bE rfl rfl rfl rfl), aH [] rfl, rfl, rfl⟩)
  refine aa ?_;show AR _ _ _ _ _ [0, 1, 2, 3, 4, 5, 6, 7, 8, 9, 10, 11, 12, 13] _;refine zS rfl (ah (av := .pt _ _) rfl) <| zS rfl (al rfl) <| zS rfl (ag (n := 1) (by kernel_rfl) rfl) <| zR rfl (ak (i := 0) ao rfl rfl rfl rfl) <| zS rfl (gJ ao rfl) <| zS rfl (bC rfl rfl) <| zm rfl <| bf (l := [13]) 32 (B ((decide ((y28.length : Int) = 0)) && (decide (0 < y29)))) (fun K => ?_) ?_
  ·rcases am (decide ((y28.length : Int) = 0)) with h33 | h33
   ·refine zU h33 rfl (ah (av := .pt _ _) rfl) <| zU h33 rfl (al rfl) <| zU h33 rfl (ag (n := 2) (by kernel_rfl) rfl) <| zT h33 rfl (cj rfl rfl (ak (i := 0) ar rfl rfl rfl rfl) ?_);refine zU h33 rfl (gg rfl rfl) <| zS rfl (aB (av := .v _) rfl h33 rfl) ?_;exact K _ 5 _ (au (bN h33)) rfl rfl
   ·refine zF h33 rfl <| zF h33 rfl <| zF h33 rfl <| zF h33 rfl <| zF h33 rfl <| zS rfl (aD (av := .v _) rfl h33 rfl) ?_;exact K _ 5 _ (au (ca h33)) rfl rfl
  refine aq rfl rfl (aO rfl bX rfl (ck F ((decide ((y28.length : Int) = 0)) && (decide (0 < y29))) e35) ?_);refine aj <| af <| aa ?_;show AR _ _ _ _ _ [0, 1, 2, 3, 4, 5] _;refine zS rfl (ah (av := .pt _ _) rfl) <| zS rfl (al rfl) <| zS rfl (ag (n := 3) (by kernel_rfl) rfl) <| zR rfl (ak (i := 0) ax rfl rfl rfl rfl) <| s0 rfl rfl (aA (i := 2) (c := slE _ _ _) (by kernel_rfl) rfl rfl rfl rfl (ai rfl)) <| s0 rfl rfl (aA (i := 1) (c := .v _) (by kernel_rfl) rfl rfl rfl rfl (ai rfl)) <| aj <| aK ?_;show ALeaves _ _ _ _ _ [.call (.func 21) [.pt o5 0, .pt o6 0] []] _ [.obj o8 [S y26, .sk t27 y28.length, i64 y29, slE (ab Enc.int (ab Enc.str (ab Enc.str (Enc.sl (ab Enc.str Enc.str))))) y30 (some t31)], .obj o6 [i64 0], .obj o5 [slE (ab Enc.int (ab Enc.str (ab Enc.str (Enc.sl (ab Enc.str Enc.str))))) y30 (some t31)], .stk t27 (Enc.str.fl y28), .tok t31 33];refine kL (v := .tup []) (u1 := .returning) (A2 := [.obj o6 [i64 0], .obj o5 [slE (ab Enc.int (ab Enc.str (ab Enc.str (Enc.sl (ab Enc.str Enc.str))))) y30 (some t31)]]) [1, 1] (fun h => by cases h) oz rfl ?_ ?_
  ·show ADCalls _ _ [.pt o5 0, .pt o6 0] [.obj o6 [i64 0], .obj o5 [slE (ab Enc.int (ab Enc.str (ab Enc.str (Enc.sl (ab Enc.str Enc.str))))) y30 (some t31)]] _ _;refine ir (av := .v .nilIface) (l := [1]) Tryz.func21 rfl rfl rfl rfl rfl Recovers.ret rfl (fun cs => ?_);refine ASR.op rfl rfl ((asg rfl).opR _) <| ASR.nil <| af <| aa ?_;show AR _ _ _ _ _ [0, 1] _;refine zm rfl <| zS rfl (ng (n := 0) (t := 0) (k := .i64) Tryz.underlying20 rfl rfl) <| aj <| ay rfl (fun hx => dm hx rfl) (fun _ => ?_);refine aC ?_;exact And.intro rfl (Exists.intro _ (Exists.intro _ ⟨bk rfl, aH [0, 0] rfl, rfl, rfl, rfl⟩))
  show ALeaves _ _ _ _ _ [] .returning [.obj o6 [i64 0], .obj o5 [slE (ab Enc.int (ab Enc.str (ab Enc.str (Enc.sl (ab Enc.str Enc.str))))) y30 (some t31)], .obj o8 [S y26, .sk t27 y28.length, i64 y29, slE (ab Enc.int (ab Enc.str (ab Enc.str (Enc.sl (ab Enc.str Enc.str))))) y30 (some t31)], .stk t27 (Enc.str.fl y28), .tok t31 33];obtain ⟨rfl, rfl⟩ := dX H;exact Exists.intro _ (Exists.intro _ ⟨kD rfl ((CellV.one (c := slE _ _ _) 1 ax rfl rfl rfl rfl).oneW (.tok _ _ _)) (CellV.one (c := .v _) 0 bE rfl rfl rfl rfl), aH [] rfl, rfl, rfl⟩)
end Go.Proofs.YteokdkimegepoaaGreatDoor
namespace Go.Pv
def kz : Option Bool :=
some true
def lW (a1 : List ((List UInt8) × List UInt8)) (a3 : List ((List UInt8) × List UInt8)) (rec8 : Int → Option Bool) (y7 : Int) : Option Bool :=
bif decide (y7 < (a1.length : Int)) then
  grd (cR y7 a1.length) <|
  lt (at_ a1 y7) fun x12 =>
  grd (cR y7 a3.length) <|
  lt (at_ a3 y7) fun x15 =>
  bif !((decide (x12.1 = x15.1)) && (decide (x12.2 = x15.2))) then
    some false
  else
    grd (okI (y7 + 1)) <|
    rec8 (y7 + 1)
else
  kz
def lV (a1 : List ((List UInt8) × List UInt8)) (a3 : List ((List UInt8) × List UInt8)) (n : Nat) : Int → Option Bool :=
  loop (fun rec x => lW a1 a3 rec x) n
def qs (F : Nat) (a1 : List ((List UInt8) × List UInt8)) (a3 : List ((List UInt8) × List UInt8)) : Option Bool :=
bif !decide ((a1.length : Int) = (a3.length : Int)) then
  some false
else
  lV a1 a3 F 0
def qq (F : Nat) (a1 : Int) (a2 : List UInt8) (a3 : List UInt8) (a4 : List ((List UInt8) × List UInt8)) (a5 : Int) (a6 : List UInt8) (a7 : List UInt8) (a8 : List ((List UInt8) × List UInt8)) : Option Bool :=
lj (((decide (a1 = a5)) && (decide (a2 = a6))) && (decide (a3 = a7))) (qs F a4 a8) fun x13 =>
some ((((decide (a1 = a5)) && (decide (a2 = a6))) && (decide (a3 = a7))) && x13)
def im : Option Bool :=
some true
def jO (F : Nat) (a1 : List (Int × (List UInt8) × (List UInt8) × List ((List UInt8) × List UInt8))) (a3 : List (Int × (List UInt8) × (List UInt8) × List ((List UInt8) × List UInt8))) (rec8 : Int → Option Bool) (y7 : Int) : Option Bool :=
bif decide (y7 < (a1.length : Int)) then
  grd (cR y7 a1.length) <|
  lt (at_ a1 y7) fun x12 =>
  grd (cR y7 a3.length) <|
  lt (at_ a3 y7) fun x16 =>
  bnd (qq F x12.1 x12.2.1 x12.2.2.1 x12.2.2.2 x16.1 x16.2.1 x16.2.2.1 x16.2.2.2) fun x19 =>
  bif !x19 then
    some false
  else
    grd (okI (y7 + 1)) <|
    rec8 (y7 + 1)
else
  im
def jN (F : Nat) (a1 : List (Int × (List UInt8) × (List UInt8) × List ((List UInt8) × List UInt8))) (a3 : List (Int × (List UInt8) × (List UInt8) × List ((List UInt8) × List UInt8))) (n : Nat) : Int → Option Bool :=
  loop (fun rec x => jO F a1 a3 rec x) n
def lk (F : Nat) (a1 : List (Int × (List UInt8) × (List UInt8) × List ((List UInt8) × List UInt8))) (a3 : List (Int × (List UInt8) × (List UInt8) × List ((List UInt8) × List UInt8))) : Option Bool :=
bif !decide ((a1.length : Int) = (a3.length : Int)) then
  some false
else
  jN F a1 a3 F 0
def sL (F : Nat) (a1 : List (Int × (List UInt8) × (List UInt8) × List ((List UInt8) × List UInt8))) (a3 : List (Int × (List UInt8) × (List UInt8) × List ((List UInt8) × List UInt8))) : Option Bool :=
bnd (lk F a1 a3) fun x6 =>
some x6
def jw : Option Int :=
some (-1)
def kG (a1 : List UInt8) (a2 : UInt8) (rec6 : Int → Option Int) (y5 : Int) : Option Int :=
bif decide (0 ≤ y5) then
  grd (cR y5 a1.length) <|
  lt (at_ a1 y5) fun x10 =>
  bif decide (x10 = a2) then
    some y5
  else
    grd (okI (y5 - 1)) <|
    rec6 (y5 - 1)
else
  jw
def kF (a1 : List UInt8) (a2 : UInt8) (n : Nat) : Int → Option Int :=
  loop (fun rec x => kG a1 a2 rec x) n
def na (F : Nat) (a1 : List UInt8) (a2 : UInt8) : Option Int :=
grd (okI ((a1.length : Int) - 1)) <|
kF a1 a2 F ((a1.length : Int) - 1)
def ji (F : Nat) (a1 : List UInt8) (a2 : UInt8) : Option Int :=
bnd (na F a1 a2) fun x4 =>
some x4
def qr (F : Nat) (a1 : List UInt8) : Option ((List UInt8)) :=
bnd (ji F a1 58) fun x3 =>
grd (okI (x3 + 1)) <|
grd (kw (x3 + 1) a1.length) <|
lt (gk a1 (x3 + 1)) fun x7 =>
some x7
end Go.Pv
