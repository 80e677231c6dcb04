/-
  Texts in one (only what XmlAround needs): NumW, AnyP, AnyW, EntBP, EntBW, XmlAP, XmlAW, XmlBP.
-/
import Derived.Test.YteokdkimegepoaaGreatDoorZXmlAround2
import Derived.Test.YteokdkimegepoaaGreatDoorShelf
import Derived.Lib.ItoaNum
import Derived.Lib.IndexLaws
import Derived.Test.YteokdkimegepoaaGreatDoorChecked
import Derived.Lib.IndexAny
import Derived.Below
set_option linter.unusedVariables false
set_option linter.unusedSimpArgs false
set_option linter.unusedSectionVars false
namespace Go.Proofs.YteokdkimegepoaaGreatDoor
open Go.RowKit Go.Av Go.Pv
theorem tw : ∀ (args : Array Value) (w : World), (callFunc 161 args).run Tryz.prog w = .ok (.enter 161 args) w := fun _ _ => by kernel_rfl
theorem tv : ∀ (args : Array Value) (w : World), (callFunc 162 args).run Tryz.prog w = .ok (.enter 162 args) w := fun _ _ => by kernel_rfl
theorem tu : ∀ (args : Array Value) (w : World), (callFunc 163 args).run Tryz.prog w = .ok (.enter 163 args) w := fun _ _ => by kernel_rfl
theorem eR : ∀ (args : Array Value) (w : World), (callFunc 168 args).run Tryz.prog w = .ok (.enter 168 args) w := fun _ _ => by kernel_rfl
theorem tt : ∀ (args : Array Value) (w : World), (callFunc 169 args).run Tryz.prog w = .ok (.enter 169 args) w := fun _ _ => by kernel_rfl
set_option maxRecDepth 100000 in
set_option maxHeartbeats 1000000 in
theorem dT (F : Nat) (a1 : UInt8) (r2 : UInt8) (H : dM F a1 = some r2) : ACalls Tryz.prog 168 [u8 a1] [] (Ret (u8 r2) []) := by
 unfold dM at H
 refine au Tryz.func168 rfl rfl ?_;show AW _ _ 5 _ _ _;refine ac <| aa ?_;show AR _ _ _ _ _ [0] _;refine za rfl <| ai <| ac <| aa ?_;show AR _ _ _ _ _ [0, 1, 2] _;refine zm rfl <| zS rfl (g_or8 (a := a1) (b := 32) rfl rfl) <| za rfl <| ai <| aJ ?_;obtain rfl := al H;exact And.intro rfl (Exists.intro _ (Exists.intro _ ⟨aC rfl (.refl _), aH [] rfl, rfl, rfl⟩))
set_option maxRecDepth 100000 in
set_option maxHeartbeats 1000000 in
theorem ld (F : Nat) (a1 : List UInt8) (r2 : Bool) (H : gK F a1 = some r2) : ACalls Tryz.prog 169 [S a1] [] (Ret (B r2) []) := by
 unfold gK at H
 refine au Tryz.func169 rfl rfl ?_;show AW _ _ 94 _ _ _;refine ac <| aa ?_;show AR _ _ _ _ _ [0] _;refine za rfl <| ai <| ac <| aa ?_;show AR _ _ _ _ _ [0] _;refine za rfl <| ai <| ac <| aa ?_;show AR _ _ _ _ _ [0] _;refine za rfl <| ai <| bV (X := (List UInt8)) (fun y15 => ⟨[(0, S y15), (3, .v (.int .i32 94)), (4, i64 0)], [], []⟩) (fun y15 => dc F y15 = some r2) ?_ ?_
 ·refine ac ?_;obtain ⟨g4, H⟩ := cz H;obtain ⟨x5, e6, H⟩ := bM H;obtain ⟨g8, H⟩ := cz H;obtain ⟨x9, e10, H⟩ := bM H;refine aa ?_;show AR _ _ _ _ _ [0, 1, 2, 3, 4, 5, 6, 7, 8, 9, 10, 11, 12] _;refine zm rfl <| zS rfl (bu ag rfl) <| zS rfl (eS rfl rfl) <| zm rfl <| aX (l := []) 18 (B ((decide (1 ≤ (a1.length : Int))) && ((decide (x5 = 45)) || (decide (x9 = 43))))) (fun K => ?_) ?_
  ·rcases ak (decide (1 ≤ (a1.length : Int))) with h3 | h3
   ·refine zM h3 rfl <| zU h3 rfl (bj ag rfl rfl (g4 h3) e6) <| zU h3 rfl (ij (a := x5) (b := 45) rfl rfl) <| zM h3 rfl <| aX (l := [12]) 17 (B ((decide (x5 = 45)) || (decide (x9 = 43)))) (fun K => ?_) ?_
    ·rcases ak (decide (x5 = 45)) with h7 | h7
     ·refine zF h7 rfl <| zF h7 rfl <| zF h7 rfl <| zU h3 rfl (aE (av := .v _) rfl h7 rfl) ?_;exact K _ 3 _ (ay (jI h7)) rfl rfl
     ·refine zM h7 rfl <| zU h7 rfl (bj ag rfl rfl (g8 (jL h3 (nf h7))) e10) <| zU h7 rfl (ij (a := x9) (b := 43) rfl rfl) <| zU h3 rfl (aF (av := .v _) rfl h7 rfl) ?_;exact K _ 3 _ (ay (jJ h7)) rfl rfl
    refine zS rfl (aE (av := .v _) rfl h3 rfl) ?_;exact K _ 5 _ (ay (cA h3)) rfl rfl
   ·refine zF h3 rfl <| zF h3 rfl <| zF h3 rfl <| zF h3 rfl <| gU rfl rfl rfl rfl rfl <| gU rfl rfl rfl rfl rfl <| gU rfl rfl rfl rfl rfl <| zF h3 rfl <| zS rfl (aF (av := .v _) rfl h3 rfl) ?_;exact K _ 8 _ (ay (cB h3)) rfl rfl
  refine ai <| ax rfl (fun c11 => ?_) (fun c11 => ?_)
  ·replace H := aY c11 H;obtain ⟨g12, H⟩ := aW H;obtain ⟨x13, e14, H⟩ := bM H;refine aa ?_;show AR _ _ _ _ _ [0, 1, 2] _;refine zm rfl <| zS rfl (dE ag rfl rfl g12 e14) <| za rfl <| ai ?_;exact Exists.intro x13 ⟨H, bf [] (.cons (.refl _) (.cons (.refl _) (.cons (.refl _) (.nil _)))) rfl⟩
  ·replace H := aZ c11 H;refine aB ?_;exact Exists.intro a1 ⟨H, bf [] (.cons (.refl _) (.cons (.refl _) (.cons (.refl _) (.nil _)))) rfl⟩
 rintro y15 H;replace H : dc F y15 = some r2 := H
 unfold dc at H
 refine ac <| aa ?_;show AR _ _ _ _ _ [0] _;refine za rfl <| ai <| bV (X := Int × Int × Bool) (fun (y45, y46, y47) => ⟨[(0, S y15), (3, .v (.int .i32 y45)), (4, i64 y46), (5, B y47)], [], []⟩) (fun (y45, y46, y47) => dd F y15 y45 y46 y47 = some r2) ?_ ?_
 ·refine ac ?_;obtain ⟨g18, H⟩ := cz H;obtain ⟨x19, e20, H⟩ := bM H;obtain ⟨g22, H⟩ := cz H;obtain ⟨x23, e24, H⟩ := bM H;obtain ⟨x25, e26, H⟩ := eC H;obtain ⟨g28, H⟩ := cz H;obtain ⟨x29, e30, H⟩ := bM H;obtain ⟨x31, e32, H⟩ := eC H;obtain ⟨g34, H⟩ := cz H;obtain ⟨x35, e36, H⟩ := bM H;obtain ⟨x37, e38, H⟩ := eC H;refine aa ?_;show AR _ _ _ _ _ [0, 1, 2, 3, 4, 5, 6, 7, 8, 9, 10, 11, 12, 13, 14, 15, 16, 17, 18, 19, 20, 21, 22, 23, 24, 25] _;refine zm rfl <| zS rfl (bu ag rfl) <| zS rfl (eS rfl rfl) <| zm rfl <| aX (l := [8, 9, 10, 11, 12, 13, 14, 15, 16, 17, 18, 19, 20, 21, 22, 23, 24, 25]) 28 (B ((decide (2 ≤ (y15.length : Int))) && (decide (x19 = 48)))) (fun K => ?_) ?_
  ·rcases ak (decide (2 ≤ (y15.length : Int))) with h17 | h17
   ·refine zM h17 rfl <| zU h17 rfl (bj ag rfl rfl (g18 h17) e20) <| zU h17 rfl (ij (a := x19) (b := 48) rfl rfl) <| zS rfl (aE (av := .v _) rfl h17 rfl) ?_;exact K _ 3 _ (ay (cA h17)) rfl rfl
   ·refine zF h17 rfl <| zF h17 rfl <| zF h17 rfl <| zS rfl (aF (av := .v _) rfl h17 rfl) ?_;exact K _ 3 _ (ay (cB h17)) rfl rfl
  refine zm rfl <| aX (l := []) 46 (B (((decide (2 ≤ (y15.length : Int))) && (decide (x19 = 48))) && (((decide (x25 = 98)) || (decide (x31 = 111))) || (decide (x37 = 120))))) (fun K => ?_) ?_
  ·rcases ak ((decide (2 ≤ (y15.length : Int))) && (decide (x19 = 48))) with h21 | h21
   ·refine zM h21 rfl <| zU h21 rfl (bj ag rfl rfl (g22 h21) e24) <| zT h21 rfl (aG rfl eR rfl (dT F x23 x25 (e26 h21)) ?_);refine zU h21 rfl (ij (a := x25) (b := 98) rfl rfl) <| zM h21 rfl <| aX (l := [19, 20, 21, 22, 23, 24, 25]) 39 (B ((decide (x25 = 98)) || (decide (x31 = 111)))) (fun K => ?_) ?_
    ·rcases ak (decide (x25 = 98)) with h27 | h27
     ·refine zF h27 rfl <| zF h27 rfl <| zF h27 rfl <| zF h27 rfl <| zU h21 rfl (aE (av := .v _) rfl h27 rfl) ?_;exact K _ 4 _ (ay (jI h27)) rfl rfl
     ·refine zM h27 rfl <| zU h27 rfl (bj ag rfl rfl (g28 (jL h21 (nf h27))) e30) <| zT h27 rfl (aG rfl eR rfl (dT F x29 x31 (e32 (jL h21 (nf h27)))) ?_);refine zU h27 rfl (ij (a := x31) (b := 111) rfl rfl) <| zU h21 rfl (aF (av := .v _) rfl h27 rfl) ?_;exact K _ 4 _ (ay (jJ h27)) rfl rfl
    refine zM h21 rfl <| aX (l := [25]) 45 (B (((decide (x25 = 98)) || (decide (x31 = 111))) || (decide (x37 = 120)))) (fun K => ?_) ?_
    ·rcases ak ((decide (x25 = 98)) || (decide (x31 = 111))) with h33 | h33
     ·refine zF h33 rfl <| zF h33 rfl <| zF h33 rfl <| zF h33 rfl <| zU h21 rfl (aE (av := .v _) rfl h33 rfl) ?_;exact K _ 4 _ (ay (jI h33)) rfl rfl
     ·refine zM h33 rfl <| zU h33 rfl (bj ag rfl rfl (g34 (jL h21 (nf h33))) e36) <| zT h33 rfl (aG rfl eR rfl (dT F x35 x37 (e38 (jL h21 (nf h33)))) ?_);refine zU h33 rfl (ij (a := x37) (b := 120) rfl rfl) <| zU h21 rfl (aF (av := .v _) rfl h33 rfl) ?_;exact K _ 4 _ (ay (jJ h33)) rfl rfl
    refine zS rfl (aE (av := .v _) rfl h21 rfl) ?_;exact K _ 8 _ (ay (cA h21)) rfl rfl
   ·refine zF h21 rfl <| zF h21 rfl <| zF h21 rfl <| zF h21 rfl <| zF h21 rfl <| gU rfl rfl rfl rfl rfl <| gU rfl rfl rfl rfl rfl <| gU rfl rfl rfl rfl rfl <| gU rfl rfl rfl rfl rfl <| zF h21 rfl <| zF h21 rfl <| gU rfl rfl rfl rfl rfl <| gU rfl rfl rfl rfl rfl <| gU rfl rfl rfl rfl rfl <| gU rfl rfl rfl rfl rfl <| zF h21 rfl <| zS rfl (aF (av := .v _) rfl h21 rfl) ?_;exact K _ 16 _ (ay (cB h21)) rfl rfl
  refine ai <| ax rfl (fun c39 => ?_) (fun c39 => ?_)
  ·replace H := aY c39 H;refine ac <| aa ?_;show AR _ _ _ _ _ [0] _;refine za rfl <| ai <| ac <| aa ?_;show AR _ _ _ _ _ [0] _;refine za rfl <| ai ?_;obtain ⟨g40, H⟩ := aW H;obtain ⟨x41, e42, H⟩ := bM H;obtain ⟨x43, e44, H⟩ := eD H;refine aa ?_;show AR _ _ _ _ _ [0, 1, 2, 3, 4] _;refine zm rfl <| zS rfl (bj ag rfl rfl g40 e42) <| am rfl rfl (aG rfl eR rfl (dT F x41 x43 e44) ?_);refine zS rfl (ij (a := x43) (b := 120) rfl rfl) <| za rfl <| ai ?_;exact Exists.intro (48, 2, decide (x43 = 120)) ⟨H, bf [] (.cons (.refl _) (.cons (.refl _) (.cons (.refl _) (.cons (.refl _) (.nil _))))) rfl⟩
  ·replace H := aZ c39 H;refine aB ?_;exact Exists.intro (94, 0, false) ⟨H, bf [] (.cons (.refl _) (.cons (.refl _) (.cons (.refl _) (.cons (.refl _) (.nil _))))) rfl⟩
 rintro ⟨y45, y46, y47⟩ H;replace H : dd F y15 y45 y46 y47 = some r2 := H
 unfold dd at H
 refine bV (X := Int) (fun y84 => ⟨[(3, .v (.int .i32 y84))], [], []⟩) (fun y84 => dP y84 = some r2) ?_ ?_
 ·refine aP <| dp (X := Nat × Int × Int) (fun (n52, y49, y50) => ⟨[(0, S y15), (3, .v (.int .i32 y49)), (4, i64 y50), (5, B y47)], [], []⟩) (fun (n52, y49, y50) => de F y15 y47 n52 (y49, y50) = some r2) (fun (n52, y49, y50) => n52) (F, y45, y46) H (bf [] (.cons (.refl _) (.cons (.refl _) (.cons (.refl _) (.cons (.refl _) (.nil _))))) rfl) ?_;rintro ⟨n52, y49, y50⟩ H;obtain ⟨n52, rfl, H⟩ := eT H;replace H : fm F y15 y47 (de F y15 y47 n52) y49 y50 = some r2 := H
  unfold fm at H
  refine ac <| ac <| aa ?_;show AR _ _ _ _ _ [0, 1, 2, 3] _;refine zm rfl <| zm rfl <| zS rfl (bu ag rfl) <| zS rfl (bU rfl rfl) <| ai <| ax rfl (fun c53 => ?_) (fun c53 => ?_)
  ·replace H := aY c53 H;refine aB <| bV (X := Int) (fun y81 => ⟨[(0, S y15), (3, .v (.int .i32 y81)), (4, i64 y50), (5, B y47)], [], []⟩) (fun y81 => cD y50 (de F y15 y47 n52) y81 = some r2) ?_ ?_
   ·refine aP <| ac <| ac ?_;obtain ⟨g54, H⟩ := aW H;obtain ⟨x55, e56, H⟩ := bM H;obtain ⟨g58, H⟩ := cz H;obtain ⟨x59, e60, H⟩ := bM H;obtain ⟨g63, H⟩ := cz H;obtain ⟨x64, e65, H⟩ := bM H;obtain ⟨x66, e67, H⟩ := eC H;obtain ⟨g69, H⟩ := cz H;obtain ⟨x70, e71, H⟩ := bM H;obtain ⟨x72, e73, H⟩ := eC H;refine aa ?_;show AR _ _ _ _ _ [0, 1, 2, 3, 4, 5, 6, 7, 8, 9, 10, 11, 12, 13, 14, 15, 16, 17, 18, 19, 20, 21, 22, 23, 24, 25, 26] _;refine zm rfl <| zm rfl <| zS rfl (bj ag rfl rfl g54 e56) <| zS rfl (fk rfl rfl) <| zm rfl <| aX (l := [10, 11, 12, 13, 14, 15, 16, 17, 18, 19, 20, 21, 22, 23, 24, 25, 26]) 66 (B ((decide (48 ≤ (x55.toNat : Int))) && (decide ((x59.toNat : Int) ≤ 57)))) (fun K => ?_) ?_
    ·rcases ak (decide (48 ≤ (x55.toNat : Int))) with h57 | h57
     ·refine zM h57 rfl <| zM h57 rfl <| zU h57 rfl (bj ag rfl rfl (g58 h57) e60) <| zU h57 rfl (fk rfl rfl) <| zS rfl (aE (av := .v _) rfl h57 rfl) ?_;exact K _ 4 _ (ay (cA h57)) rfl rfl
     ·refine zF h57 rfl <| zF h57 rfl <| zF h57 rfl <| zF h57 rfl <| zS rfl (aF (av := .v _) rfl h57 rfl) ?_;exact K _ 4 _ (ay (cB h57)) rfl rfl
    refine zm rfl <| aX (l := []) 83 (B (((decide (48 ≤ (x55.toNat : Int))) && (decide ((x59.toNat : Int) ≤ 57))) || ((y47 && (decide (97 ≤ (x66.toNat : Int)))) && (decide ((x72.toNat : Int) ≤ 102))))) (fun K => ?_) ?_
    ·rcases ak ((decide (48 ≤ (x55.toNat : Int))) && (decide ((x59.toNat : Int) ≤ 57))) with h61 | h61
     ·refine zF h61 rfl <| zF h61 rfl <| gU rfl rfl rfl rfl rfl <| gU rfl rfl rfl rfl rfl <| gU rfl rfl rfl rfl rfl <| gU rfl rfl rfl rfl rfl <| gU rfl rfl rfl rfl rfl <| zF h61 rfl <| zF h61 rfl <| gU rfl rfl rfl rfl rfl <| gU rfl rfl rfl rfl rfl <| gU rfl rfl rfl rfl rfl <| gU rfl rfl rfl rfl rfl <| gU rfl rfl rfl rfl rfl <| zF h61 rfl <| zS rfl (aE (av := .v _) rfl h61 rfl) ?_;exact K _ 15 _ (ay (jI h61)) rfl rfl
     ·refine zM h61 rfl <| zM h61 rfl <| aX (l := [19, 20, 21, 22, 23, 24, 25, 26]) 75 (B (y47 && (decide (97 ≤ (x66.toNat : Int))))) (fun K => ?_) ?_
      ·rcases ak y47 with h62 | h62
       ·refine zM h62 rfl <| zM h62 rfl <| zU h62 rfl (bj ag rfl rfl (g63 (jL (nf h61) h62)) e65) <| zT h62 rfl (aG rfl eR rfl (dT F x64 x66 (e67 (jL (nf h61) h62))) ?_);refine zU h62 rfl (fk rfl rfl) <| zU h61 rfl (aE (av := .v _) rfl h62 rfl) ?_;exact K _ 5 _ (ay (cA h62)) rfl rfl
       ·refine zF h62 rfl <| zF h62 rfl <| zF h62 rfl <| zF h62 rfl <| zF h62 rfl <| zU h61 rfl (aF (av := .v _) rfl h62 rfl) ?_;exact K _ 5 _ (ay (cB h62)) rfl rfl
      refine zM h61 rfl <| aX (l := [26]) 82 (B ((y47 && (decide (97 ≤ (x66.toNat : Int)))) && (decide ((x72.toNat : Int) ≤ 102)))) (fun K => ?_) ?_
      ·rcases ak (y47 && (decide (97 ≤ (x66.toNat : Int)))) with h68 | h68
       ·refine zM h68 rfl <| zM h68 rfl <| zU h68 rfl (bj ag rfl rfl (g69 (jL (nf h61) h68)) e71) <| zT h68 rfl (aG rfl eR rfl (dT F x70 x72 (e73 (jL (nf h61) h68))) ?_);refine zU h68 rfl (fk rfl rfl) <| zU h61 rfl (aE (av := .v _) rfl h68 rfl) ?_;exact K _ 5 _ (ay (cA h68)) rfl rfl
       ·refine zF h68 rfl <| zF h68 rfl <| zF h68 rfl <| zF h68 rfl <| zF h68 rfl <| zU h61 rfl (aF (av := .v _) rfl h68 rfl) ?_;exact K _ 5 _ (ay (cB h68)) rfl rfl
      refine zS rfl (aF (av := .v _) rfl h61 rfl) ?_;exact K _ 5 _ (ay (jJ h61)) rfl rfl
    refine ai <| ax rfl (fun c74 => ?_) (fun c74 => ?_)
    ·replace H := aY c74 H;refine ac <| aa ?_;show AR _ _ _ _ _ [0] _;refine za rfl <| ai <| cC ?_;exact Exists.intro 48 ⟨H, bf [] (.cons (.refl _) (.cons (.refl _) (.cons (.refl _) (.cons (.refl _) (.nil _))))) rfl⟩
    ·replace H := aZ c74 H;refine aB <| ac <| ac ?_;obtain ⟨g75, H⟩ := aW H;obtain ⟨x76, e77, H⟩ := bM H;refine aa ?_;show AR _ _ _ _ _ [0, 1, 2, 3] _;refine zm rfl <| zm rfl <| zS rfl (bj ag rfl rfl g75 e77) <| zS rfl (ij (a := x76) (b := 95) rfl rfl) <| ai <| ax rfl (fun c78 => ?_) (fun c78 => ?_)
     ·replace H := aY c78 H;refine ac <| ac <| aa ?_;show AR _ _ _ _ _ [0, 1] _;refine zm rfl <| zS rfl (hO rfl rfl) <| ai <| ax rfl (fun c79 => ?_) (fun c79 => ?_)
      ·replace H := aY c79 H;refine ac <| aa ?_;show AR _ _ _ _ _ [0] _;refine za rfl <| ai <| aJ ?_;obtain rfl := al H;exact And.intro rfl (Exists.intro _ (Exists.intro _ ⟨aC rfl (.refl _), aH [] rfl, rfl, rfl⟩))
      ·replace H := aZ c79 H;refine aB <| ac <| aa ?_;show AR _ _ _ _ _ [0] _;refine za rfl <| ai <| cC ?_;exact Exists.intro 95 ⟨H, bf [] (.cons (.refl _) (.cons (.refl _) (.cons (.refl _) (.cons (.refl _) (.nil _))))) rfl⟩
     ·replace H := aZ c78 H;refine aB <| ac <| ac <| aa ?_;show AR _ _ _ _ _ [0, 1] _;refine zm rfl <| zS rfl (bW rfl rfl) <| ai <| ax rfl (fun c80 => ?_) (fun c80 => ?_)
      ·replace H := aY c80 H;refine ac <| aa ?_;show AR _ _ _ _ _ [0] _;refine za rfl <| ai <| aJ ?_;obtain rfl := al H;exact And.intro rfl (Exists.intro _ (Exists.intro _ ⟨aC rfl (.refl _), aH [] rfl, rfl, rfl⟩))
      ·replace H := aZ c80 H;refine aB <| aa ?_;show AR _ _ _ _ _ [0] _;refine za rfl <| ai ?_;exact Exists.intro 33 ⟨H, bf [] (.cons (.refl _) (.cons (.refl _) (.cons (.refl _) (.cons (.refl _) (.nil _))))) rfl⟩
   rintro y81 H;replace H : cD y50 (de F y15 y47 n52) y81 = some r2 := H
   unfold cD at H
   obtain ⟨g83, H⟩ := aW H;refine aa ?_;show AR _ _ _ _ _ [0, 1, 2] _;refine zm rfl <| zS rfl (fa rfl rfl g83) <| za rfl <| ai ?_;exact Exists.intro (n52, y81, y50 + 1) ⟨H, Nat.lt_succ_self _, bf [] (.cons (.refl _) (.cons (.refl _) (.cons (.refl _) (.cons (.refl _) (.nil _))))) rfl⟩
  ·replace H := aZ c53 H;refine cC ?_;exact Exists.intro y49 ⟨H, bf [] (.cons (.refl _) (.nil _)) rfl⟩
 rintro y84 H;replace H : dP y84 = some r2 := H
 unfold dP at H
 refine ac <| aa ?_;show AR _ _ _ _ _ [0, 1, 2] _;refine zm rfl <| zS rfl (hO rfl rfl) <| za rfl <| ai <| aJ ?_;obtain rfl := al H;exact And.intro rfl (Exists.intro _ (Exists.intro _ ⟨aC rfl (.refl _), aH [] rfl, rfl, rfl⟩))
abbrev _root_.Go.Av.bH := @Tryz.underlying188
abbrev _root_.Go.Av.cn := @Tryz.underlying5
set_option maxRecDepth 100000 in
set_option maxHeartbeats 1000000 in
theorem nb (F : Nat) (a1 : List UInt8) (a2 : Int) (a3 : Int) (r4 : Int) (r5 : Int) (H : dS F a1 a2 a3 = some (r4, r5)) : ACalls Tryz.prog 163 [S a1, i64 a2, i64 a3] [] (Ret (.tup [.v (.int .u64 r4), gV 188 .i64 r5]) []) := by
 unfold dS at H
 refine au Tryz.func163 rfl rfl ?_;show AW _ _ 172 _ _ _;refine ac <| aa ?_;show AR _ _ _ _ _ [0, 1] _;refine za rfl <| za rfl <| ai <| ac <| ac <| aa ?_;show AR _ _ _ _ _ [0, 1] _;refine zm rfl <| zS rfl (eV rfl rfl) <| ai <| ax rfl (fun c6 => ?_) (fun c6 => ?_)
 ·replace H := aY c6 H;refine ac <| aa ?_;show AR _ _ _ _ _ [0, 1, 2] _;refine zS rfl (bk (a := .v _) bH rfl rfl) <| za rfl <| zS rfl (aK (av := .ifc _ _) rfl) <| ai <| aJ ?_;obtain ⟨rfl, rfl⟩ := fB H;exact And.intro rfl (Exists.intro _ (Exists.intro _ ⟨bp rfl (.refl _) (.refl _), aH [] rfl, rfl, rfl⟩))
 ·replace H := aZ c6 H;refine aB <| ac <| aa ?_;show AR _ _ _ _ _ [0, 1, 2] _;refine zm rfl <| zS rfl (bW rfl rfl) <| za rfl <| ai <| ac <| aa ?_;show AR _ _ _ _ _ [0, 1] _;refine zm rfl <| za rfl <| ai <| bV (X := Unit) (fun _ => ⟨[(0, S a1), (1, i64 a2), (2, i64 a3), (8, B (decide (a2 = 0))), (9, S a1)], [], []⟩) (fun _ => dt F a1 a2 a3 = some (r4, r5)) ?_ ?_
  ·refine aP <| ac <| aa ?_;show AR _ _ _ _ _ [0, 1, 2, 3, 4, 5, 6] _;refine zm rfl <| zS rfl (fk rfl rfl) <| zm rfl <| aX (l := [6]) 31 (B ((decide (2 ≤ a2)) && (decide (a2 ≤ 36)))) (fun K => ?_) ?_
   ·rcases ak (decide (2 ≤ a2)) with h7 | h7
    ·refine zM h7 rfl <| zU h7 rfl (fk rfl rfl) <| zS rfl (aE (av := .v _) rfl h7 rfl) ?_;exact K _ 2 _ (ay (cA h7)) rfl rfl
    ·refine zF h7 rfl <| zF h7 rfl <| zS rfl (aF (av := .v _) rfl h7 rfl) ?_;exact K _ 2 _ (ay (cB h7)) rfl rfl
   refine za rfl <| ai ?_;obtain ⟨g9, H⟩ := aW H;refine ax rfl (fun _ => ?_) (fun hx => cq g9 hx);refine aB ?_;exact Exists.intro () ⟨H, bf [] (.cons (.refl _) (.cons (.refl _) (.cons (.refl _) (.cons (.refl _) (.cons (.refl _) (.nil _)))))) rfl⟩
  rintro _ H;replace H : dt F a1 a2 a3 = some (r4, r5) := H
  unfold dt at H
  refine bV (X := Unit) (fun _ => ⟨[(0, S a1), (1, i64 a2), (2, i64 64), (8, B (decide (a2 = 0))), (9, S a1)], [], []⟩) (fun _ => du F a1 a2 = some (r4, r5)) ?_ ?_
  ·refine ac <| aa ?_;show AR _ _ _ _ _ [0, 1] _;refine zm rfl <| zS rfl (bW rfl rfl) <| ai ?_;obtain ⟨g12, H⟩ := aW H;refine ax rfl (fun _ => ?_) (fun hx => cq g12 hx);refine aa ?_;show AR _ _ _ _ _ [0] _;refine za rfl <| ai ?_;exact Exists.intro () ⟨H, bf [] (.cons (.refl _) (.cons (.refl _) (.cons (.refl _) (.cons (.refl _) (.cons (.refl _) (.nil _)))))) rfl⟩
  rintro _ H;replace H : du F a1 a2 = some (r4, r5) := H
  unfold du at H
  refine ac <| aa ?_;show AR _ _ _ _ _ [0] _;refine za rfl <| ai <| bV (X := Int) (fun y17 => ⟨[(0, S a1), (1, i64 a2), (2, i64 64), (8, B (decide (a2 = 0))), (9, S a1), (10, .v (.int .u64 y17))], [], []⟩) (fun y17 => cu F a1 a2 y17 = some (r4, r5)) ?_ ?_
  ·refine ac <| aa ?_;show AR _ _ _ _ _ [0] _;refine zm rfl <| ai <| aP <| ac <| aa ?_;show AR _ _ _ _ _ [0, 1] _;refine zS rfl (bW rfl rfl) <| za rfl <| ai <| ax rfl (fun c14 => ?_) (fun c14 => ?_)
   ·replace H := aY c14 H;refine aa ?_;show AR _ _ _ _ _ [0] _;refine za rfl <| ai ?_;exact Exists.intro 1844674407370955162 ⟨H, bf [] (.cons (.refl _) (.cons (.refl _) (.cons (.refl _) (.cons (.refl _) (.cons (.refl _) (.cons (.refl _) (.nil _))))))) rfl⟩
   ·replace H := aZ c14 H;refine ac <| aa ?_;show AR _ _ _ _ _ [0, 1] _;refine zS rfl (bW rfl rfl) <| za rfl <| ai <| ax rfl (fun c15 => ?_) (fun c15 => ?_)
    ·replace H := aY c15 H;refine aa ?_;show AR _ _ _ _ _ [0] _;refine za rfl <| ai ?_;exact Exists.intro 1152921504606846976 ⟨H, bf [] (.cons (.refl _) (.cons (.refl _) (.cons (.refl _) (.cons (.refl _) (.cons (.refl _) (.cons (.refl _) (.nil _))))))) rfl⟩
    ·replace H := aZ c15 H;obtain ⟨g16, H⟩ := aW H;refine aa ?_;show AR _ _ _ _ _ [0, 1, 2, 3, 4] _;refine zm rfl <| zS rfl (dy (by kernel_rfl) Tryz.underlying189 rfl) <| zS rfl (qP rfl rfl (of_decide_eq_true g16)) <| zS rfl (lE rfl rfl) <| za rfl <| ai ?_;exact Exists.intro (IntKind.u64.wrap ((IntKind.u64.wrap (Int.tdiv 18446744073709551615 (IntKind.u64.wrap a2))) + 1)) ⟨H, bf [] (.cons (.refl _) (.cons (.refl _) (.cons (.refl _) (.cons (.refl _) (.cons (.refl _) (.cons (.refl _) (.nil _))))))) rfl⟩
  rintro y17 H;replace H : cu F a1 a2 y17 = some (r4, r5) := H
  unfold cu at H
  refine ac ?_;obtain ⟨g19, H⟩ := aW H;refine aa ?_;show AR _ _ _ _ _ [0, 1, 2, 3, 4] _;refine zm rfl <| zS rfl (dy (by kernel_rfl) Tryz.underlying124 rfl) <| zS rfl (sq rfl rfl (of_decide_eq_true g19)) <| zS rfl (lD rfl rfl) <| za rfl <| ai <| ac <| aa ?_;show AR _ _ _ _ _ [0] _;refine za rfl <| ai <| ac <| aa ?_;show AR _ _ _ _ _ [0] _;refine za rfl <| ai <| bV (X := Bool × Int) (fun (y53, y54) => ⟨[(9, S a1), (12, B y53), (13, .v (.int .u64 y54))], [], []⟩) (fun (y53, y54) => dv F a1 y53 y54 = some (r4, r5)) ?_ ?_
  ·refine ac ?_;obtain ⟨g20, H⟩ := aW H;refine aa ?_;show AR _ _ _ _ _ [0, 1, 2, 3] _;refine zm rfl <| zX rfl (iU (bytes := 1) ag aj cn rfl g20) ?_;rintro _ _ ⟨t21, rfl, rfl⟩;refine zS rfl (be aj rfl) <| zm rfl <| ai <| aP <| dp (X := Nat × Bool × Int × Int) (fun (n26, y22, y23, y24) => ⟨[(1, i64 a2), (8, B (decide (a2 = 0))), (9, S a1), (10, .v (.int .u64 y17)), (11, .v (.int .u64 (IntKind.u64.wrap ((IntKind.u64.wrap (1 * 2 ^ min (Int.toNat (IntKind.u64.wrap 64)) IntKind.u64.bits)) - 1)))), (12, B y22), (13, .v (.int .u64 y23)), (99, slE Enc.byte a1 (some t21)), (100, i64 (a1.length : Int)), (101, i64 y24)], [], [.tok t21 5]⟩) (fun (n26, y22, y23, y24) => bC F a1 a2 y17 n26 (y22, y23, y24) = some (r4, r5)) (fun (n26, y22, y23, y24) => n26) (F, false, 0, 0) H (bf [0] (.cons (.refl _) (.cons (.refl _) (.cons (.refl _) (.cons (.refl _) (.cons (.refl _) (.cons (.refl _) (.cons (.refl _) (.cons (.refl _) (.cons (.refl _) (.cons (.refl _) (.nil _))))))))))) rfl) ?_;rintro ⟨n26, y22, y23, y24⟩ H;obtain ⟨n26, rfl, H⟩ := eT H;replace H : cR F a1 a2 y17 (bC F a1 a2 y17 n26) y22 y23 y24 = some (r4, r5) := H
   unfold cR at H
   refine ac <| aa ?_;show AR _ _ _ _ _ [0] _;refine zS rfl (bU rfl rfl) <| ai <| ac <| ax rfl (fun c27 => ?_) (fun c27 => ?_)
   ·replace H := aY c27 H;refine aB <| bV (X := Bool × Int) (fun (y49, y50) => ⟨[(1, i64 a2), (8, B (decide (a2 = 0))), (9, S a1), (10, .v (.int .u64 y17)), (11, .v (.int .u64 (IntKind.u64.wrap ((IntKind.u64.wrap (1 * 2 ^ min (Int.toNat (IntKind.u64.wrap 64)) IntKind.u64.bits)) - 1)))), (12, B y49), (13, .v (.int .u64 y50)), (99, slE Enc.byte a1 (some t21)), (100, i64 (a1.length : Int)), (101, i64 y24)], [], [.tok t21 5]⟩) (fun (y49, y50) => cQ y24 (bC F a1 a2 y17 n26) y49 y50 = some (r4, r5)) ?_ ?_
    ·refine aP <| ac ?_;obtain ⟨g28, H⟩ := aW H;obtain ⟨x29, e30, H⟩ := bM H;refine aa ?_;show AR _ _ _ _ _ [0, 1, 2] _;refine zS rfl (bw (E := Enc.byte) aj (by kernel_rfl) rfl rfl g28 e30) <| zS rfl (aM cn rfl rfl) <| za rfl <| ai <| ac <| aa ?_;show AR _ _ _ _ _ [0] _;refine za rfl <| ai <| bV (X := UInt8) (fun y43 => ⟨[(1, i64 a2), (8, B (decide (a2 = 0))), (9, S a1), (10, .v (.int .u64 y17)), (11, .v (.int .u64 (IntKind.u64.wrap ((IntKind.u64.wrap (1 * 2 ^ min (Int.toNat (IntKind.u64.wrap 64)) IntKind.u64.bits)) - 1)))), (12, B y22), (13, .v (.int .u64 y23)), (16, u8 y43), (99, slE Enc.byte a1 (some t21)), (100, i64 (a1.length : Int)), (101, i64 y24)], [], [.tok t21 5]⟩) (fun y43 => ci a2 y17 y22 y23 y24 (bC F a1 a2 y17 n26) y43 = some (r4, r5)) ?_ ?_
     ·refine aP <| ac <| aa ?_;show AR _ _ _ _ _ [0, 1, 2, 3, 4, 5] _;refine zm rfl <| zS rfl (ij (a := x29) (b := 95) rfl rfl) <| zm rfl <| aX (l := [5]) 111 (B ((decide (x29 = 95)) && (decide (a2 = 0)))) (fun K => ?_) ?_
      ·rcases ak (decide (x29 = 95)) with h31 | h31
       ·refine zM h31 rfl <| zS rfl (aE (av := .v _) rfl h31 rfl) ?_;exact K _ 1 _ (ay (cA h31)) rfl rfl
       ·refine zF h31 rfl <| zS rfl (aF (av := .v _) rfl h31 rfl) ?_;exact K _ 1 _ (ay (cB h31)) rfl rfl
      refine za rfl <| ai <| ax rfl (fun c32 => ?_) (fun c32 => ?_)
      ·replace H := aY c32 H;refine ac <| aa ?_;show AR _ _ _ _ _ [0] _;refine za rfl <| ai <| cC ?_;exact Exists.intro (true, y23) ⟨H, bf [0] (.cons (.refl _) (.cons (.refl _) (.cons (.refl _) (.cons (.refl _) (.cons (.refl _) (.cons (.refl _) (.cons (.refl _) (.cons (.refl _) (.cons (.refl _) (.cons (.refl _) (.nil _))))))))))) rfl⟩
      ·replace H := aZ c32 H;refine ac <| aa ?_;show AR _ _ _ _ _ [0, 1, 2, 3, 4, 5, 6] _;refine zm rfl <| zS rfl (fk rfl rfl) <| zm rfl <| aX (l := [6]) 118 (B ((decide (48 ≤ (x29.toNat : Int))) && (decide ((x29.toNat : Int) ≤ 57)))) (fun K => ?_) ?_
       ·rcases ak (decide (48 ≤ (x29.toNat : Int))) with h33 | h33
        ·refine zM h33 rfl <| zU h33 rfl (fk rfl rfl) <| zS rfl (aE (av := .v _) rfl h33 rfl) ?_;exact K _ 2 _ (ay (cA h33)) rfl rfl
        ·refine zF h33 rfl <| zF h33 rfl <| zS rfl (aF (av := .v _) rfl h33 rfl) ?_;exact K _ 2 _ (ay (cB h33)) rfl rfl
       refine za rfl <| ai <| ax rfl (fun c34 => ?_) (fun c34 => ?_)
       ·replace H := aY c34 H;refine aa ?_;show AR _ _ _ _ _ [0, 1, 2] _;refine zm rfl <| zS rfl (g_sub8 (a := x29) (b := 48) rfl rfl) <| za rfl <| ai ?_;exact Exists.intro (x29 - 48) ⟨H, bf [0] (.cons (.refl _) (.cons (.refl _) (.cons (.refl _) (.cons (.refl _) (.cons (.refl _) (.cons (.refl _) (.cons (.refl _) (.cons (.refl _) (.cons (.refl _) (.cons (.refl _) (.cons (.refl _) (.nil _)))))))))))) rfl⟩
       ·replace H := aZ c34 H;refine ac ?_;obtain ⟨x35, e36, H⟩ := eD H;obtain ⟨x38, e39, H⟩ := eC H;refine aa ?_;show AR _ _ _ _ _ [0, 1, 2, 3, 4, 5, 6, 7, 8] _;refine zm rfl <| am rfl rfl (aG rfl eR rfl (dT F x29 x35 e36) ?_);refine zS rfl (fk rfl rfl) <| zm rfl <| aX (l := [8]) 129 (B ((decide (97 ≤ (x35.toNat : Int))) && (decide ((x38.toNat : Int) ≤ 122)))) (fun K => ?_) ?_
        ·rcases ak (decide (97 ≤ (x35.toNat : Int))) with h37 | h37
         ·refine zM h37 rfl <| zT h37 rfl (aG rfl eR rfl (dT F x29 x38 (e39 h37)) ?_);refine zU h37 rfl (fk rfl rfl) <| zS rfl (aE (av := .v _) rfl h37 rfl) ?_;exact K _ 3 _ (ay (cA h37)) rfl rfl
         ·refine zF h37 rfl <| zF h37 rfl <| zF h37 rfl <| zS rfl (aF (av := .v _) rfl h37 rfl) ?_;exact K _ 3 _ (ay (cB h37)) rfl rfl
        refine za rfl <| ai <| ax rfl (fun c40 => ?_) (fun c40 => ?_)
        ·replace H := aY c40 H;obtain ⟨x41, e42, H⟩ := eD H;refine aa ?_;show AR _ _ _ _ _ [0, 1, 2, 3, 4] _;refine zm rfl <| am rfl rfl (aG rfl eR rfl (dT F x29 x41 e42) ?_);refine zS rfl (g_sub8 (a := x41) (b := 97) rfl rfl) <| zS rfl (g_add8 (a := x41 - 97) (b := 10) rfl rfl) <| za rfl <| ai ?_;exact Exists.intro ((x41 - 97) + 10) ⟨H, bf [0] (.cons (.refl _) (.cons (.refl _) (.cons (.refl _) (.cons (.refl _) (.cons (.refl _) (.cons (.refl _) (.cons (.refl _) (.cons (.refl _) (.cons (.refl _) (.cons (.refl _) (.cons (.refl _) (.nil _)))))))))))) rfl⟩
        ·replace H := aZ c40 H;refine ac <| aa ?_;show AR _ _ _ _ _ [0, 1, 2] _;refine zS rfl (bk (a := .v _) bH rfl rfl) <| za rfl <| zS rfl (aK (av := .ifc _ _) rfl) <| ai <| aJ ?_;obtain ⟨rfl, rfl⟩ := fB H;exact And.intro rfl (Exists.intro _ (Exists.intro _ ⟨bp rfl (.refl _) (.refl _), aH [] rfl, rfl, rfl⟩))
     rintro y43 H;replace H : ci a2 y17 y22 y23 y24 (bC F a1 a2 y17 n26) y43 = some (r4, r5) := H
     unfold ci at H
     refine ac <| ac <| aa ?_;show AR _ _ _ _ _ [0, 1, 2, 3] _;refine zm rfl <| zm rfl <| zS rfl (nu (by kernel_rfl) cn rfl) <| zS rfl (eS rfl rfl) <| ai <| ax rfl (fun c45 => ?_) (fun c45 => ?_)
     ·replace H := aY c45 H;refine ac <| aa ?_;show AR _ _ _ _ _ [0, 1, 2] _;refine zS rfl (bk (a := .v _) bH rfl rfl) <| za rfl <| zS rfl (aK (av := .ifc _ _) rfl) <| ai <| aJ ?_;obtain ⟨rfl, rfl⟩ := fB H;exact And.intro rfl (Exists.intro _ (Exists.intro _ ⟨bp rfl (.refl _) (.refl _), aH [] rfl, rfl, rfl⟩))
     ·replace H := aZ c45 H;refine aB <| ac <| ac <| aa ?_;show AR _ _ _ _ _ [0, 1, 2] _;refine zm rfl <| zm rfl <| zS rfl (eS rfl rfl) <| ai <| ax rfl (fun c46 => ?_) (fun c46 => ?_)
      ·replace H := aY c46 H;refine ac <| aa ?_;show AR _ _ _ _ _ [0, 1, 2, 3] _;refine zm rfl <| zS rfl (bk (a := .v _) bH rfl rfl) <| za rfl <| zS rfl (aK (av := .ifc _ _) rfl) <| ai <| aJ ?_;obtain ⟨rfl, rfl⟩ := fB H;exact And.intro rfl (Exists.intro _ (Exists.intro _ ⟨bp rfl (.refl _) (.refl _), aH [] rfl, rfl, rfl⟩))
      ·replace H := aZ c46 H;refine aB <| ac <| aa ?_;show AR _ _ _ _ _ [0, 1, 2, 3, 4] _;refine zm rfl <| zm rfl <| zS rfl (dy (by kernel_rfl) Tryz.underlying189 rfl) <| zS rfl (qQ rfl rfl) <| za rfl <| ai <| ac <| aa ?_;show AR _ _ _ _ _ [0, 1, 2, 3, 4] _;refine zm rfl <| zm rfl <| zS rfl (dy (k' := .u8) (n := (y43.toNat : Int)) (by kernel_rfl) Tryz.underlying189 rfl) <| zS rfl (lE rfl rfl) <| za rfl <| ai <| ac <| ac <| aa ?_;show AR _ _ _ _ _ [0, 1, 2, 3, 4, 5, 6, 7] _;refine zm rfl <| zm rfl <| zS rfl (bU rfl rfl) <| zm rfl <| aX (l := []) 159 (B ((decide (IntKind.u64.wrap ((IntKind.u64.wrap (y23 * (IntKind.u64.wrap a2))) + (IntKind.u64.wrap (y43.toNat : Int))) < IntKind.u64.wrap (y23 * (IntKind.u64.wrap a2)))) || (decide (IntKind.u64.wrap ((IntKind.u64.wrap (1 * 2 ^ min (Int.toNat (IntKind.u64.wrap 64)) IntKind.u64.bits)) - 1) < IntKind.u64.wrap ((IntKind.u64.wrap (y23 * (IntKind.u64.wrap a2))) + (IntKind.u64.wrap (y43.toNat : Int))))))) (fun K => ?_) ?_
       ·rcases ak (decide (IntKind.u64.wrap ((IntKind.u64.wrap (y23 * (IntKind.u64.wrap a2))) + (IntKind.u64.wrap (y43.toNat : Int))) < IntKind.u64.wrap (y23 * (IntKind.u64.wrap a2)))) with h47 | h47
        ·refine zF h47 rfl <| zF h47 rfl <| zF h47 rfl <| zS rfl (aE (av := .v _) rfl h47 rfl) ?_;exact K _ 3 _ (ay (jI h47)) rfl rfl
        ·refine zM h47 rfl <| zM h47 rfl <| zU h47 rfl (fZ rfl rfl) <| zS rfl (aF (av := .v _) rfl h47 rfl) ?_;exact K _ 3 _ (ay (jJ h47)) rfl rfl
       refine ai <| ax rfl (fun c48 => ?_) (fun c48 => ?_)
       ·replace H := aY c48 H;refine ac <| aa ?_;show AR _ _ _ _ _ [0, 1, 2, 3] _;refine zm rfl <| zS rfl (bk (a := .v _) bH rfl rfl) <| za rfl <| zS rfl (aK (av := .ifc _ _) rfl) <| ai <| aJ ?_;obtain ⟨rfl, rfl⟩ := fB H;exact And.intro rfl (Exists.intro _ (Exists.intro _ ⟨bp rfl (.refl _) (.refl _), aH [] rfl, rfl, rfl⟩))
       ·replace H := aZ c48 H;refine aB <| aa ?_;show AR _ _ _ _ _ [0, 1] _;refine zm rfl <| za rfl <| ai ?_;exact Exists.intro (y22, IntKind.u64.wrap ((IntKind.u64.wrap (y23 * (IntKind.u64.wrap a2))) + (IntKind.u64.wrap (y43.toNat : Int)))) ⟨H, bf [0] (.cons (.refl _) (.cons (.refl _) (.cons (.refl _) (.cons (.refl _) (.cons (.refl _) (.cons (.refl _) (.cons (.refl _) (.cons (.refl _) (.cons (.refl _) (.cons (.refl _) (.nil _))))))))))) rfl⟩
    rintro ⟨y49, y50⟩ H;replace H : cQ y24 (bC F a1 a2 y17 n26) y49 y50 = some (r4, r5) := H
    unfold cQ at H
    obtain ⟨g52, H⟩ := aW H;refine aa ?_;show AR _ _ _ _ _ [0, 1] _;refine zS rfl (fa rfl rfl g52) <| zm rfl <| ai ?_;exact Exists.intro (n26, y49, y50, y24 + 1) ⟨H, Nat.lt_succ_self _, bf [0] (.cons (.refl _) (.cons (.refl _) (.cons (.refl _) (.cons (.refl _) (.cons (.refl _) (.cons (.refl _) (.cons (.refl _) (.cons (.refl _) (.cons (.refl _) (.cons (.refl _) (.nil _))))))))))) rfl⟩
   ·replace H := aZ c27 H;refine cC ?_;exact Exists.intro (y22, y23) ⟨H, bf [] (.cons (.refl _) (.cons (.refl _) (.cons (.refl _) (.nil _)))) rfl⟩
  rintro ⟨y53, y54⟩ H;replace H : dv F a1 y53 y54 = some (r4, r5) := H
  unfold dv at H
  refine ac <| ac ?_;obtain ⟨x57, e58, H⟩ := eC H;refine aa ?_;show AR _ _ _ _ _ [0, 1, 2, 3, 4, 5] _;refine zm rfl <| zm rfl <| aX (l := []) 169 (B (y53 && (!x57))) (fun K => ?_) ?_
  ·rcases ak y53 with h56 | h56
   ·refine zM h56 rfl <| zT h56 rfl (aG rfl tt rfl (ld F a1 x57 (e58 h56)) ?_);refine zU h56 rfl (ce rfl) <| zS rfl (aE (av := .v _) rfl h56 rfl) ?_;exact K _ 3 _ (ay (cA h56)) rfl rfl
   ·refine zF h56 rfl <| zF h56 rfl <| zF h56 rfl <| zS rfl (aF (av := .v _) rfl h56 rfl) ?_;exact K _ 3 _ (ay (cB h56)) rfl rfl
  refine ai <| ax rfl (fun c59 => ?_) (fun c59 => ?_)
  ·replace H := aY c59 H;refine ac <| aa ?_;show AR _ _ _ _ _ [0, 1, 2] _;refine zS rfl (bk (a := .v _) bH rfl rfl) <| za rfl <| zS rfl (aK (av := .ifc _ _) rfl) <| ai <| aJ ?_;obtain ⟨rfl, rfl⟩ := fB H;exact And.intro rfl (Exists.intro _ (Exists.intro _ ⟨bp rfl (.refl _) (.refl _), aH [] rfl, rfl, rfl⟩))
  ·replace H := aZ c59 H;refine aB <| ac <| aa ?_;show AR _ _ _ _ _ [0, 1, 2] _;refine zm rfl <| za rfl <| za rfl <| ai <| aJ ?_;obtain ⟨rfl, rfl⟩ := fB H;exact And.intro rfl (Exists.intro _ (Exists.intro _ ⟨bp rfl (.refl _) (.refl _), aH [] rfl, rfl, rfl⟩))
abbrev _root_.Go.Av.dw := @Tryz.underlying62
set_option maxRecDepth 100000 in
set_option maxHeartbeats 1000000 in
theorem nS (F : Nat) (a1 : List UInt8) (a2 : Int) (a3 : Int) (r4 : Int) (r5 : Int) (H : eF F a1 a2 a3 = some (r4, r5)) : ACalls Tryz.prog 161 [S a1, i64 a2, i64 a3] [] (Ret (.tup [i64 r4, gV 188 .i64 r5]) []) := by
 unfold eF at H
 refine au Tryz.func161 rfl rfl ?_;show AW _ _ 73 _ _ _;refine ac <| aa ?_;show AR _ _ _ _ _ [0, 1] _;refine za rfl <| za rfl <| ai <| ac <| ac <| aa ?_;show AR _ _ _ _ _ [0, 1] _;refine zm rfl <| zS rfl (eV rfl rfl) <| ai <| ax rfl (fun c6 => ?_) (fun c6 => ?_)
 ·replace H := aY c6 H;refine ac <| aa ?_;show AR _ _ _ _ _ [0, 1, 2] _;refine zS rfl (bk (a := .v _) bH rfl rfl) <| za rfl <| zS rfl (aK (av := .ifc _ _) rfl) <| ai <| aJ ?_;obtain ⟨rfl, rfl⟩ := fB H;exact And.intro rfl (Exists.intro _ (Exists.intro _ ⟨bp rfl (.refl _) (.refl _), aH [] rfl, rfl, rfl⟩))
 ·replace H := aZ c6 H;refine aB <| ac <| aa ?_;show AR _ _ _ _ _ [0] _;refine za rfl <| ai <| bV (X := (List UInt8) × Bool) (fun (y18, y19) => ⟨[(0, S y18), (1, i64 a2), (2, i64 a3), (8, B y19)], [], []⟩) (fun (y18, y19) => cK F a2 a3 y18 y19 = some (r4, r5)) ?_ ?_
  ·refine ac ?_;obtain ⟨g7, H⟩ := aW H;obtain ⟨x8, e9, H⟩ := bM H;refine aa ?_;show AR _ _ _ _ _ [0, 1] _;refine zm rfl <| zS rfl (bj ag rfl rfl g7 e9) <| ai <| aP <| ac <| aa ?_;show AR _ _ _ _ _ [0, 1] _;refine zS rfl (ij (a := x8) (b := 43) rfl rfl) <| za rfl <| ai <| ax rfl (fun c10 => ?_) (fun c10 => ?_)
   ·replace H := aY c10 H;obtain ⟨g11, H⟩ := aW H;obtain ⟨x12, e13, H⟩ := bM H;refine aa ?_;show AR _ _ _ _ _ [0, 1, 2] _;refine zm rfl <| zS rfl (dE ag rfl rfl g11 e13) <| za rfl <| ai ?_;exact Exists.intro (x12, false) ⟨H, bf [] (.cons (.refl _) (.cons (.refl _) (.cons (.refl _) (.cons (.refl _) (.nil _))))) rfl⟩
   ·replace H := aZ c10 H;refine ac <| aa ?_;show AR _ _ _ _ _ [0, 1] _;refine zS rfl (ij (a := x8) (b := 45) rfl rfl) <| za rfl <| ai <| ax rfl (fun c14 => ?_) (fun c14 => ?_)
    ·replace H := aY c14 H;refine ac ?_;obtain ⟨g15, H⟩ := aW H;obtain ⟨x16, e17, H⟩ := bM H;refine aa ?_;show AR _ _ _ _ _ [0, 1, 2] _;refine zm rfl <| zS rfl (dE ag rfl rfl g15 e17) <| za rfl <| ai <| aa ?_;show AR _ _ _ _ _ [0] _;refine za rfl <| ai ?_;exact Exists.intro (x16, true) ⟨H, bf [] (.cons (.refl _) (.cons (.refl _) (.cons (.refl _) (.cons (.refl _) (.nil _))))) rfl⟩
    ·replace H := aZ c14 H;refine aB ?_;exact Exists.intro (a1, false) ⟨H, bf [] (.cons (.refl _) (.cons (.refl _) (.cons (.refl _) (.cons (.refl _) (.nil _))))) rfl⟩
  rintro ⟨y18, y19⟩ H;replace H : cK F a2 a3 y18 y19 = some (r4, r5) := H
  unfold cK at H
  refine ac <| aa ?_;show AR _ _ _ _ _ [0] _;refine za rfl <| ai <| ac ?_;obtain ⟨x21, x22, e23, H⟩ := cT H;refine aa ?_;show AR _ _ _ _ _ [0, 1, 2, 3, 4, 5, 6, 7, 8] _;refine zm rfl <| zm rfl <| zm rfl <| am rfl rfl (aG rfl tu rfl (nb F y18 a2 a3 x21 x22 e23) ?_);refine zS rfl (af (av := .tup _) rfl) <| zS rfl (aI (av := .v _) rfl rfl) <| zS rfl (aI (av := gV _ _ _) rfl rfl) <| za rfl <| zS rfl (aK (av := gV _ _ _) rfl) <| ai <| ac <| ac <| aa ?_;show AR _ _ _ _ _ [0, 1, 2, 3, 4, 5, 6] _;refine zS rfl (af (av := gV _ _ _) rfl) <| zS rfl (kY dw rfl rfl) <| zm rfl <| aX (l := []) 38 (B ((!decide (x22 = 0)) && (!decide (x22 = 1)))) (fun K => ?_) ?_
  ·rcases ak (!decide (x22 = 0)) with h24 | h24
   ·refine zU h24 rfl (af (av := gV _ _ _) rfl) <| zU h24 rfl (bk (a := .v _) bH rfl rfl) <| zU h24 rfl (sN (m := 1) dw rfl bH (by kernel_rfl) (by decide) rfl rfl) <| zS rfl (aE (av := .v _) rfl h24 rfl) ?_;exact K _ 3 _ (ay (cA h24)) rfl rfl
   ·refine zF h24 rfl <| zF h24 rfl <| zF h24 rfl <| zS rfl (aF (av := .v _) rfl h24 rfl) ?_;exact K _ 3 _ (ay (cB h24)) rfl rfl
  refine ai <| ax rfl (fun c25 => ?_) (fun c25 => ?_)
  ·replace H := aY c25 H;refine ac <| aa ?_;show AR _ _ _ _ _ [0, 1, 2] _;refine zS rfl (af (av := gV _ _ _) rfl) <| za rfl <| zS rfl (aK (av := gV _ _ _) rfl) <| ai <| aJ ?_;obtain ⟨rfl, rfl⟩ := fB H;exact And.intro rfl (Exists.intro _ (Exists.intro _ ⟨bp rfl (.refl _) (.refl _), aH [] rfl, rfl, rfl⟩))
  ·replace H := aZ c25 H;refine aB <| bV (X := Unit) (fun _ => ⟨[(2, i64 64), (8, B y19), (9, .v (.int .u64 x21))], [], []⟩) (fun _ => dI y19 x21 = some (r4, r5)) ?_ ?_
   ·refine ac <| aa ?_;show AR _ _ _ _ _ [0, 1] _;refine zm rfl <| zS rfl (bW rfl rfl) <| ai ?_;obtain ⟨g27, H⟩ := aW H;refine ax rfl (fun _ => ?_) (fun hx => cq g27 hx);refine aa ?_;show AR _ _ _ _ _ [0] _;refine za rfl <| ai ?_;exact Exists.intro () ⟨H, bf [] (.cons (.refl _) (.cons (.refl _) (.cons (.refl _) (.nil _)))) rfl⟩
   rintro _ H;replace H : dI y19 x21 = some (r4, r5) := H
   unfold dI at H
   refine ac ?_;obtain ⟨g29, H⟩ := aW H;refine aa ?_;show AR _ _ _ _ _ [0, 1, 2, 3, 4] _;refine zm rfl <| zS rfl (dl (av' := i64 63) (rf rfl rfl (by decide)) rfl) <| zS rfl (dy (by kernel_rfl) Tryz.underlying124 rfl) <| zS rfl (sq rfl rfl (of_decide_eq_true g29)) <| za rfl <| ai <| ac <| ac <| aa ?_;show AR _ _ _ _ _ [0, 1, 2, 3, 4, 5, 6] _;refine zm rfl <| zS rfl (ce rfl) <| zm rfl <| aX (l := []) 52 (B ((!y19) && (decide (IntKind.u64.wrap (1 * 2 ^ min (Int.toNat (IntKind.u64.wrap 63)) IntKind.u64.bits) ≤ x21)))) (fun K => ?_) ?_
   ·rcases ak (!y19) with h30 | h30
    ·refine zM h30 rfl <| zM h30 rfl <| zU h30 rfl (eS rfl rfl) <| zS rfl (aE (av := .v _) rfl h30 rfl) ?_;exact K _ 3 _ (ay (cA h30)) rfl rfl
    ·refine zF h30 rfl <| zF h30 rfl <| zF h30 rfl <| zS rfl (aF (av := .v _) rfl h30 rfl) ?_;exact K _ 3 _ (ay (cB h30)) rfl rfl
   refine ai <| ax rfl (fun c31 => ?_) (fun c31 => ?_)
   ·replace H := aY c31 H;refine ac ?_;obtain ⟨g32, H⟩ := aW H;refine aa ?_;show AR _ _ _ _ _ [0, 1, 2, 3, 4, 5] _;refine zm rfl <| zS rfl (lD rfl rfl) <| zS rfl (lZ (by kernel_rfl) Tryz.underlying2 rfl g32) <| zS rfl (bk (a := .v _) bH rfl rfl) <| za rfl <| zS rfl (aK (av := .ifc _ _) rfl) <| ai <| aJ ?_;obtain ⟨rfl, rfl⟩ := fB H;exact And.intro rfl (Exists.intro _ (Exists.intro _ ⟨bp rfl (.refl _) (.refl _), aH [] rfl, rfl, rfl⟩))
   ·replace H := aZ c31 H;refine aB <| ac <| ac <| aa ?_;show AR _ _ _ _ _ [0, 1, 2, 3, 4, 5] _;refine zm rfl <| zm rfl <| aX (l := []) 62 (B (y19 && (decide (IntKind.u64.wrap (1 * 2 ^ min (Int.toNat (IntKind.u64.wrap 63)) IntKind.u64.bits) < x21)))) (fun K => ?_) ?_
    ·rcases ak y19 with h33 | h33
     ·refine zM h33 rfl <| zM h33 rfl <| zU h33 rfl (fZ rfl rfl) <| zS rfl (aE (av := .v _) rfl h33 rfl) ?_;exact K _ 3 _ (ay (cA h33)) rfl rfl
     ·refine zF h33 rfl <| zF h33 rfl <| zF h33 rfl <| zS rfl (aF (av := .v _) rfl h33 rfl) ?_;exact K _ 3 _ (ay (cB h33)) rfl rfl
    refine ai <| ax rfl (fun c34 => ?_) (fun c34 => ?_)
    ·replace H := aY c34 H;refine ac ?_;obtain ⟨g35, H⟩ := aW H;obtain ⟨g36, H⟩ := aW H;refine aa ?_;show AR _ _ _ _ _ [0, 1, 2, 3, 4, 5] _;refine zm rfl <| zS rfl (lZ (by kernel_rfl) Tryz.underlying2 rfl g35) <| zS rfl (g_neg rfl g36) <| zS rfl (bk (a := .v _) bH rfl rfl) <| za rfl <| zS rfl (aK (av := .ifc _ _) rfl) <| ai <| aJ ?_;obtain ⟨rfl, rfl⟩ := fB H;exact And.intro rfl (Exists.intro _ (Exists.intro _ ⟨bp rfl (.refl _) (.refl _), aH [] rfl, rfl, rfl⟩))
    ·replace H := aZ c34 H;refine aB <| ac ?_;obtain ⟨g37, H⟩ := aW H;refine aa ?_;show AR _ _ _ _ _ [0, 1, 2] _;refine zm rfl <| zS rfl (lZ (by kernel_rfl) Tryz.underlying2 rfl g37) <| za rfl <| ai <| bV (X := Int) (fun y40 => ⟨[(11, i64 y40)], [], []⟩) (fun y40 => dj y40 = some (r4, r5)) ?_ ?_
     ·refine ac <| aa ?_;show AR _ _ _ _ _ [0] _;refine zm rfl <| ai <| ax rfl (fun c38 => ?_) (fun c38 => ?_)
      ·replace H := aY c38 H;obtain ⟨g39, H⟩ := aW H;refine aa ?_;show AR _ _ _ _ _ [0, 1, 2] _;refine zm rfl <| zS rfl (g_neg rfl g39) <| za rfl <| ai ?_;exact Exists.intro (0 - x21) ⟨H, bf [] (.cons (.refl _) (.nil _)) rfl⟩
      ·replace H := aZ c38 H;refine aB ?_;exact Exists.intro x21 ⟨H, bf [] (.cons (.refl _) (.nil _)) rfl⟩
     rintro y40 H;replace H : dj y40 = some (r4, r5) := H
     unfold dj at H
     refine ac <| aa ?_;show AR _ _ _ _ _ [0, 1, 2] _;refine zm rfl <| za rfl <| za rfl <| ai <| aJ ?_;obtain ⟨rfl, rfl⟩ := fB H;exact And.intro rfl (Exists.intro _ (Exists.intro _ ⟨bp rfl (.refl _) (.refl _), aH [] rfl, rfl, rfl⟩))
set_option maxRecDepth 100000 in
set_option maxHeartbeats 1000000 in
theorem kQ (F : Nat) (a1 : List UInt8) (a2 : Int) (a3 : Int) (r4 : Int) (r5 : Int) (H : cE F a1 a2 a3 = some (r4, r5)) : ACalls Tryz.prog 159 [S a1, i64 a2, i64 a3] [] (Ret (.tup [i64 r4, eAny 192 r5]) []) := by
 unfold cE at H
 refine au Tryz.func159 rfl rfl ?_;show AW _ _ 25 _ _ _;refine ac <| aa ?_;show AR _ _ _ _ _ [0, 1] _;refine za rfl <| za rfl <| ai <| ac ?_;obtain ⟨x6, x7, e8, H⟩ := cT H;refine aa ?_;show AR _ _ _ _ _ [0, 1, 2, 3, 4, 5, 6, 7, 8] _;refine zm rfl <| zm rfl <| zm rfl <| am rfl rfl (aG rfl tw rfl (nS F a1 a2 a3 x6 x7 e8) ?_);refine zS rfl (af (av := .tup _) rfl) <| zS rfl (aI (av := .v _) rfl rfl) <| zS rfl (aI (av := gV _ _ _) rfl rfl) <| za rfl <| zS rfl (aK (av := gV _ _ _) rfl) <| ai <| ac <| ac <| aa ?_;show AR _ _ _ _ _ [0, 1] _;refine zS rfl (af (av := gV _ _ _) rfl) <| zS rfl (kY dw rfl rfl) <| ai <| ax rfl (fun c9 => ?_) (fun c9 => ?_)
 ·replace H := aY c9 H;refine ac ?_;obtain ⟨g10, H⟩ := aW H;obtain ⟨g11, H⟩ := aW H;refine aa ?_;show AR _ _ _ _ _ [0, 1, 2, 3, 4, 5, 6, 7] _;refine zm rfl <| zm rfl <| zm rfl <| zm rfl <| zS rfl (af (av := gV _ _ _) rfl) <| am rfl rfl (aG rfl tv rfl (qy _ _ _ _ x7 (lc g10) (of_decide_eq_true g11)) ?_);refine za rfl <| zS rfl (aK (av := .ifc _ _) rfl) <| ai <| aJ ?_;obtain ⟨rfl, rfl⟩ := fB H;exact And.intro rfl (Exists.intro _ (Exists.intro _ ⟨bp rfl (.refl _) (.ifc _ _), aH [] rfl, rfl, rfl⟩))
 ·replace H := aZ c9 H;refine aB <| ac <| aa ?_;show AR _ _ _ _ _ [0, 1, 2] _;refine zm rfl <| za rfl <| za rfl <| ai <| aJ ?_;obtain ⟨rfl, rfl⟩ := fB H;exact And.intro rfl (Exists.intro _ (Exists.intro _ ⟨bp rfl (.refl _) (.refl _), aH [] rfl, rfl, rfl⟩))
end Go.Proofs.YteokdkimegepoaaGreatDoor
namespace Go.Pv
def gm (F : Nat) (a1 : Int) : Option Bool :=
bif (decide (0 ≤ a1)) && (decide (a1 < 55296)) then
  some true
else
  bif (decide (57343 < a1)) && (decide (a1 ≤ 1114111)) then
    some true
  else
    some false
def ju : Option Int :=
some (-1)
def dm (a1 : List UInt8) (rec11 : Nat → Option Int) (y10 : Nat) : Option Int :=
bif decide (y10 < a1.length) then
  grd (!(decide (((jK a1 y10).1 : Int) = 65533))) <|
  rec11 (y10 + (jK a1 y10).2)
else
  ju
def fv (a1 : List UInt8) (n : Nat) : Nat → Option Int :=
  loop (fun rec x => dm a1 rec x) n
def gg : Option Int :=
some (-1)
def fw (a1 : List UInt8) (x20 : List UInt8) (rec23 : Unit → Option Int) : Option Int :=
bif decide ((x20.length : Int) - 1 < (a1.length : Int)) then
  grd (cy ((x20.length : Int) - 1) a1.length) <|
  lt (at_ a1 ((x20.length : Int) - 1)) fun x27 =>
  grd (cy ((x20.length : Int) - 1) x20.length) <|
  lt (at_ x20 ((x20.length : Int) - 1)) fun x30 =>
  grd (!decide (x27 = x30)) <|
  grd (okI (((x20.length : Int) - 1) + 1)) <|
  grd (iW (((x20.length : Int) - 1) + 1) a1.length) <|
  lt (ez a1 (((x20.length : Int) - 1) + 1)) fun x35 =>
  grd (cy ((x20.length : Int) - 1) x20.length) <|
  lt (at_ x20 ((x20.length : Int) - 1)) fun x38 =>
  lt (Go.Lib.indexByte x35 x38) fun x40 =>
  grd (decide (x40 < 0)) <|
  some (-1)
else
  gg
def ie (a1 : List UInt8) (x20 : List UInt8) (n : Nat) : Unit → Option Int :=
  loop (fun rec x => fw a1 x20 rec) n
def fF (F : Nat) (a1 : List UInt8) (a2 : Int) : Option Int :=
bif (decide (0 ≤ a2)) && (decide (a2 < 128)) then
  lt (Go.Lib.indexByte a1 (Go.Av.toB a2)) fun x6 =>
  some x6
else
  bif decide (a2 = 65533) then
    fv a1 F 0
  else
    bnd (gm F a2) fun x17 =>
    bif !x17 then
      some (-1)
    else
      lt (ca a2) fun x20 =>
      grd (okI ((x20.length : Int) - 1)) <|
      ie a1 x20 F ()
def nG (F : Nat) (a1 : Int) : Option Bool :=
some (decide (8 < a1))
def fx (F : Nat) (a1 : List UInt8) (y11 : Int) : Option Int :=
bnd (fF F a1 y11) fun x13 =>
some x13
def gi : Option Int :=
some (-1)
def fA (F : Nat) (a1 : List UInt8) (a2 : List UInt8) (rec22 : Nat → Option Int) (y21 : Nat) : Option Int :=
bif decide (y21 < a1.length) then
  bnd (fF F a2 ((jK a1 y21).1 : Int)) fun x25 =>
  bif decide (0 ≤ x25) then
    some (y21 : Int)
  else
    rec22 (y21 + (jK a1 y21).2)
else
  gi
def fy (F : Nat) (a1 : List UInt8) (a2 : List UInt8) (n : Nat) : Nat → Option Int :=
  loop (fun rec x => fA F a1 a2 rec x) n
def gh (F : Nat) (a1 : List UInt8) (a2 : List UInt8) : Option Int :=
fy F a1 a2 F 0
def jH (F : Nat) (a1 : List UInt8) (a2 : List UInt8) : Option Int :=
bif decide (a2 = ([] : List UInt8)) then
  some (-1)
else
  bif decide ((a2.length : Int) = 1) then
    grd (cy 0 a2.length) <|
    lt (at_ a2 0) fun x7 =>
    grd (okJ (x7.toNat : Int)) <|
    bif decide (128 ≤ (x7.toNat : Int)) then
      fx F a1 65533
    else
      fx F a1 (x7.toNat : Int)
  else
    bnd (nG F (a1.length : Int)) fun x15 =>
    grd (!x15) <|
    gh F a1 a2
def ja (F : Nat) (s chars : List UInt8) : Option Int := bif decide (8 < s.length) && decide (2 ≤ chars.length) then some (Go.Lib.indexAny s chars) else jH F s chars
def eK (F : Nat) (a1 : List UInt8) (a2 : List UInt8) : Option Bool :=
grd (fP a2) <|
grd (okS a1.length) <|
grd (okS a2.length) <|
bnd (ja F a1 a2) fun x7 =>
some (decide (0 ≤ x7))
end Go.Pv
namespace Go.Proofs.YteokdkimegepoaaGreatDoor
open Go.RowKit Go.Av Go.Pv
theorem ra : ∀ (args : Array Value) (w : World), (callFunc 62 args).run Tryz.prog w = .ok (.enter 62 args) w := fun _ _ => by kernel_rfl
theorem pj : ∀ (args : Array Value) (w : World), (callFunc 105 args).run Tryz.prog w = .ok (.enter 105 args) w := fun _ _ => by kernel_rfl
theorem tC : ∀ (args : Array Value) (w : World), (callFunc 121 args).run Tryz.prog w = .ok (.enter 121 args) w := fun _ _ => by kernel_rfl
theorem tA : ∀ (args : Array Value) (w : World), (callFunc 133 args).run Tryz.prog w = .ok (.enter 133 args) w := fun _ _ => by kernel_rfl
theorem tx : ∀ (args : Array Value) (w : World), (callFunc 148 args).run Tryz.prog w = .ok (.enter 148 args) w := fun _ _ => by kernel_rfl
set_option maxRecDepth 100000 in
set_option maxHeartbeats 1000000 in
theorem qr (F : Nat) (a1 : Int) (r2 : Bool) (H : gm F a1 = some r2) : ACalls Tryz.prog 121 [.v (.int .i32 a1)] [] (Ret (B r2) []) := by
 unfold gm at H
 refine au Tryz.func121 rfl rfl ?_;show AW _ _ 17 _ _ _;refine ac <| aa ?_;show AR _ _ _ _ _ [0] _;refine za rfl <| ai <| ac <| aP <| ac <| aa ?_;show AR _ _ _ _ _ [0, 1, 2, 3, 4, 5, 6] _;refine zm rfl <| zS rfl (fk rfl rfl) <| zm rfl <| aX (l := [6]) 9 (B ((decide (0 ≤ a1)) && (decide (a1 < 55296)))) (fun K => ?_) ?_
 ·rcases ak (decide (0 ≤ a1)) with h3 | h3
  ·refine zM h3 rfl <| zU h3 rfl (bU rfl rfl) <| zS rfl (aE (av := .v _) rfl h3 rfl) ?_;exact K _ 2 _ (ay (cA h3)) rfl rfl
  ·refine zF h3 rfl <| zF h3 rfl <| zS rfl (aF (av := .v _) rfl h3 rfl) ?_;exact K _ 2 _ (ay (cB h3)) rfl rfl
 refine za rfl <| ai <| ax rfl (fun c4 => ?_) (fun c4 => ?_)
 ·replace H := aY c4 H;refine ac <| aa ?_;show AR _ _ _ _ _ [0] _;refine za rfl <| ai <| aJ ?_;obtain rfl := al H;exact And.intro rfl (Exists.intro _ (Exists.intro _ ⟨aC rfl (.refl _), aH [] rfl, rfl, rfl⟩))
 ·replace H := aZ c4 H;refine ac <| aa ?_;show AR _ _ _ _ _ [0, 1, 2, 3, 4, 5, 6] _;refine zm rfl <| zS rfl (bU rfl rfl) <| zm rfl <| aX (l := [6]) 16 (B ((decide (57343 < a1)) && (decide (a1 ≤ 1114111)))) (fun K => ?_) ?_
  ·rcases ak (decide (57343 < a1)) with h5 | h5
   ·refine zM h5 rfl <| zU h5 rfl (fk rfl rfl) <| zS rfl (aE (av := .v _) rfl h5 rfl) ?_;exact K _ 2 _ (ay (cA h5)) rfl rfl
   ·refine zF h5 rfl <| zF h5 rfl <| zS rfl (aF (av := .v _) rfl h5 rfl) ?_;exact K _ 2 _ (ay (cB h5)) rfl rfl
  refine za rfl <| ai <| ax rfl (fun c6 => ?_) (fun c6 => ?_)
  ·replace H := aY c6 H;refine ac <| aa ?_;show AR _ _ _ _ _ [0] _;refine za rfl <| ai <| aJ ?_;obtain rfl := al H;exact And.intro rfl (Exists.intro _ (Exists.intro _ ⟨aC rfl (.refl _), aH [] rfl, rfl, rfl⟩))
  ·replace H := aZ c6 H;refine aB <| ac <| aa ?_;show AR _ _ _ _ _ [0] _;refine za rfl <| ai <| aJ ?_;obtain rfl := al H;exact And.intro rfl (Exists.intro _ (Exists.intro _ ⟨aC rfl (.refl _), aH [] rfl, rfl, rfl⟩))
set_option maxRecDepth 100000 in
set_option maxHeartbeats 1000000 in
theorem oA (F : Nat) (a1 : List UInt8) (a2 : Int) (r3 : Int) (H : fF F a1 a2 = some r3) : ACalls Tryz.prog 105 [S a1, .v (.int .i32 a2)] [] (Ret (i64 r3) []) := by
 unfold fF at H
 refine au Tryz.func105 rfl rfl ?_;show AW _ _ 187 _ _ _;refine ac <| aa ?_;show AR _ _ _ _ _ [0] _;refine za rfl <| ai <| aP <| ac <| aa ?_;show AR _ _ _ _ _ [0, 1, 2, 3, 4, 5, 6] _;refine zm rfl <| zS rfl (fk rfl rfl) <| zm rfl <| aX (l := [6]) 166 (B ((decide (0 ≤ a2)) && (decide (a2 < 128)))) (fun K => ?_) ?_
 ·rcases ak (decide (0 ≤ a2)) with h4 | h4
  ·refine zM h4 rfl <| zU h4 rfl (bU rfl rfl) <| zS rfl (aE (av := .v _) rfl h4 rfl) ?_;exact K _ 2 _ (ay (cA h4)) rfl rfl
  ·refine zF h4 rfl <| zF h4 rfl <| zS rfl (aF (av := .v _) rfl h4 rfl) ?_;exact K _ 2 _ (ay (cB h4)) rfl rfl
 refine za rfl <| ai <| ax rfl (fun c5 => ?_) (fun c5 => ?_)
 ·replace H := aY c5 H;refine ac ?_;obtain ⟨x6, e7, H⟩ := bM H;refine aa ?_;show AR _ _ _ _ _ [0, 1, 2, 3, 4] _;refine zm rfl <| zm rfl <| zS rfl (nu (by kernel_rfl) cn rfl) <| am rfl rfl (aG rfl ra rfl (show ACalls _ _ _ [] (Ret (i64 x6) []) from by subst e7; exact dD a1 (Go.Av.toB a2)) ?_);refine za rfl <| ai <| aJ ?_;obtain rfl := al H;exact And.intro rfl (Exists.intro _ (Exists.intro _ ⟨aC rfl (.refl _), aH [] rfl, rfl, rfl⟩))
 ·replace H := aZ c5 H;refine ac <| aa ?_;show AR _ _ _ _ _ [0, 1, 2] _;refine zm rfl <| zS rfl (bW rfl rfl) <| za rfl <| ai <| ax rfl (fun c8 => ?_) (fun c8 => ?_)
  ·replace H := aY c8 H;refine bV (X := Unit) (fun _ => ⟨[], [], []⟩) (fun _ => ju = some r3) ?_ ?_
   ·refine ac <| aa ?_;show AR _ _ _ _ _ [0, 1] _;refine zm rfl <| zX rfl (kL ag rfl) ?_;rintro _ _ ⟨o9, rfl, rfl⟩;refine ai <| aP <| dp (X := Nat × Nat) (fun (n12, y10) => ⟨[(175, .pt o9 0)], [], [.iter o9 a1 y10]⟩) (fun (n12, y10) => fv a1 n12 y10 = some r3) (fun (n12, y10) => n12) (F, 0) H (bf [0] (.cons (.refl _) (.nil _)) rfl) ?_;rintro ⟨n12, y10⟩ H;obtain ⟨n12, rfl, H⟩ := eT H;replace H : dm a1 (fv a1 n12) y10 = some r3 := H
    unfold dm at H
    refine ac ?_
    rcases ak (decide (y10 < a1.length)) with c13 | c13
    ·replace H := aY c13 H;refine aa ?_;show AR _ _ _ _ _ [0, 1] _;refine zR rfl (qX (i := 0) rfl rfl c13) <| zS rfl (aI (av := .v _) rfl rfl) <| ai <| ac <| ax rfl (fun _ => ?_) (fun hx => cq rfl hx);refine aB <| aP <| ac <| aa ?_;show AR _ _ _ _ _ [0, 1, 2, 3] _;refine zS rfl (aI (av := .v _) rfl rfl) <| zS rfl (aI (av := .v _) rfl rfl) <| za rfl <| za rfl <| ai <| ac <| aa ?_;show AR _ _ _ _ _ [0, 1] _;refine zm rfl <| zS rfl (bW rfl rfl) <| ai ?_;obtain ⟨g15, H⟩ := aW H;replace g15 := fn g15;refine ax rfl (fun hx => cq hx g15) (fun _ => ?_);refine aB ?_;exact Exists.intro (n12, y10 + (jK a1 y10).2) ⟨H, Nat.lt_succ_self _, bf [0] (.cons (.refl _) (.nil _)) rfl⟩
    ·replace H := aZ c13 H;refine aa ?_;show AR _ _ _ _ _ [0, 1] _;refine zR rfl (qY (i := 0) rfl rfl c13) <| zS rfl (aI (av := .v _) rfl rfl) <| ai <| ac <| ax rfl (fun hx => cq hx rfl) (fun _ => ?_);refine cC ?_;exact Exists.intro () ⟨H, bf [] (.nil _) rfl⟩
   rintro _ H;replace H : ju = some r3 := H
   unfold ju at H
   refine ac <| aa ?_;show AR _ _ _ _ _ [0] _;refine za rfl <| ai <| aJ ?_;obtain rfl := al H;exact And.intro rfl (Exists.intro _ (Exists.intro _ ⟨aC rfl (.refl _), aH [] rfl, rfl, rfl⟩))
  ·replace H := aZ c8 H;refine ac ?_;obtain ⟨x17, e18, H⟩ := eD H;refine aa ?_;show AR _ _ _ _ _ [0, 1, 2, 3] _;refine zm rfl <| am rfl rfl (aG rfl tC rfl (qr F a2 x17 e18) ?_);refine zS rfl (ce rfl) <| za rfl <| ai <| ax rfl (fun c19 => ?_) (fun c19 => ?_)
   ·replace H := aY c19 H;refine ac <| aa ?_;show AR _ _ _ _ _ [0] _;refine za rfl <| ai <| aJ ?_;obtain rfl := al H;exact And.intro rfl (Exists.intro _ (Exists.intro _ ⟨aC rfl (.refl _), aH [] rfl, rfl, rfl⟩))
   ·replace H := aZ c19 H;refine AW.scope <| ac ?_;obtain ⟨x20, e21, H⟩ := bM H;refine aa ?_;show AR _ _ _ _ _ [0, 1, 2] _;refine zm rfl <| zS rfl (kX Tryz.underlying21 ag rfl e21) <| za rfl <| ai <| ac ?_;obtain ⟨g22, H⟩ := aW H;refine aa ?_;show AR _ _ _ _ _ [0, 1, 2, 3] _;refine zm rfl <| zS rfl (bu ag rfl) <| zS rfl (rf rfl rfl g22) <| za rfl <| ai <| ac <| aa ?_;show AR _ _ _ _ _ [0, 1] _;refine zm rfl <| za rfl <| ai <| ac <| aa ?_;show AR _ _ _ _ _ [0] _;refine za rfl <| ai <| bV (X := Unit) (fun _ => ⟨[], [], []⟩) (fun _ => gg = some r3) ?_ ?_
    ·refine aP <| dp (X := Nat) (fun n24 => ⟨[(0, S a1), (7, S x20), (8, i64 ((x20.length : Int) - 1)), (9, i64 ((x20.length : Int) - 1)), (10, i64 0)], [], []⟩) (fun n24 => ie a1 x20 n24 () = some r3) (fun n24 => n24) F H (bf [] (.cons (.refl _) (.cons (.refl _) (.cons (.refl _) (.cons (.refl _) (.cons (.refl _) (.nil _)))))) rfl) ?_;rintro n24 H;obtain ⟨n24, rfl, H⟩ := eT H;replace H : fw a1 x20 (ie a1 x20 n24) = some r3 := H
     unfold fw at H
     refine ac <| ac <| aa ?_;show AR _ _ _ _ _ [0, 1, 2, 3] _;refine zm rfl <| zm rfl <| zS rfl (bu ag rfl) <| zS rfl (bU rfl rfl) <| ai <| ax rfl (fun c25 => ?_) (fun c25 => ?_)
     ·replace H := aY c25 H;refine aB <| aP <| AW.scope <| ac <| ac ?_;obtain ⟨g26, H⟩ := aW H;obtain ⟨x27, e28, H⟩ := bM H;obtain ⟨g29, H⟩ := aW H;obtain ⟨x30, e31, H⟩ := bM H;refine bE (by kernel_rfl) ?_;show AI _ _ _ _ _ 7 (Array.replicate 7 false) _;refine zk 0 rfl (mv rfl) ?_;show AI _ _ _ _ _ _ #[true, false, false, false, false, false, false] _;refine zk 1 rfl (mv rfl) ?_;show AI _ _ _ _ _ _ #[true, true, false, false, false, false, false] _;refine zk 2 rfl (bj ag rfl rfl g26 e28) ?_;show AI _ _ _ _ _ _ #[true, true, true, false, false, false, false] _;refine zk 3 rfl (mv rfl) ?_;show AI _ _ _ _ _ _ #[true, true, true, true, false, false, false] _;refine zk 4 rfl (mv rfl) ?_;show AI _ _ _ _ _ _ #[true, true, true, true, true, false, false] _;refine zk 5 rfl (bj ag rfl rfl g29 e31) ?_;show AI _ _ _ _ _ _ #[true, true, true, true, true, true, false] _;refine zk 6 rfl (g_ne8 (a := x27) (b := x30) rfl rfl) ?_;show AI _ _ _ _ _ _ #[true, true, true, true, true, true, true] _;refine cl rfl ?_;obtain ⟨g44, H⟩ := aW H;refine ax rfl (fun _ => ?_) (fun hx => cq g44 hx);refine ac ?_;obtain ⟨g33, H⟩ := aW H;obtain ⟨g34, H⟩ := aW H;obtain ⟨x35, e36, H⟩ := bM H;obtain ⟨g37, H⟩ := aW H;obtain ⟨x38, e39, H⟩ := bM H;obtain ⟨x40, e41, H⟩ := bM H;refine bE (by kernel_rfl) ?_;show AI _ _ _ _ _ 9 (Array.replicate 9 false) _;refine zk 0 rfl (mv rfl) ?_;show AI _ _ _ _ _ _ #[true, false, false, false, false, false, false, false, false] _
      refine zk 1 rfl (mv rfl) ?_;show AI _ _ _ _ _ _ #[true, true, false, false, false, false, false, false, false] _;refine zk 2 rfl (fa rfl rfl g33) ?_;show AI _ _ _ _ _ _ #[true, true, true, false, false, false, false, false, false] _;refine zk 3 rfl (dE ag rfl rfl g34 e36) ?_;show AI _ _ _ _ _ _ #[true, true, true, true, false, false, false, false, false] _;refine zk 4 rfl (mv rfl) ?_;show AI _ _ _ _ _ _ #[true, true, true, true, true, false, false, false, false] _;refine zk 5 rfl (mv rfl) ?_;show AI _ _ _ _ _ _ #[true, true, true, true, true, true, false, false, false] _;refine zk 6 rfl (bj ag rfl rfl g37 e39) ?_;show AI _ _ _ _ _ _ #[true, true, true, true, true, true, true, false, false] _;refine bI (i := 7) (by kernel_rfl) rfl rfl <| AIO.callp rfl ra rfl (show ACalls _ _ _ [] (Ret (i64 x40) []) from by subst e41; exact dD x35 x38) ?_;show AI _ _ _ _ _ _ #[true, true, true, true, true, true, true, true, false] _;refine zk 8 rfl (asg rfl) ?_;show AI _ _ _ _ _ _ #[true, true, true, true, true, true, true, true, true] _;refine cl rfl <| ac <| ac <| aa ?_;show AR _ _ _ _ _ [0, 1] _;refine zm rfl <| zS rfl (bU rfl rfl) <| ai ?_;obtain ⟨g43, H⟩ := aW H;refine ax rfl (fun _ => ?_) (fun hx => cq g43 hx);refine ac <| aa ?_;show AR _ _ _ _ _ [0] _;refine za rfl <| ai <| aJ ?_;obtain rfl := al H;exact And.intro rfl (Exists.intro _ (Exists.intro _ ⟨aC rfl (.refl _), aH [] rfl, rfl, rfl⟩))
     ·replace H := aZ c25 H;refine cC ?_;exact Exists.intro () ⟨H, bf [] (.nil _) rfl⟩
    rintro _ H;replace H : gg = some r3 := H
    unfold gg at H
    refine ac <| ac <| aa ?_;show AR _ _ _ _ _ [0] _;refine za rfl <| ai <| aJ ?_;obtain rfl := al H;exact And.intro rfl (Exists.intro _ (Exists.intro _ ⟨aC rfl (.refl _), aH [] rfl, rfl, rfl⟩))
set_option maxRecDepth 100000 in
set_option maxHeartbeats 1000000 in
theorem w_useSet (F : Nat) (a1 : Int) (r2 : Bool) (H : nG F a1 = some r2) : ACalls Tryz.prog 148 [i64 a1] [] (Ret (B r2) []) := by
 unfold nG at H
 refine au Tryz.func148 rfl rfl ?_;show AW _ _ 5 _ _ _;refine ac <| aa ?_;show AR _ _ _ _ _ [0] _;refine za rfl <| ai <| ac <| aa ?_;show AR _ _ _ _ _ [0, 1, 2] _;refine zm rfl <| zS rfl (fZ rfl rfl) <| za rfl <| ai <| aJ ?_;obtain rfl := al H;exact And.intro rfl (Exists.intro _ (Exists.intro _ ⟨aC rfl (.refl _), aH [] rfl, rfl, rfl⟩))
set_option maxRecDepth 100000 in
set_option maxHeartbeats 1000000 in
theorem sE (F : Nat) (a1 : List UInt8) (a2 : List UInt8) (r3 : Int) (H : jH F a1 a2 = some r3) : ACalls Tryz.prog 133 [S a1, S a2] [] (Ret (i64 r3) []) := by
 unfold jH at H
 refine au Tryz.func133 rfl rfl ?_;show AW _ _ 55 _ _ _;refine ac <| aa ?_;show AR _ _ _ _ _ [0] _;refine za rfl <| ai <| ac <| ac <| aa ?_;show AR _ _ _ _ _ [0, 1] _;refine zm rfl <| zS rfl (eV rfl rfl) <| ai <| ax rfl (fun c4 => ?_) (fun c4 => ?_)
 ·replace H := aY c4 H;refine ac <| aa ?_;show AR _ _ _ _ _ [0] _;refine za rfl <| ai <| aJ ?_;obtain rfl := al H;exact And.intro rfl (Exists.intro _ (Exists.intro _ ⟨aC rfl (.refl _), aH [] rfl, rfl, rfl⟩))
 ·replace H := aZ c4 H;refine aB <| ac <| ac <| aa ?_;show AR _ _ _ _ _ [0, 1, 2] _;refine zm rfl <| zS rfl (bu ag rfl) <| zS rfl (bW rfl rfl) <| ai <| ax rfl (fun c5 => ?_) (fun c5 => ?_)
  ·replace H := aY c5 H;refine ac ?_;obtain ⟨g6, H⟩ := aW H;obtain ⟨x7, e8, H⟩ := bM H;obtain ⟨g9, H⟩ := aW H;refine aa ?_;show AR _ _ _ _ _ [0, 1, 2, 3] _;refine zm rfl <| zS rfl (bj ag rfl rfl g6 e8) <| zS rfl (oO (by kernel_rfl) Tryz.underlying21 rfl g9) <| za rfl <| ai <| bV (X := Int) (fun y11 => ⟨[(0, S a1), (5, .v (.int .i32 y11))], [], []⟩) (fun y11 => fx F a1 y11 = some r3) ?_ ?_
   ·refine ac <| aa ?_;show AR _ _ _ _ _ [0, 1] _;refine zm rfl <| zS rfl (eS rfl rfl) <| ai <| ax rfl (fun c10 => ?_) (fun c10 => ?_)
    ·replace H := aY c10 H;refine aa ?_;show AR _ _ _ _ _ [0] _;refine za rfl <| ai ?_;exact Exists.intro 65533 ⟨H, bf [] (.cons (.refl _) (.cons (.refl _) (.nil _))) rfl⟩
    ·replace H := aZ c10 H;refine aB ?_;exact Exists.intro (x7.toNat : Int) ⟨H, bf [] (.cons (.refl _) (.cons (.refl _) (.nil _))) rfl⟩
   rintro y11 H;replace H : fx F a1 y11 = some r3 := H
   unfold fx at H
   refine ac ?_;obtain ⟨x13, e14, H⟩ := eD H;refine aa ?_;show AR _ _ _ _ _ [0, 1, 2, 3] _;refine zm rfl <| zm rfl <| am rfl rfl (aG rfl pj rfl (oA F a1 y11 x13 e14) ?_);refine za rfl <| ai <| aJ ?_;obtain rfl := al H;exact And.intro rfl (Exists.intro _ (Exists.intro _ ⟨aC rfl (.refl _), aH [] rfl, rfl, rfl⟩))
  ·replace H := aZ c5 H;refine aB <| bV (X := Unit) (fun _ => ⟨[(0, S a1), (1, S a2)], [], []⟩) (fun _ => gh F a1 a2 = some r3) ?_ ?_
   ·refine ac ?_;obtain ⟨x15, e16, H⟩ := eD H;refine aa ?_;show AR _ _ _ _ _ [0, 1, 2] _;refine zm rfl <| zS rfl (bu ag rfl) <| am rfl rfl (aG rfl tx rfl (w_useSet F (a1.length : Int) x15 e16) ?_);refine ai ?_;obtain ⟨g18, H⟩ := aW H;replace g18 := fn g18;refine ax rfl (fun hx => cq hx g18) (fun _ => ?_);refine aB ?_;exact Exists.intro () ⟨H, bf [] (.cons (.refl _) (.cons (.refl _) (.nil _))) rfl⟩
   rintro _ H;replace H : gh F a1 a2 = some r3 := H
   unfold gh at H
   refine bV (X := Unit) (fun _ => ⟨[], [], []⟩) (fun _ => gi = some r3) ?_ ?_
   ·refine ac <| aa ?_;show AR _ _ _ _ _ [0, 1] _;refine zm rfl <| zX rfl (kL ag rfl) ?_;rintro _ _ ⟨o20, rfl, rfl⟩;refine ai <| aP <| dp (X := Nat × Nat) (fun (n23, y21) => ⟨[(1, S a2), (45, .pt o20 0)], [], [.iter o20 a1 y21]⟩) (fun (n23, y21) => fy F a1 a2 n23 y21 = some r3) (fun (n23, y21) => n23) (F, 0) H (bf [0] (.cons (.refl _) (.cons (.refl _) (.nil _))) rfl) ?_;rintro ⟨n23, y21⟩ H;obtain ⟨n23, rfl, H⟩ := eT H;replace H : fA F a1 a2 (fy F a1 a2 n23) y21 = some r3 := H
    unfold fA at H
    refine ac ?_
    rcases ak (decide (y21 < a1.length)) with c24 | c24
    ·replace H := aY c24 H;refine aa ?_;show AR _ _ _ _ _ [0, 1] _;refine zR rfl (qX (i := 0) rfl rfl c24) <| zS rfl (aI (av := .v _) rfl rfl) <| ai <| ac <| ax rfl (fun _ => ?_) (fun hx => cq rfl hx);refine aB <| aP <| ac <| aa ?_;show AR _ _ _ _ _ [0, 1, 2, 3] _;refine zS rfl (aI (av := .v _) rfl rfl) <| zS rfl (aI (av := .v _) rfl rfl) <| za rfl <| za rfl <| ai <| ac ?_;obtain ⟨x25, e26, H⟩ := eD H;refine aa ?_;show AR _ _ _ _ _ [0, 1, 2, 3] _;refine zm rfl <| zm rfl <| am rfl rfl (aG rfl pj rfl (oA F a2 ((jK a1 y21).1 : Int) x25 e26) ?_);refine zS rfl (eS rfl rfl) <| ai <| ax rfl (fun c27 => ?_) (fun c27 => ?_)
     ·replace H := aY c27 H;refine ac <| aa ?_;show AR _ _ _ _ _ [0, 1] _;refine zm rfl <| za rfl <| ai <| aJ ?_;obtain rfl := al H;exact And.intro rfl (Exists.intro _ (Exists.intro _ ⟨aC rfl (.refl _), aH [] rfl, rfl, rfl⟩))
     ·replace H := aZ c27 H;refine aB ?_;exact Exists.intro (n23, y21 + (jK a1 y21).2) ⟨H, Nat.lt_succ_self _, bf [0] (.cons (.refl _) (.cons (.refl _) (.nil _))) rfl⟩
    ·replace H := aZ c24 H;refine aa ?_;show AR _ _ _ _ _ [0, 1] _;refine zR rfl (qY (i := 0) rfl rfl c24) <| zS rfl (aI (av := .v _) rfl rfl) <| ai <| ac <| ax rfl (fun hx => cq hx rfl) (fun _ => ?_);refine cC ?_;exact Exists.intro () ⟨H, bf [] (.nil _) rfl⟩
   rintro _ H;replace H : gi = some r3 := H
   unfold gi at H
   refine ac <| aa ?_;show AR _ _ _ _ _ [0] _;refine za rfl <| ai <| aJ ?_;obtain rfl := al H;exact And.intro rfl (Exists.intro _ (Exists.intro _ ⟨aC rfl (.refl _), aH [] rfl, rfl, rfl⟩))
theorem ls (F : Nat) (s chars : List UInt8) (x : Int) (h1 : fP chars = true) (h2 : okS s.length = true) (h3 : okS chars.length = true) (H : ja F s chars = some x) : ACalls Tryz.prog 133 [S s, S chars] [] (Ret (i64 x) []) := by
 unfold ja at H
 cases hb : (decide (8 < s.length) && decide (2 ≤ chars.length)) with
 | true =>
  rw [hb] at H
  obtain rfl := al H
  simp only [Bool.and_eq_true, decide_eq_true_eq] at hb
  refine ee fun I A w vs hI hv => ?_
  obtain ⟨v1, r1, rfl, e1, hv⟩ := hv.out_cons;obtain ⟨v2, r2, rfl, e2, hv⟩ := hv.out_cons
  rw [hv.out_nil, gR e1, gR e2]
  refine (Tryz.strings_IndexAny_long (fun _ => by kernel_rfl) ⟨s.toArray⟩ ⟨chars.toArray⟩ w (by simpa [ByteArray.size] using hb.2) (by simpa [ByteArray.size] using hb.1) (by simpa [ByteArray.size] using lc h2) (by simpa [ByteArray.size] using lc h3) (fun j b hj => nF h1 j b (by simpa using hj))).mono fun e w' ⟨he, hw⟩ => ⟨by simpa using he, ?_⟩
  subst hw;exact ((Below.refl _ _).alloc (Nat.le_refl _) _).alloc (by simp) _
 | false => rw [hb] at H; exact sE F s chars x H
set_option maxRecDepth 100000 in
set_option maxHeartbeats 1000000 in
theorem nU (F : Nat) (a1 : List UInt8) (a2 : List UInt8) (r3 : Bool) (H : eK F a1 a2 = some r3) : ACalls Tryz.prog 158 [S a1, S a2] [] (Ret (B r3) []) := by
 unfold eK at H
 refine au Tryz.func158 rfl rfl ?_;show AW _ _ 9 _ _ _;refine ac <| aa ?_;show AR _ _ _ _ _ [0] _;refine za rfl <| ai <| ac ?_;obtain ⟨g4, H⟩ := aW H;obtain ⟨g5, H⟩ := aW H;obtain ⟨g6, H⟩ := aW H;obtain ⟨x7, e8, H⟩ := eD H;refine aa ?_;show AR _ _ _ _ _ [0, 1, 2, 3, 4] _;refine zm rfl <| zm rfl <| am rfl rfl (aG rfl tA rfl (ls F a1 a2 x7 g4 g5 g6 e8) ?_);refine zS rfl (eS rfl rfl) <| za rfl <| ai <| aJ ?_;obtain rfl := al H;exact And.intro rfl (Exists.intro _ (Exists.intro _ ⟨aC rfl (.refl _), aH [] rfl, rfl, rfl⟩))
end Go.Proofs.YteokdkimegepoaaGreatDoor
namespace Go.Pv
def fY (F : Nat) (a1 : Int) : Option ((List UInt8) × Bool) :=
iY (!(((decide (a1 = 9)) || (decide (a1 = 10))) || (decide (a1 = 13)))) (jb F a1 32 55295) fun x7 =>
iY ((!(((decide (a1 = 9)) || (decide (a1 = 10))) || (decide (a1 = 13)))) && (!x7)) (jb F a1 57344 65533) fun x10 =>
iY (((!(((decide (a1 = 9)) || (decide (a1 = 10))) || (decide (a1 = 13)))) && (!x7)) && (!x10)) (jb F a1 65536 1114111) fun x13 =>
bif (((!(((decide (a1 = 9)) || (decide (a1 = 10))) || (decide (a1 = 13)))) && (!x7)) && (!x10)) && (!x13) then
  some (([] : List UInt8), false)
else
  grd (okJ a1) <|
  lt (ca a1) fun x17 =>
  some (x17, true)
def hU (F : Nat) : Option ((List (List UInt8 × Int))) :=
some ([(([97, 109, 112] : List UInt8), 38), (([108, 116] : List UInt8), 60), (([103, 116] : List UInt8), 62), (([113, 117, 111, 116] : List UInt8), 34), (([97, 112, 111, 115] : List UInt8), 39)] : List (List UInt8 × Int))
def cS (F : Nat) (a1 : List UInt8) (a2 : Int) : Option ((List UInt8) × Bool) :=
eE (!(decide (a1 = ([] : List UInt8)))) (cy 0 a1.length) <|
lt (at_ a1 0) fun x7 =>
eE (!((decide (a1 = ([] : List UInt8))) || (decide (x7 = 43)))) (cy 0 a1.length) <|
lt (at_ a1 0) fun x11 =>
eE (!(((decide (a1 = ([] : List UInt8))) || (decide (x7 = 43))) || (decide (x11 = 45)))) (cy 0 a1.length) <|
lt (at_ a1 0) fun x15 =>
iY (!((((decide (a1 = ([] : List UInt8))) || (decide (x7 = 43))) || (decide (x11 = 45))) || (decide (x15 = 95)))) (eK F a1 ([95] : List UInt8)) fun x18 =>
bif ((((decide (a1 = ([] : List UInt8))) || (decide (x7 = 43))) || (decide (x11 = 45))) || (decide (x15 = 95))) || x18 then
  some (([] : List UInt8), false)
else
  gJ (cE F a1 a2 0) fun x21 x22 =>
  bif !decide (x22 = 0) then
    some (([] : List UInt8), false)
  else
    gJ (fY F x21) fun x25 x26 =>
    some (x25, x26)
def fq (F : Nat) (a1 : List UInt8) : Option ((List UInt8) × Bool) :=
bnd (hU F) fun x4 =>
bif Go.Av.mhas x4 a1 then
  lt (ca (Go.Av.mget x4 a1)) fun x7 =>
  some (x7, true)
else
  lt (Go.Lib.trimPrefix a1 ([35, 120] : List UInt8), Go.Lib.hasPrefix a1 ([35, 120] : List UInt8)) fun x9 =>
  bif x9.2 then
    gJ (cS F x9.1 16) fun x12 x13 =>
    some (x12, x13)
  else
    lt (Go.Lib.trimPrefix a1 ([35] : List UInt8), Go.Lib.hasPrefix a1 ([35] : List UInt8)) fun x15 =>
    bif x15.2 then
      gJ (cS F x15.1 10) fun x18 x19 =>
      some (x18, x19)
    else
      some (([] : List UInt8), false)
def gl (F : Nat) (a1 : List UInt8) : Option ((List UInt8) × Int) :=
grd (iW 1 a1.length) <|
lt (ez a1 1) fun x5 =>
grd (fP ([38, 59] : List UInt8)) <|
grd (okS x5.length) <|
grd (okS ([38, 59] : List UInt8).length) <|
bnd (ja F x5 ([38, 59] : List UInt8)) fun x10 =>
bnd (jb F x10 1 10) fun x12 =>
eE (!(!x12)) (okI (x10 + 1)) <|
eE (!(!x12)) (cy (x10 + 1) a1.length) <|
lt (at_ a1 (x10 + 1)) fun x17 =>
bif (!x12) || (decide (x17 = 38)) then
  some (([] : List UInt8), 0)
else
  grd (okI (x10 + 1)) <|
  grd (pM 1 (x10 + 1) a1.length) <|
  lt (sub a1 1 (x10 + 1)) fun x22 =>
  gJ (fq F x22) fun x24 x25 =>
  bif !x25 then
    some (([] : List UInt8), 0)
  else
    grd (okI (x10 + 2)) <|
    some (x24, x10 + 2)
def fI (rec11 : ((List UInt8) × Bool × (List UInt8)) → Option ((List UInt8) × Bool)) (x25 : List UInt8) (x29 : List UInt8) (y35 : Bool) (y36 : List UInt8) (y37 : Int) : Option ((List UInt8) × Bool) :=
grd (okW x25 y36) <|
lt (x25 ++ y36) fun x40 =>
grd (iW y37 x29.length) <|
lt (ez x29 y37) fun x44 =>
rec11 (x44, y35, x40)
def gC (F : Nat) (rec11 : ((List UInt8) × Bool × (List UInt8)) → Option ((List UInt8) × Bool)) (y6 : List UInt8) (y7 : Bool) (y9 : List UInt8) : Option ((List UInt8) × Bool) :=
lt (Go.Lib.indexByte y6 38) fun x13 =>
bif decide (x13 < 0) then
  grd (okW y9 y6) <|
  lt (y9 ++ y6) fun x17 =>
  grd (okW x17 []) <|
  some (x17, y7)
else
  grd (iW x13 y6.length) <|
  lt (to_ y6 x13) fun x22 =>
  grd (okW y9 x22) <|
  lt (y9 ++ x22) fun x25 =>
  grd (iW x13 y6.length) <|
  lt (ez y6 x13) fun x29 =>
  gJ (gl F x29) fun x31 x32 =>
  bif decide (x32 = 0) then
    fI rec11 x25 x29 false ([38] : List UInt8) 1
  else
    fI rec11 x25 x29 y7 x31 x32
def eH (F : Nat) (n : Nat) : ((List UInt8) × Bool × (List UInt8)) → Option ((List UInt8) × Bool) :=
  loop (fun rec x => gC F rec x.1 x.2.1 x.2.2) n
def lJ (F : Nat) (a1 : List UInt8) : Option ((List UInt8) × Bool) :=
eH F F (a1, true, [])
def ig (F : Nat) (a1 : List UInt8) : Option ((List UInt8) × Int) :=
gJ (lJ F a1) fun x4 x5 =>
bif !x5 then
  some (([] : List UInt8), 2)
else
  some (x4, 0)
end Go.Pv
namespace Go.Proofs.YteokdkimegepoaaGreatDoor
open Go.RowKit Go.Av Go.Pv
theorem mc : ∀ (args : Array Value) (w : World), (callFunc 28 args).run Tryz.prog w = .ok (.enter 28 args) w := fun _ _ => by kernel_rfl
theorem tk : ∀ (args : Array Value) (w : World), (callFunc 30 args).run Tryz.prog w = .ok (.enter 30 args) w := fun _ _ => by kernel_rfl
theorem tf : ∀ (args : Array Value) (w : World), (callFunc 62 args).run Tryz.prog w = .ok (.enter 62 args) w := fun _ _ => by kernel_rfl
theorem oU : ∀ (args : Array Value) (w : World), (callFunc 93 args).run Tryz.prog w = .ok (.enter 93 args) w := fun _ _ => by kernel_rfl
theorem rT : ∀ (args : Array Value) (w : World), (callFunc 108 args).run Tryz.prog w = .ok (.enter 108 args) w := fun _ _ => by kernel_rfl
theorem rS : ∀ (args : Array Value) (w : World), (callFunc 122 args).run Tryz.prog w = .ok (.enter 122 args) w := fun _ _ => by kernel_rfl
theorem rR : ∀ (args : Array Value) (w : World), (callFunc 133 args).run Tryz.prog w = .ok (.enter 133 args) w := fun _ _ => by kernel_rfl
theorem jx : ∀ (args : Array Value) (w : World), (callFunc 134 args).run Tryz.prog w = .ok (.enter 134 args) w := fun _ _ => by kernel_rfl
theorem rQ : ∀ (args : Array Value) (w : World), (callFunc 135 args).run Tryz.prog w = .ok (.enter 135 args) w := fun _ _ => by kernel_rfl
theorem rP : ∀ (args : Array Value) (w : World), (callFunc 149 args).run Tryz.prog w = .ok (.enter 149 args) w := fun _ _ => by kernel_rfl
theorem nw : ∀ (args : Array Value) (w : World), (callFunc 150 args).run Tryz.prog w = .ok (.enter 150 args) w := fun _ _ => by kernel_rfl
theorem rO : ∀ (args : Array Value) (w : World), (callFunc 158 args).run Tryz.prog w = .ok (.enter 158 args) w := fun _ _ => by kernel_rfl
theorem rN : ∀ (args : Array Value) (w : World), (callFunc 159 args).run Tryz.prog w = .ok (.enter 159 args) w := fun _ _ => by kernel_rfl
theorem rM : ∀ (args : Array Value) (w : World), (callFunc 160 args).run Tryz.prog w = .ok (.enter 160 args) w := fun _ _ => by kernel_rfl
set_option maxRecDepth 100000 in
set_option maxHeartbeats 1000000 in
theorem rr (F : Nat) (a1 : Int) (r2 : List UInt8) (r3 : Bool) (H : fY F a1 = some (r2, r3)) : ACalls Tryz.prog 160 [i64 a1] [] (Ret (.tup [S r2, B r3]) []) := by
 unfold fY at H
 refine au Tryz.func160 rfl rfl ?_;show AW _ _ 35 _ _ _;refine ac <| aa ?_;show AR _ _ _ _ _ [0, 1] _;refine za rfl <| za rfl <| ai <| ac <| aa ?_;show AR _ _ _ _ _ [0, 1, 2, 3, 4, 5, 6, 7, 8, 9, 10] _;refine zm rfl <| zS rfl (bW rfl rfl) <| zm rfl <| aX (l := [6, 7, 8, 9, 10]) 10 (B ((decide (a1 = 9)) || (decide (a1 = 10)))) (fun K => ?_) ?_
 ·rcases ak (decide (a1 = 9)) with h4 | h4
  ·refine zF h4 rfl <| zF h4 rfl <| zS rfl (aE (av := .v _) rfl h4 rfl) ?_;exact K _ 2 _ (ay (jI h4)) rfl rfl
  ·refine zM h4 rfl <| zU h4 rfl (bW rfl rfl) <| zS rfl (aF (av := .v _) rfl h4 rfl) ?_;exact K _ 2 _ (ay (jJ h4)) rfl rfl
 refine zm rfl <| aX (l := [10]) 14 (B (((decide (a1 = 9)) || (decide (a1 = 10))) || (decide (a1 = 13)))) (fun K => ?_) ?_
 ·rcases ak ((decide (a1 = 9)) || (decide (a1 = 10))) with h5 | h5
  ·refine zF h5 rfl <| zF h5 rfl <| zS rfl (aE (av := .v _) rfl h5 rfl) ?_;exact K _ 2 _ (ay (jI h5)) rfl rfl
  ·refine zM h5 rfl <| zU h5 rfl (bW rfl rfl) <| zS rfl (aF (av := .v _) rfl h5 rfl) ?_;exact K _ 2 _ (ay (jJ h5)) rfl rfl
 refine za rfl <| ai <| ac <| ac ?_;obtain ⟨x7, e8, H⟩ := eC H;obtain ⟨x10, e11, H⟩ := eC H;obtain ⟨x13, e14, H⟩ := eC H;refine aa ?_;show AR _ _ _ _ _ [0, 1, 2, 3, 4, 5, 6, 7, 8, 9, 10, 11, 12, 13, 14, 15, 16] _;refine zm rfl <| zS rfl (ce rfl) <| zm rfl <| aX (l := [7, 8, 9, 10, 11, 12, 13, 14, 15, 16]) 21 (B ((!(((decide (a1 = 9)) || (decide (a1 = 10))) || (decide (a1 = 13)))) && (!x7))) (fun K => ?_) ?_
 ·rcases ak (!(((decide (a1 = 9)) || (decide (a1 = 10))) || (decide (a1 = 13)))) with h6 | h6
  ·refine zM h6 rfl <| zT h6 rfl (aG rfl jx rfl (lA F a1 32 55295 x7 (e8 h6)) ?_);refine zU h6 rfl (ce rfl) <| zS rfl (aE (av := .v _) rfl h6 rfl) ?_;exact K _ 3 _ (ay (cA h6)) rfl rfl
  ·refine zF h6 rfl <| zF h6 rfl <| zF h6 rfl <| zS rfl (aF (av := .v _) rfl h6 rfl) ?_;exact K _ 3 _ (ay (cB h6)) rfl rfl
 refine zm rfl <| aX (l := [12, 13, 14, 15, 16]) 26 (B (((!(((decide (a1 = 9)) || (decide (a1 = 10))) || (decide (a1 = 13)))) && (!x7)) && (!x10))) (fun K => ?_) ?_
 ·rcases ak ((!(((decide (a1 = 9)) || (decide (a1 = 10))) || (decide (a1 = 13)))) && (!x7)) with h9 | h9
  ·refine zM h9 rfl <| zT h9 rfl (aG rfl jx rfl (lA F a1 57344 65533 x10 (e11 h9)) ?_);refine zU h9 rfl (ce rfl) <| zS rfl (aE (av := .v _) rfl h9 rfl) ?_;exact K _ 3 _ (ay (cA h9)) rfl rfl
  ·refine zF h9 rfl <| zF h9 rfl <| zF h9 rfl <| zS rfl (aF (av := .v _) rfl h9 rfl) ?_;exact K _ 3 _ (ay (cB h9)) rfl rfl
 refine zm rfl <| aX (l := []) 31 (B ((((!(((decide (a1 = 9)) || (decide (a1 = 10))) || (decide (a1 = 13)))) && (!x7)) && (!x10)) && (!x13))) (fun K => ?_) ?_
 ·rcases ak (((!(((decide (a1 = 9)) || (decide (a1 = 10))) || (decide (a1 = 13)))) && (!x7)) && (!x10)) with h12 | h12
  ·refine zM h12 rfl <| zT h12 rfl (aG rfl jx rfl (lA F a1 65536 1114111 x13 (e14 h12)) ?_);refine zU h12 rfl (ce rfl) <| zS rfl (aE (av := .v _) rfl h12 rfl) ?_;exact K _ 3 _ (ay (cA h12)) rfl rfl
  ·refine zF h12 rfl <| zF h12 rfl <| zF h12 rfl <| zS rfl (aF (av := .v _) rfl h12 rfl) ?_;exact K _ 3 _ (ay (cB h12)) rfl rfl
 refine ai <| ax rfl (fun c15 => ?_) (fun c15 => ?_)
 ·replace H := aY c15 H;refine ac <| aa ?_;show AR _ _ _ _ _ [0, 1] _;refine za rfl <| za rfl <| ai <| aJ ?_;obtain ⟨rfl, rfl⟩ := fB H;exact And.intro rfl (Exists.intro _ (Exists.intro _ ⟨bp rfl (.refl _) (.refl _), aH [] rfl, rfl, rfl⟩))
 ·replace H := aZ c15 H;refine aB <| ac ?_;obtain ⟨g16, H⟩ := aW H;obtain ⟨x17, e18, H⟩ := bM H;refine aa ?_;show AR _ _ _ _ _ [0, 1, 2, 3, 4] _;refine zm rfl <| zS rfl (oO (by kernel_rfl) Tryz.underlying21 rfl g16) <| zS rfl (kX Tryz.underlying21 ag rfl e18) <| za rfl <| za rfl <| ai <| aJ ?_;obtain ⟨rfl, rfl⟩ := fB H;exact And.intro rfl (Exists.intro _ (Exists.intro _ ⟨bp rfl (.refl _) (.refl _), aH [] rfl, rfl, rfl⟩))
abbrev _root_.Go.Av.dk := @Tryz.underlying181
set_option maxRecDepth 100000 in
set_option maxHeartbeats 1000000 in
theorem qo (F : Nat) (r1 : List (List UInt8 × Int)) (H : hU F = some r1) : ACalls Tryz.prog 149 [] [] (Ret (mpI .i32 r1) []) := by
 unfold hU at H
 refine au Tryz.func149 rfl rfl ?_;show AW _ _ 3 _ _ _;refine ac <| aa ?_;show AR _ _ _ _ _ [0] _;refine za rfl <| ai <| ac <| aa ?_;show AR _ _ _ _ _ [0, 1, 2, 3, 4, 5, 6, 7] _;refine AM.make (k := .i32) rfl rfl <| AM.insert (s := ([97, 109, 112] : List UInt8)) rfl dk ag rfl (by decide) <| AM.insert (s := ([108, 116] : List UInt8)) rfl dk ag rfl (by decide) <| AM.insert (s := ([103, 116] : List UInt8)) rfl dk ag rfl (by decide) <| AM.insert (s := ([113, 117, 111, 116] : List UInt8)) rfl dk ag rfl (by decide) <| AM.insert (s := ([97, 112, 111, 115] : List UInt8)) rfl dk ag rfl (by decide) <| AM.done (es := ([(([97, 109, 112] : List UInt8), 38), (([108, 116] : List UInt8), 60), (([103, 116] : List UInt8), 62), (([113, 117, 111, 116] : List UInt8), 34), (([97, 112, 111, 115] : List UInt8), 39)] : List (List UInt8 × Int))) <| zS rfl (af (av := mpI _ _) rfl) <| zS rfl (aK (av := mpI _ _) rfl) <| ai <| aJ ?_;obtain rfl := al H;exact And.intro rfl (Exists.intro _ (Exists.intro _ ⟨aC rfl (.refl _), aH [] rfl, rfl, rfl⟩))
set_option maxRecDepth 100000 in
set_option maxHeartbeats 1000000 in
theorem ll (F : Nat) (a1 : List UInt8) (a2 : Int) (r3 : List UInt8) (r4 : Bool) (H : cS F a1 a2 = some (r3, r4)) : ACalls Tryz.prog 150 [S a1, i64 a2] [] (Ret (.tup [S r3, B r4]) []) := by
 unfold cS at H
 refine au Tryz.func150 rfl rfl ?_;show AW _ _ 41 _ _ _;refine ac <| aa ?_;show AR _ _ _ _ _ [0, 1] _;refine za rfl <| za rfl <| ai <| ac <| ac ?_;obtain ⟨g6, H⟩ := cz H;obtain ⟨x7, e8, H⟩ := bM H;obtain ⟨g10, H⟩ := cz H;obtain ⟨x11, e12, H⟩ := bM H;obtain ⟨g14, H⟩ := cz H;obtain ⟨x15, e16, H⟩ := bM H;obtain ⟨x18, e19, H⟩ := eC H;refine aa ?_;show AR _ _ _ _ _ [0, 1, 2, 3, 4, 5, 6, 7, 8, 9, 10, 11, 12, 13, 14, 15, 16, 17, 18, 19, 20] _;refine zm rfl <| zS rfl (eV rfl rfl) <| zm rfl <| aX (l := [7, 8, 9, 10, 11, 12, 13, 14, 15, 16, 17, 18, 19, 20]) 14 (B ((decide (a1 = ([] : List UInt8))) || (decide (x7 = 43)))) (fun K => ?_) ?_
 ·rcases ak (decide (a1 = ([] : List UInt8))) with h5 | h5
  ·refine zF h5 rfl <| zF h5 rfl <| zF h5 rfl <| zS rfl (aE (av := .v _) rfl h5 rfl) ?_;exact K _ 3 _ (ay (jI h5)) rfl rfl
  ·refine zM h5 rfl <| zU h5 rfl (bj ag rfl rfl (g6 (nf h5)) e8) <| zU h5 rfl (ij (a := x7) (b := 43) rfl rfl) <| zS rfl (aF (av := .v _) rfl h5 rfl) ?_;exact K _ 3 _ (ay (jJ h5)) rfl rfl
 refine zm rfl <| aX (l := [12, 13, 14, 15, 16, 17, 18, 19, 20]) 19 (B (((decide (a1 = ([] : List UInt8))) || (decide (x7 = 43))) || (decide (x11 = 45)))) (fun K => ?_) ?_
 ·rcases ak ((decide (a1 = ([] : List UInt8))) || (decide (x7 = 43))) with h9 | h9
  ·refine zF h9 rfl <| zF h9 rfl <| zF h9 rfl <| zS rfl (aE (av := .v _) rfl h9 rfl) ?_;exact K _ 3 _ (ay (jI h9)) rfl rfl
  ·refine zM h9 rfl <| zU h9 rfl (bj ag rfl rfl (g10 (nf h9)) e12) <| zU h9 rfl (ij (a := x11) (b := 45) rfl rfl) <| zS rfl (aF (av := .v _) rfl h9 rfl) ?_;exact K _ 3 _ (ay (jJ h9)) rfl rfl
 refine zm rfl <| aX (l := [17, 18, 19, 20]) 24 (B ((((decide (a1 = ([] : List UInt8))) || (decide (x7 = 43))) || (decide (x11 = 45))) || (decide (x15 = 95)))) (fun K => ?_) ?_
 ·rcases ak (((decide (a1 = ([] : List UInt8))) || (decide (x7 = 43))) || (decide (x11 = 45))) with h13 | h13
  ·refine zF h13 rfl <| zF h13 rfl <| zF h13 rfl <| zS rfl (aE (av := .v _) rfl h13 rfl) ?_;exact K _ 3 _ (ay (jI h13)) rfl rfl
  ·refine zM h13 rfl <| zU h13 rfl (bj ag rfl rfl (g14 (nf h13)) e16) <| zU h13 rfl (ij (a := x15) (b := 95) rfl rfl) <| zS rfl (aF (av := .v _) rfl h13 rfl) ?_;exact K _ 3 _ (ay (jJ h13)) rfl rfl
 refine zm rfl <| aX (l := []) 28 (B (((((decide (a1 = ([] : List UInt8))) || (decide (x7 = 43))) || (decide (x11 = 45))) || (decide (x15 = 95))) || x18)) (fun K => ?_) ?_
 ·rcases ak ((((decide (a1 = ([] : List UInt8))) || (decide (x7 = 43))) || (decide (x11 = 45))) || (decide (x15 = 95))) with h17 | h17
  ·refine zF h17 rfl <| zF h17 rfl <| zS rfl (aE (av := .v _) rfl h17 rfl) ?_;exact K _ 2 _ (ay (jI h17)) rfl rfl
  ·refine zM h17 rfl <| zT h17 rfl (aG rfl rO rfl (nU F a1 ([95] : List UInt8) x18 (e19 (nf h17))) ?_);refine zS rfl (aF (av := .v _) rfl h17 rfl) ?_;exact K _ 2 _ (ay (jJ h17)) rfl rfl
 refine ai <| ax rfl (fun c20 => ?_) (fun c20 => ?_)
 ·replace H := aY c20 H;refine ac <| aa ?_;show AR _ _ _ _ _ [0, 1] _;refine za rfl <| za rfl <| ai <| aJ ?_;obtain ⟨rfl, rfl⟩ := fB H;exact And.intro rfl (Exists.intro _ (Exists.intro _ ⟨bp rfl (.refl _) (.refl _), aH [] rfl, rfl, rfl⟩))
 ·replace H := aZ c20 H;refine aB <| ac ?_;obtain ⟨x21, x22, e23, H⟩ := cT H;refine aa ?_;show AR _ _ _ _ _ [0, 1, 2, 3, 4, 5, 6, 7] _;refine zm rfl <| zm rfl <| am rfl rfl (aG rfl rN rfl (kQ F a1 a2 0 x21 x22 e23) ?_);refine zS rfl (af (av := .tup _) rfl) <| zS rfl (aI (av := .v _) rfl rfl) <| zS rfl (aI (av := eAny _ _) rfl rfl) <| za rfl <| zS rfl (aK (av := eAny _ _) rfl) <| ai <| ac <| ac <| aa ?_;show AR _ _ _ _ _ [0, 1] _;refine zS rfl (af (av := eAny _ _) rfl) <| zS rfl (rG dw rfl rfl) <| ai <| ax rfl (fun c24 => ?_) (fun c24 => ?_)
  ·replace H := aY c24 H;refine ac <| aa ?_;show AR _ _ _ _ _ [0, 1] _;refine za rfl <| za rfl <| ai <| aJ ?_;obtain ⟨rfl, rfl⟩ := fB H;exact And.intro rfl (Exists.intro _ (Exists.intro _ ⟨bp rfl (.refl _) (.refl _), aH [] rfl, rfl, rfl⟩))
  ·replace H := aZ c24 H;refine aB <| ac ?_;obtain ⟨x25, x26, e27, H⟩ := cT H;refine aa ?_;show AR _ _ _ _ _ [0, 1, 2, 3, 4, 5] _;refine zm rfl <| am rfl rfl (aG rfl rM rfl (rr F x21 x25 x26 e27) ?_);refine zS rfl (aI (av := .v _) rfl rfl) <| zS rfl (aI (av := .v _) rfl rfl) <| za rfl <| za rfl <| ai <| aJ ?_;obtain ⟨rfl, rfl⟩ := fB H;exact And.intro rfl (Exists.intro _ (Exists.intro _ ⟨bp rfl (.refl _) (.refl _), aH [] rfl, rfl, rfl⟩))
set_option maxRecDepth 100000 in
set_option maxHeartbeats 1000000 in
theorem rn (F : Nat) (a1 : List UInt8) (r2 : List UInt8) (r3 : Bool) (H : fq F a1 = some (r2, r3)) : ACalls Tryz.prog 135 [S a1] [] (Ret (.tup [S r2, B r3]) []) := by
 unfold fq at H
 refine au Tryz.func135 rfl rfl ?_;show AW _ _ 39 _ _ _;refine ac <| aa ?_;show AR _ _ _ _ _ [0, 1] _;refine za rfl <| za rfl <| ai <| ac <| ac ?_;obtain ⟨x4, e5, H⟩ := eD H;refine aa ?_;show AR _ _ _ _ _ [0, 1, 2, 3, 4, 5, 6, 7] _;refine am rfl rfl (aG rfl rP rfl (qo F x4 e5) ?_);refine zm rfl <| zS rfl (sO dk ag (fun _ => by kernel_rfl) rfl rfl) <| zS rfl (af (av := .tup _) rfl) <| zS rfl (aI (av := .v _) rfl rfl) <| zS rfl (aI (av := .v _) rfl rfl) <| za rfl <| za rfl <| ai <| ac <| aa ?_;show AR _ _ _ _ _ [0] _;refine zm rfl <| ai <| ax rfl (fun c6 => ?_) (fun c6 => ?_)
 ·replace H := aY c6 H;refine ac ?_;obtain ⟨x7, e8, H⟩ := bM H;refine aa ?_;show AR _ _ _ _ _ [0, 1, 2, 3] _;refine zm rfl <| zS rfl (kX Tryz.underlying21 ag rfl e8) <| za rfl <| za rfl <| ai <| aJ ?_;obtain ⟨rfl, rfl⟩ := fB H;exact And.intro rfl (Exists.intro _ (Exists.intro _ ⟨bp rfl (.refl _) (.refl _), aH [] rfl, rfl, rfl⟩))
 ·replace H := aZ c6 H;refine aB <| ac <| ac ?_;obtain ⟨x9, e10, H⟩ := bM H;refine aa ?_;show AR _ _ _ _ _ [0, 1, 2, 3, 4, 5, 6] _;refine zm rfl <| am rfl rfl (aG rfl oU rfl (show ACalls _ _ _ [] (Ret (.tup [S x9.1, B x9.2]) []) from by subst e10; exact iH a1 ([35, 120] : List UInt8)) ?_);refine zS rfl (af (av := .tup _) rfl) <| zS rfl (aI (av := .v _) rfl rfl) <| zS rfl (aI (av := .v _) rfl rfl) <| za rfl <| za rfl <| ai <| ac <| aa ?_;show AR _ _ _ _ _ [0] _;refine zm rfl <| ai <| ax rfl (fun c11 => ?_) (fun c11 => ?_)
  ·replace H := aY c11 H;refine ac ?_;obtain ⟨x12, x13, e14, H⟩ := cT H;refine aa ?_;show AR _ _ _ _ _ [0, 1, 2, 3, 4, 5] _;refine zm rfl <| am rfl rfl (aG rfl nw rfl (ll F x9.1 16 x12 x13 e14) ?_);refine zS rfl (aI (av := .v _) rfl rfl) <| zS rfl (aI (av := .v _) rfl rfl) <| za rfl <| za rfl <| ai <| aJ ?_;obtain ⟨rfl, rfl⟩ := fB H;exact And.intro rfl (Exists.intro _ (Exists.intro _ ⟨bp rfl (.refl _) (.refl _), aH [] rfl, rfl, rfl⟩))
  ·replace H := aZ c11 H;refine aB <| ac <| ac ?_;obtain ⟨x15, e16, H⟩ := bM H;refine aa ?_;show AR _ _ _ _ _ [0, 1, 2, 3, 4, 5, 6] _;refine zm rfl <| am rfl rfl (aG rfl oU rfl (show ACalls _ _ _ [] (Ret (.tup [S x15.1, B x15.2]) []) from by subst e16; exact iH a1 ([35] : List UInt8)) ?_);refine zS rfl (af (av := .tup _) rfl) <| zS rfl (aI (av := .v _) rfl rfl) <| zS rfl (aI (av := .v _) rfl rfl) <| za rfl <| za rfl <| ai <| ac <| aa ?_;show AR _ _ _ _ _ [0] _;refine zm rfl <| ai <| ax rfl (fun c17 => ?_) (fun c17 => ?_)
   ·replace H := aY c17 H;refine ac ?_;obtain ⟨x18, x19, e20, H⟩ := cT H;refine aa ?_;show AR _ _ _ _ _ [0, 1, 2, 3, 4, 5] _;refine zm rfl <| am rfl rfl (aG rfl nw rfl (ll F x15.1 10 x18 x19 e20) ?_);refine zS rfl (aI (av := .v _) rfl rfl) <| zS rfl (aI (av := .v _) rfl rfl) <| za rfl <| za rfl <| ai <| aJ ?_;obtain ⟨rfl, rfl⟩ := fB H;exact And.intro rfl (Exists.intro _ (Exists.intro _ ⟨bp rfl (.refl _) (.refl _), aH [] rfl, rfl, rfl⟩))
   ·replace H := aZ c17 H;refine aB <| ac <| aa ?_;show AR _ _ _ _ _ [0, 1] _;refine za rfl <| za rfl <| ai <| aJ ?_;obtain ⟨rfl, rfl⟩ := fB H;exact And.intro rfl (Exists.intro _ (Exists.intro _ ⟨bp rfl (.refl _) (.refl _), aH [] rfl, rfl, rfl⟩))
set_option maxRecDepth 100000 in
set_option maxHeartbeats 1000000 in
theorem qp (F : Nat) (a1 : List UInt8) (r2 : List UInt8) (r3 : Int) (H : gl F a1 = some (r2, r3)) : ACalls Tryz.prog 122 [S a1] [] (Ret (.tup [S r2, i64 r3]) []) := by
 unfold gl at H
 refine au Tryz.func122 rfl rfl ?_;show AW _ _ 33 _ _ _;refine ac <| aa ?_;show AR _ _ _ _ _ [0, 1] _;refine za rfl <| za rfl <| ai <| ac ?_;obtain ⟨g4, H⟩ := aW H;obtain ⟨x5, e6, H⟩ := bM H;obtain ⟨g7, H⟩ := aW H;obtain ⟨g8, H⟩ := aW H;obtain ⟨g9, H⟩ := aW H;obtain ⟨x10, e11, H⟩ := eD H;refine aa ?_;show AR _ _ _ _ _ [0, 1, 2, 3] _;refine zm rfl <| zS rfl (dE ag rfl rfl g4 e6) <| am rfl rfl (aG rfl rR rfl (ls F x5 ([38, 59] : List UInt8) x10 g7 g8 g9 e11) ?_);refine za rfl <| ai <| ac <| ac ?_;obtain ⟨x12, e13, H⟩ := eD H;obtain ⟨g15, H⟩ := cz H;obtain ⟨g16, H⟩ := cz H;obtain ⟨x17, e18, H⟩ := bM H;refine aa ?_;show AR _ _ _ _ _ [0, 1, 2, 3, 4, 5, 6, 7, 8, 9] _;refine zm rfl <| am rfl rfl (aG rfl jx rfl (lA F x10 1 10 x12 e13) ?_);refine zS rfl (ce rfl) <| zm rfl <| aX (l := []) 19 (B ((!x12) || (decide (x17 = 38)))) (fun K => ?_) ?_
 ·rcases ak (!x12) with h14 | h14
  ·refine zF h14 rfl <| zF h14 rfl <| zF h14 rfl <| zF h14 rfl <| zF h14 rfl <| zS rfl (aE (av := .v _) rfl h14 rfl) ?_;exact K _ 5 _ (ay (jI h14)) rfl rfl
  ·refine zM h14 rfl <| zM h14 rfl <| zU h14 rfl (fa rfl rfl (g15 (nf h14))) <| zU h14 rfl (bj ag rfl rfl (g16 (nf h14)) e18) <| zU h14 rfl (ij (a := x17) (b := 38) rfl rfl) <| zS rfl (aF (av := .v _) rfl h14 rfl) ?_;exact K _ 5 _ (ay (jJ h14)) rfl rfl
 refine ai <| ax rfl (fun c19 => ?_) (fun c19 => ?_)
 ·replace H := aY c19 H;refine ac <| aa ?_;show AR _ _ _ _ _ [0, 1] _;refine za rfl <| za rfl <| ai <| aJ ?_;obtain ⟨rfl, rfl⟩ := fB H;exact And.intro rfl (Exists.intro _ (Exists.intro _ ⟨bp rfl (.refl _) (.refl _), aH [] rfl, rfl, rfl⟩))
 ·replace H := aZ c19 H;refine aB <| ac ?_;obtain ⟨g20, H⟩ := aW H;obtain ⟨g21, H⟩ := aW H;obtain ⟨x22, e23, H⟩ := bM H;obtain ⟨x24, x25, e26, H⟩ := cT H;refine aa ?_;show AR _ _ _ _ _ [0, 1, 2, 3, 4, 5, 6, 7, 8, 9] _;refine zm rfl <| zm rfl <| zS rfl (fa rfl rfl g20) <| zS rfl (mw ag rfl rfl rfl g21 e23) <| am rfl rfl (aG rfl rQ rfl (rn F x22 x24 x25 e26) ?_);refine zS rfl (af (av := .tup _) rfl) <| zS rfl (aI (av := .v _) rfl rfl) <| zS rfl (aI (av := .v _) rfl rfl) <| za rfl <| za rfl <| ai <| ac <| ac <| aa ?_;show AR _ _ _ _ _ [0, 1] _;refine zm rfl <| zS rfl (ce rfl) <| ai <| ax rfl (fun c27 => ?_) (fun c27 => ?_)
  ·replace H := aY c27 H;refine ac <| aa ?_;show AR _ _ _ _ _ [0, 1] _;refine za rfl <| za rfl <| ai <| aJ ?_;obtain ⟨rfl, rfl⟩ := fB H;exact And.intro rfl (Exists.intro _ (Exists.intro _ ⟨bp rfl (.refl _) (.refl _), aH [] rfl, rfl, rfl⟩))
  ·replace H := aZ c27 H;refine aB <| ac ?_;obtain ⟨g28, H⟩ := aW H;refine aa ?_;show AR _ _ _ _ _ [0, 1, 2, 3, 4] _;refine zm rfl <| zm rfl <| zS rfl (fa rfl rfl g28) <| za rfl <| za rfl <| ai <| aJ ?_;obtain ⟨rfl, rfl⟩ := fB H;exact And.intro rfl (Exists.intro _ (Exists.intro _ ⟨bp rfl (.refl _) (.refl _), aH [] rfl, rfl, rfl⟩))
set_option maxRecDepth 100000 in
set_option maxHeartbeats 1000000 in
theorem rq (F : Nat) (a1 : List UInt8) (r2 : List UInt8) (r3 : Bool) (H : lJ F a1 = some (r2, r3)) : ACalls Tryz.prog 108 [S a1] [] (Ret (.tup [S r2, B r3]) []) := by
 unfold lJ at H
 refine au Tryz.func108 rfl rfl ?_;show AW _ _ 36 _ _ _;refine ac <| aa ?_;show AR _ _ _ _ _ [0, 1] _;refine za rfl <| za rfl <| ai <| ac <| aa ?_;show AR _ _ _ _ _ [0] _;refine zX rfl (nq (zs := [(.pointer none), .slice none 0 0]) (by kernel_rfl)) ?_;rintro _ _ ⟨o4, rfl, rfl⟩;refine ai ?_
 refine js 0 1 1 5 rfl rfl fun t5 => ?_
 show AW _ _ _ _ _ ⟨_, _, [.tok t5 5, .obj o4 [.v (.pointer none), slE Enc.byte [] (some t5)], .ty o4 60]⟩;refine ac <| aa ?_;show AR _ _ _ _ _ [0] _;refine za rfl <| ai <| aP <| dp (X := Nat × (List UInt8) × Bool × AV × (List UInt8) × Nat) (fun (n12, y6, y7, t8, y9, t10) => ⟨[(0, S y6), (4, .pt o4 0), (5, B y7)], [], [.obj o4 [t8, slE Enc.byte y9 (some t10)], .ty o4 60, .tok t10 5]⟩) (fun (n12, y6, y7, t8, y9, t10) => eH F n12 (y6, y7, y9) = some (r2, r3) ∧ (t8 = .v (.pointer none) ∨ t8 = .pt o4 0)) (fun (n12, y6, y7, t8, y9, t10) => n12) (F, a1, true, (.v (.pointer none)), [], t5) ⟨H, .inl rfl⟩ (bf [1, 1, 0] (.cons (.refl _) (.cons (.refl _) (.cons (.refl _) (.nil _)))) rfl) ?_;rintro ⟨n12, y6, y7, t8, y9, t10⟩ ⟨H, ht8⟩;obtain ⟨n12, rfl, H⟩ := eT H;replace H : gC F (eH F n12) y6 y7 y9 = some (r2, r3) := H
 unfold gC at H
 refine aP <| ac ?_;obtain ⟨x13, e14, H⟩ := bM H;refine aa ?_;show AR _ _ _ _ _ [0, 1, 2] _;refine zm rfl <| am rfl rfl (aG rfl tf rfl (show ACalls _ _ _ [] (Ret (i64 x13) []) from by subst e14; exact dD y6 38) ?_);refine za rfl <| ai <| ac <| ac <| aa ?_;show AR _ _ _ _ _ [0, 1] _;refine zm rfl <| zS rfl (bU rfl rfl) <| ai <| ax rfl (fun c15 => ?_) (fun c15 => ?_)
 ·replace H := aY c15 H;refine ac ?_;obtain ⟨g16, H⟩ := aW H;obtain ⟨x17, e18, H⟩ := bM H;refine aa ?_;show AR _ _ _ _ _ [0, 1] _;refine zm rfl <| am rfl rfl (bh [0, 0, 0] rfl mc rfl (cm  o4 (t8) ht8 y9 y6 t10 (okW_s g16)) rfl (fun c A' h => by cases h.1) ?_)
  rintro av A' ⟨h, t19, rfl⟩; cases h
  rw [e18]
  refine ai <| ac ?_;obtain ⟨g20, H⟩ := aW H;refine aa ?_;show AR _ _ _ _ _ [0, 1, 2, 3] _;refine am rfl rfl (bh [0, 1] rfl tk rfl (jD  o4 (.pt o4 0) x17 t19 (okW0_s g20)) rfl (fun c A' h => by cases h.1) ?_)
  rintro av A' ⟨h, rfl⟩; cases h
  refine zm rfl <| za rfl <| za rfl <| ai <| aJ ?_;obtain ⟨rfl, rfl⟩ := fB H;exact And.intro rfl (Exists.intro _ (Exists.intro _ ⟨bp rfl (.refl _) (.refl _), aH [] rfl, rfl, rfl⟩))
 ·replace H := aZ c15 H;refine aB <| ac ?_;obtain ⟨g21, H⟩ := aW H;obtain ⟨x22, e23, H⟩ := bM H;obtain ⟨g24, H⟩ := aW H;obtain ⟨x25, e26, H⟩ := bM H;refine aa ?_;show AR _ _ _ _ _ [0, 1, 2, 3] _;refine zm rfl <| zm rfl <| zS rfl (lF ag rfl rfl g21 e23) <| am rfl rfl (bh [0, 0, 0] rfl mc rfl (cm  o4 (t8) ht8 y9 x22 t10 (okW_s g24)) rfl (fun c A' h => by cases h.1) ?_)
  rintro av A' ⟨h, t27, rfl⟩; cases h
  rw [e26]
  refine ai <| ac ?_;obtain ⟨g28, H⟩ := aW H;obtain ⟨x29, e30, H⟩ := bM H;refine aa ?_;show AR _ _ _ _ _ [0, 1, 2, 3] _;refine zm rfl <| zm rfl <| zS rfl (dE ag rfl rfl g28 e30) <| za rfl <| ai <| ac ?_;obtain ⟨x31, x32, e33, H⟩ := cT H;refine aa ?_;show AR _ _ _ _ _ [0, 1, 2, 3, 4, 5, 6] _;refine zm rfl <| am rfl rfl (aG rfl rS rfl (qp F x29 x31 x32 e33) ?_);refine zS rfl (af (av := .tup _) rfl) <| zS rfl (aI (av := .v _) rfl rfl) <| zS rfl (aI (av := .v _) rfl rfl) <| za rfl <| za rfl <| ai <| bV (X := Bool × (List UInt8) × Int) (fun (y35, y36, y37) => ⟨[(0, S x29), (4, .pt o4 0), (5, B y35), (7, S y36), (8, i64 y37)], [], [.obj o4 [.pt o4 0, slE Enc.byte x25 (some t27)], .ty o4 60, .tok t27 5]⟩) (fun (y35, y36, y37) => fI (eH F n12) x25 x29 y35 y36 y37 = some (r2, r3)) ?_ ?_
  ·refine ac <| aa ?_;show AR _ _ _ _ _ [0, 1] _;refine zm rfl <| zS rfl (bW rfl rfl) <| ai <| ax rfl (fun c34 => ?_) (fun c34 => ?_)
   ·replace H := aY c34 H;refine aa ?_;show AR _ _ _ _ _ [0, 1, 2] _;refine za rfl <| za rfl <| za rfl <| ai ?_;exact Exists.intro (false, ([38] : List UInt8), 1) ⟨H, bf [0, 0, 0] (.cons (.refl _) (.cons (.refl _) (.cons (.refl _) (.cons (.refl _) (.cons (.refl _) (.nil _)))))) rfl⟩
   ·replace H := aZ c34 H;refine aB ?_;exact Exists.intro (y7, x31, x32) ⟨H, bf [0, 0, 0] (.cons (.refl _) (.cons (.refl _) (.cons (.refl _) (.cons (.refl _) (.cons (.refl _) (.nil _)))))) rfl⟩
  rintro ⟨y35, y36, y37⟩ H;replace H : fI (eH F n12) x25 x29 y35 y36 y37 = some (r2, r3) := H
  unfold fI at H
  refine ac ?_;obtain ⟨g39, H⟩ := aW H;obtain ⟨x40, e41, H⟩ := bM H;refine aa ?_;show AR _ _ _ _ _ [0, 1] _;refine zm rfl <| am rfl rfl (bh [0, 0, 0] rfl mc rfl (cm  o4 (.pt o4 0) (.inr rfl) x25 y36 t27 (okW_s g39)) rfl (fun c A' h => by cases h.1) ?_)
  rintro av A' ⟨h, t42, rfl⟩; cases h
  rw [e41]
  refine ai ?_;obtain ⟨g43, H⟩ := aW H;obtain ⟨x44, e45, H⟩ := bM H;refine aa ?_;show AR _ _ _ _ _ [0, 1, 2, 3] _;refine zm rfl <| zm rfl <| zS rfl (dE ag rfl rfl g43 e45) <| za rfl <| ai ?_;exact Exists.intro (n12, x44, y35, (.pt o4 0), x40, t42) ⟨⟨H, .inr rfl⟩, Nat.lt_succ_self _, bf [0, 0, 0] (.cons (.refl _) (.cons (.refl _) (.cons (.refl _) (.nil _)))) rfl⟩
set_option maxRecDepth 100000 in
set_option maxHeartbeats 1000000 in
theorem pA (F : Nat) (a1 : List UInt8) (r2 : List UInt8) (r3 : Int) (H : ig F a1 = some (r2, r3)) : ACalls Tryz.prog 90 [S a1] [] (Ret (.tup [S r2, i64 r3]) []) := by
 unfold ig at H
 refine au Tryz.func90 rfl rfl ?_;show AW _ _ 14 _ _ _;refine ac <| aa ?_;show AR _ _ _ _ _ [0, 1] _;refine za rfl <| za rfl <| ai <| ac ?_;obtain ⟨x4, x5, e6, H⟩ := cT H;refine aa ?_;show AR _ _ _ _ _ [0, 1, 2, 3, 4, 5, 6] _;refine zm rfl <| am rfl rfl (aG rfl rT rfl (rq F a1 x4 x5 e6) ?_);refine zS rfl (af (av := .tup _) rfl) <| zS rfl (aI (av := .v _) rfl rfl) <| zS rfl (aI (av := .v _) rfl rfl) <| za rfl <| za rfl <| ai <| ac <| ac <| aa ?_;show AR _ _ _ _ _ [0, 1] _;refine zm rfl <| zS rfl (ce rfl) <| ai <| ax rfl (fun c7 => ?_) (fun c7 => ?_)
 ·replace H := aY c7 H;refine ac <| aa ?_;show AR _ _ _ _ _ [0, 1] _;refine za rfl <| za rfl <| ai <| aJ ?_;obtain ⟨rfl, rfl⟩ := fB H;exact And.intro rfl (Exists.intro _ (Exists.intro _ ⟨bp rfl (.refl _) (.refl _), aH [] rfl, rfl, rfl⟩))
 ·replace H := aZ c7 H;refine aB <| ac <| aa ?_;show AR _ _ _ _ _ [0, 1, 2] _;refine zm rfl <| za rfl <| za rfl <| ai <| aJ ?_;obtain ⟨rfl, rfl⟩ := fB H;exact And.intro rfl (Exists.intro _ (Exists.intro _ ⟨bp rfl (.refl _) (.refl _), aH [] rfl, rfl, rfl⟩))
end Go.Proofs.YteokdkimegepoaaGreatDoor
namespace Go.Pv
def xmla_k1 : List UInt8 := [65, 66, 67, 68, 69, 70, 71, 72, 73, 74, 75, 76, 77, 78, 79, 80, 81, 82, 83, 84, 85, 86, 87, 88, 89, 90, 97, 98, 99, 100, 101, 102, 103, 104, 105, 106, 107, 108, 109, 110, 111, 112, 113, 114, 115, 116, 117, 118, 119, 120, 121, 122, 95, 48, 49, 50, 51, 52, 53, 54, 55, 56, 57, 45, 46, 58]
def xmla_k2 : List UInt8 := [65, 66, 67, 68, 69, 70, 71, 72, 73, 74, 75, 76, 77, 78, 79, 80, 81, 82, 83, 84, 85, 86, 87, 88, 89, 90, 97, 98, 99, 100, 101, 102, 103, 104, 105, 106, 107, 108, 109, 110, 111, 112, 113, 114, 115, 116, 117, 118, 119, 120, 121, 122, 95]
def iq : Option Bool :=
some true
def gx (a1 : List UInt8) (rec4 : Int → Option Bool) (y3 : Int) : Option Bool :=
bif decide (y3 < (a1.length : Int)) then
  grd (cy y3 a1.length) <|
  lt (at_ a1 y3) fun x8 =>
  lt (Go.Lib.indexByte xmla_k1 x8) fun x10 =>
  bif decide (x10 < 0) then
    some false
  else
    grd (okI (y3 + 1)) <|
    rec4 (y3 + 1)
else
  iq
def gw (a1 : List UInt8) (n : Nat) : Int → Option Bool :=
  loop (fun rec x => gx a1 rec x) n
def lx (F : Nat) (a1 : List UInt8) : Option Bool :=
gw a1 F 0
def kw (F : Nat) (a1 : List UInt8) : Option Bool :=
eE ((!decide (a1 = ([] : List UInt8))) && (decide ((a1.length : Int) ≤ 60))) (iW 1 a1.length) <|
lt (to_ a1 1) fun x6 =>
eE ((!decide (a1 = ([] : List UInt8))) && (decide ((a1.length : Int) ≤ 60))) (okS xmla_k2.length) <|
lt (Go.Lib.contains xmla_k2 x6) fun x9 =>
eE (((!decide (a1 = ([] : List UInt8))) && (decide ((a1.length : Int) ≤ 60))) && x9) (okS a1.length) <|
eE (((!decide (a1 = ([] : List UInt8))) && (decide ((a1.length : Int) ≤ 60))) && x9) (okS xmla_k1.length) <|
eE (((!decide (a1 = ([] : List UInt8))) && (decide ((a1.length : Int) ≤ 60))) && x9) (fP xmla_k1) <|
lt (Go.Lib.trimS a1 xmla_k1) fun x15 =>
iY ((((!decide (a1 = ([] : List UInt8))) && (decide ((a1.length : Int) ≤ 60))) && x9) && (decide (x15 = ([] : List UInt8)))) (lx F a1) fun x18 =>
some (((((!decide (a1 = ([] : List UInt8))) && (decide ((a1.length : Int) ≤ 60))) && x9) && (decide (x15 = ([] : List UInt8)))) && x18)
def cc (F : Nat) (a1 : Bool) : Option (Res Unit) :=
bif !a1 then
  some (Res.pan 2)
else
  some (Res.ok ())
def dF (F : Nat) (a2 : List UInt8) (a3 : List (List UInt8)) (a5 : Int) (a6 : List (Int × (List UInt8) × (List UInt8) × List ((List UInt8) × List UInt8))) (a8 : List UInt8) : Option (Bool × (List UInt8)) :=
lt (Go.Lib.trimPrefix a2 a8, Go.Lib.hasPrefix a2 a8) fun x11 =>
some (x11.2, x11.1)
def fD (F : Nat) (a2 : List UInt8) (a3 : List (List UInt8)) (a5 : Int) (a6 : List (Int × (List UInt8) × (List UInt8) × List ((List UInt8) × List UInt8))) (a8 : List UInt8) : Option (Res ((List UInt8) × (List UInt8))) :=
grd (okS a2.length) <|
lt (Go.Lib.cut a2 a8) fun x12 =>
ep (cc F x12.2.2) fun x14 =>
some (Res.ok (x12.1, x12.2.1))
def hP (F : Nat) (a2 : List UInt8) (a3 : List (List UInt8)) (a5 : Int) (a6 : List (Int × (List UInt8) × (List UInt8) × List ((List UInt8) × List UInt8))) : Option (Bool × (List UInt8)) :=
grd (okS ([9, 10, 13, 32] : List UInt8).length) <|
grd (fP ([9, 10, 13, 32] : List UInt8)) <|
lt (Go.Lib.trimLeftS a2 ([9, 10, 13, 32] : List UInt8)) fun x12 =>
some (decide ((x12.length : Int) < (a2.length : Int)), x12)
def gd (F : Nat) (a2 : List UInt8) (y21 : Int) : Option (Res ((List UInt8) × (List UInt8))) :=
grd (iW y21 a2.length) <|
lt (to_ a2 y21) fun x24 =>
bnd (kw F x24) fun x26 =>
ep (cc F x26) fun x28 =>
grd (iW y21 a2.length) <|
lt (ez a2 y21) fun x32 =>
some (Res.ok (x24, x32))
def ib (F : Nat) (a2 : List UInt8) (rec11 : Int → Option (Res ((List UInt8) × (List UInt8)))) (y10 : Int) : Option (Res ((List UInt8) × (List UInt8))) :=
eE (decide (y10 < (a2.length : Int))) (cy y10 a2.length) <|
lt (at_ a2 y10) fun x15 =>
lt (Go.Lib.indexByte xmla_k1 x15) fun x17 =>
bif (decide (y10 < (a2.length : Int))) && (decide (0 ≤ x17)) then
  grd (okI (y10 + 1)) <|
  rec11 (y10 + 1)
else
  gd F a2 y10
def ia (F : Nat) (a2 : List UInt8) (n : Nat) : Int → Option (Res ((List UInt8) × (List UInt8))) :=
  loop (fun rec x => ib F a2 rec x) n
def iL (F : Nat) (a2 : List UInt8) (a3 : List (List UInt8)) (a5 : Int) (a6 : List (Int × (List UInt8) × (List UInt8) × List ((List UInt8) × List UInt8))) : Option (Res ((List UInt8) × (List UInt8))) :=
ia F a2 F 0
def fK (F : Nat) (a1 : List UInt8) : Option (Res ((List UInt8))) :=
gJ (ig F a1) fun x3 x4 =>
ep (cc F (decide (x4 = 0))) fun x6 =>
some (Res.ok x3)
def ku (F : Nat) (a2 : List UInt8) (a3 : List (List UInt8)) (a5 : Int) (a6 : List (Int × (List UInt8) × (List UInt8) × List ((List UInt8) × List UInt8))) (a8 : List UInt8) : Option ((List (Int × (List UInt8) × (List UInt8) × List ((List UInt8) × List UInt8)))) :=
bif !decide (a8 = ([] : List UInt8)) then
  grd (gS (a6.length + ([(2, ([] : List UInt8), a8, ([] : List ((List UInt8) × List UInt8)))] : List (Int × (List UInt8) × (List UInt8) × List ((List UInt8) × List UInt8))).length)) <|
  lt (a6 ++ ([(2, ([] : List UInt8), a8, ([] : List ((List UInt8) × List UInt8)))] : List (Int × (List UInt8) × (List UInt8) × List ((List UInt8) × List UInt8)))) fun x14 =>
  some x14
else
  some a6
def iK (F : Nat) (a2 : List UInt8) (a3 : List (List UInt8)) (a5 : Int) (a6 : List (Int × (List UInt8) × (List UInt8) × List ((List UInt8) × List UInt8))) (a8 : List UInt8) : Option (Res ((List (Int × (List UInt8) × (List UInt8) × List ((List UInt8) × List UInt8))) × (List (List UInt8)))) :=
grd (okI ((a3.length : Int) - 1)) <|
eE (decide (0 ≤ (a3.length : Int) - 1)) (cy ((a3.length : Int) - 1) a3.length) <|
eE (decide (0 ≤ (a3.length : Int) - 1)) (cy ((a3.length : Int) - 1) a3.length) <|
lt (at_ a3 ((a3.length : Int) - 1)) fun x17 =>
ep (cc F ((decide (0 ≤ (a3.length : Int) - 1)) && (decide (x17 = a8)))) fun x19 =>
grd (iW ((a3.length : Int) - 1) a3.length) <|
lt (to_ a3 ((a3.length : Int) - 1)) fun x23 =>
grd (gS (a6.length + ([(1, a8, ([] : List UInt8), ([] : List ((List UInt8) × List UInt8)))] : List (Int × (List UInt8) × (List UInt8) × List ((List UInt8) × List UInt8))).length)) <|
lt (a6 ++ ([(1, a8, ([] : List UInt8), ([] : List ((List UInt8) × List UInt8)))] : List (Int × (List UInt8) × (List UInt8) × List ((List UInt8) × List UInt8)))) fun x27 =>
some (Res.ok (x27, x23))
def dR (F : Nat) (a2 : List UInt8) (a3 : List (List UInt8)) (a5 : Int) (a6 : List (Int × (List UInt8) × (List UInt8) × List ((List UInt8) × List UInt8))) (y15 : Int) : Option (Res (Bool × (List UInt8) × (List (Int × (List UInt8) × (List UInt8) × List ((List UInt8) × List UInt8))))) :=
bif decide (y15 = 0) then
  some (Res.ok (false, a2, a6))
else
  grd (iW y15 a2.length) <|
  lt (to_ a2 y15) fun x19 =>
  grd (iW y15 a2.length) <|
  lt (ez a2 y15) fun x22 =>
  ep (fK F x19) fun x24 =>
  bif decide ((a3.length : Int) = 0) then
    bnd (kg F x19) fun x28 =>
    ep (cc F (decide (x28 = ([] : List UInt8)))) fun x30 =>
    some (Res.ok (true, x22, a6))
  else
    bnd (ku F x22 a3 a5 a6 x24) fun x33 =>
    some (Res.ok (true, x22, x33))
def fX (F : Nat) (a2 : List UInt8) (a3 : List (List UInt8)) (a5 : Int) (a6 : List (Int × (List UInt8) × (List UInt8) × List ((List UInt8) × List UInt8))) : Option (Res (Bool × (List UInt8) × (List (Int × (List UInt8) × (List UInt8) × List ((List UInt8) × List UInt8))))) :=
lt (Go.Lib.indexByte a2 60) fun x12 =>
bif decide (x12 < 0) then
  dR F a2 a3 a5 a6 (a2.length : Int)
else
  dR F a2 a3 a5 a6 x12
def ge (F : Nat) (a2 : List UInt8) (a3 : List (List UInt8)) (a5 : Int) (a6 : List (Int × (List UInt8) × (List UInt8) × List ((List UInt8) × List UInt8))) : Option (Res (Bool × (List UInt8))) :=
gJ (dF F a2 a3 a5 a6 ([60, 33, 45, 45] : List UInt8)) fun x10 x11 =>
bif !x10 then
  some (Res.ok (false, x11))
else
  ep (fD F x11 a3 a5 a6 ([45, 45, 62] : List UInt8)) fun x14 =>
  some (Res.ok (true, x14.2))
def mD (F : Nat) (a2 : List UInt8) (a3 : List (List UInt8)) (a5 : Int) (a6 : List (Int × (List UInt8) × (List UInt8) × List ((List UInt8) × List UInt8))) : Option (Res (Bool × (List UInt8))) :=
gJ (dF F a2 a3 a5 a6 ([60, 63] : List UInt8)) fun x10 x11 =>
bif !x10 then
  some (Res.ok (false, x11))
else
  ep (fD F x11 a3 a5 a6 ([63, 62] : List UInt8)) fun x14 =>
  some (Res.ok (true, x14.2))
def iM (F : Nat) (a2 : List UInt8) (a3 : List (List UInt8)) (a5 : Int) (a6 : List (Int × (List UInt8) × (List UInt8) × List ((List UInt8) × List UInt8))) : Option (Res (Bool × (List UInt8) × (List (Int × (List UInt8) × (List UInt8) × List ((List UInt8) × List UInt8))))) :=
gJ (dF F a2 a3 a5 a6 ([60, 33, 91, 67, 68, 65, 84, 65, 91] : List UInt8)) fun x12 x13 =>
bif !x12 then
  some (Res.ok (false, x13, a6))
else
  ep (fD F x13 a3 a5 a6 ([93, 93, 62] : List UInt8)) fun x16 =>
  ep (cc F (decide (0 < (a3.length : Int)))) fun x19 =>
  bnd (ku F x16.2 a3 a5 a6 x16.1) fun x22 =>
  some (Res.ok (true, x16.2, x22))
def mC (F : Nat) (a2 : List UInt8) (a3 : List (List UInt8)) (a5 : Int) (a6 : List (Int × (List UInt8) × (List UInt8) × List ((List UInt8) × List UInt8))) : Option (Res (Bool × (List UInt8))) :=
gJ (dF F a2 a3 a5 a6 ([60, 33] : List UInt8)) fun x10 x11 =>
bif !x10 then
  some (Res.ok (false, x11))
else
  ep (fD F x11 a3 a5 a6 ([62] : List UInt8)) fun x14 =>
  some (Res.ok (true, x14.2))
def fJ (F : Nat) (a2 : List UInt8) (a3 : List (List UInt8)) (a5 : Int) (a6 : List (Int × (List UInt8) × (List UInt8) × List ((List UInt8) × List UInt8))) : Option (Res (Bool × (List UInt8) × (List (Int × (List UInt8) × (List UInt8) × List ((List UInt8) × List UInt8))) × (List (List UInt8)))) :=
gJ (dF F a2 a3 a5 a6 ([60, 47] : List UInt8)) fun x14 x15 =>
bif !x14 then
  some (Res.ok (false, x15, a6, a3))
else
  ep (iL F x15 a3 a5 a6) fun x18 =>
  gJ (hP F x18.2 a3 a5 a6) fun x21 x22 =>
  gJ (dF F x22 a3 a5 a6 ([62] : List UInt8)) fun x24 x25 =>
  ep (cc F x24) fun x27 =>
  ep (iK F x25 a3 a5 a6 x18.1) fun x30 =>
  some (Res.ok (true, x25, x30.1, x30.2))
def fu (F : Nat) (a3 : List (List UInt8)) (a5 : Int) (a6 : List (Int × (List UInt8) × (List UInt8) × List ((List UInt8) × List UInt8))) (x12 : (List UInt8) × (List UInt8)) (y26 : List UInt8) (y27 : List UInt8) : Option (Res ((List UInt8) × (List UInt8) × (List UInt8))) :=
ep (fD F y27 a3 a5 a6 y26) fun x29 =>
grd (okS x29.1.length) <|
lt (Go.Lib.contains x29.1 ([60] : List UInt8)) fun x33 =>
ep (cc F (!x33)) fun x35 =>
ep (fK F x29.1) fun x38 =>
some (Res.ok (x12.1, x38, x29.2))
def jF (F : Nat) (a2 : List UInt8) (a3 : List (List UInt8)) (a5 : Int) (a6 : List (Int × (List UInt8) × (List UInt8) × List ((List UInt8) × List UInt8))) : Option (Res ((List UInt8) × (List UInt8) × (List UInt8))) :=
ep (iL F a2 a3 a5 a6) fun x12 =>
gJ (dF F x12.2 a3 a5 a6 ([61, 34] : List UInt8)) fun x16 x17 =>
bif !x16 then
  gJ (dF F x17 a3 a5 a6 ([61, 39] : List UInt8)) fun x20 x21 =>
  ep (cc F x20) fun x23 =>
  fu F a3 a5 a6 x12 ([39] : List UInt8) x21
else
  fu F a3 a5 a6 x12 ([34] : List UInt8) x17
def ly (F : Nat) (a1 : List UInt8) (a2 : List UInt8) (a4 : List UInt8) (a5 : List UInt8) : Option Bool :=
some (decide (a4 = a1))
def fi : Option Int :=
some (-1)
def dX (F : Nat) (a1 : List ((List UInt8) × List UInt8)) (a4 : List UInt8) (a5 : List UInt8) (rec8 : Int → Option Int) (y7 : Int) : Option Int :=
bif decide (y7 < (a1.length : Int)) then
  grd (cy y7 a1.length) <|
  lt (at_ a1 y7) fun x12 =>
  bnd (ly F x12.1 x12.2 a4 a5) fun x14 =>
  bif x14 then
    some y7
  else
    grd (okI (y7 + 1)) <|
    rec8 (y7 + 1)
else
  fi
def dq (F : Nat) (a1 : List ((List UInt8) × List UInt8)) (a4 : List UInt8) (a5 : List UInt8) (n : Nat) : Int → Option Int :=
  loop (fun rec x => dX F a1 a4 a5 rec x) n
def gX (F : Nat) (a1 : List ((List UInt8) × List UInt8)) (a4 : List UInt8) (a5 : List UInt8) : Option Int :=
dq F a1 a4 a5 F 0
def dZ (F : Nat) (a1 : List ((List UInt8) × List UInt8)) (a4 : List UInt8) (a5 : List UInt8) : Option Bool :=
bnd (gX F a1 a4 a5) fun x7 =>
some (decide (0 ≤ x7))
def eh (y57 : List UInt8) (y66 : Int) (y97 : List (List UInt8)) (y98 : List (Int × (List UInt8) × (List UInt8) × List ((List UInt8) × List UInt8))) : Option (Res (Bool × (List UInt8) × Int × (List (Int × (List UInt8) × (List UInt8) × List ((List UInt8) × List UInt8))) × (List (List UInt8)))) :=
some (Res.ok (true, y57, y66, y98, y97))
def fe (F : Nat) (x19 : (List UInt8) × (List UInt8)) (y56 : Bool) (y57 : List UInt8) (y66 : Int) (y79 : List (List UInt8)) (y87 : List (Int × (List UInt8) × (List UInt8) × List ((List UInt8) × List UInt8))) : Option (Res (Bool × (List UInt8) × Int × (List (Int × (List UInt8) × (List UInt8) × List ((List UInt8) × List UInt8))) × (List (List UInt8)))) :=
bif y56 then
  ep (iK F y57 y79 y66 y87 x19.1) fun x91 =>
  eh y57 y66 x91.2 x91.1
else
  eh y57 y66 y79 y87
def fc (F : Nat) (a6 : List (Int × (List UInt8) × (List UInt8) × List ((List UInt8) × List UInt8))) (x19 : (List UInt8) × (List UInt8)) (y56 : Bool) (y57 : List UInt8) (y58 : List ((List UInt8) × List UInt8)) (y66 : Int) (y79 : List (List UInt8)) : Option (Res (Bool × (List UInt8) × Int × (List (Int × (List UInt8) × (List UInt8) × List ((List UInt8) × List UInt8))) × (List (List UInt8)))) :=
grd (gS (a6.length + ([(0, x19.1, ([] : List UInt8), y58)] : List (Int × (List UInt8) × (List UInt8) × List ((List UInt8) × List UInt8))).length)) <|
lt (a6 ++ ([(0, x19.1, ([] : List UInt8), y58)] : List (Int × (List UInt8) × (List UInt8) × List ((List UInt8) × List UInt8)))) fun x83 =>
fe F x19 y56 y57 y66 y79 x83
def fb (F : Nat) (a6 : List (Int × (List UInt8) × (List UInt8) × List ((List UInt8) × List UInt8))) (x19 : (List UInt8) × (List UInt8)) (y56 : Bool) (y57 : List UInt8) (y58 : List ((List UInt8) × List UInt8)) (y66 : Int) (y75 : List (List UInt8)) : Option (Res (Bool × (List UInt8) × Int × (List (Int × (List UInt8) × (List UInt8) × List ((List UInt8) × List UInt8))) × (List (List UInt8)))) :=
bif decide (20 < (y75.length : Int)) then
  some (Res.pan 5)
else
  fc F a6 x19 y56 y57 y58 y66 y75
def dC (F : Nat) (a3 : List (List UInt8)) (a6 : List (Int × (List UInt8) × (List UInt8) × List ((List UInt8) × List UInt8))) (x19 : (List UInt8) × (List UInt8)) (y56 : Bool) (y57 : List UInt8) (y58 : List ((List UInt8) × List UInt8)) (y66 : Int) : Option (Res (Bool × (List UInt8) × Int × (List (Int × (List UInt8) × (List UInt8) × List ((List UInt8) × List UInt8))) × (List (List UInt8)))) :=
grd (gS (a3.length + ([x19.1] : List (List UInt8)).length)) <|
lt (a3 ++ ([x19.1] : List (List UInt8))) fun x69 =>
fb F a6 x19 y56 y57 y58 y66 x69
def dB (F : Nat) (a3 : List (List UInt8)) (a5 : Int) (a6 : List (Int × (List UInt8) × (List UInt8) × List ((List UInt8) × List UInt8))) (x19 : (List UInt8) × (List UInt8)) (y56 : Bool) (y57 : List UInt8) (y58 : List ((List UInt8) × List UInt8)) : Option (Res (Bool × (List UInt8) × Int × (List (Int × (List UInt8) × (List UInt8) × List ((List UInt8) × List UInt8))) × (List (List UInt8)))) :=
bif decide ((a3.length : Int) = 0) then
  grd (okI (a5 + 1)) <|
  ep (cc F (decide (a5 + 1 = 1))) fun x63 =>
  dC F a3 a6 x19 y56 y57 y58 (a5 + 1)
else
  dC F a3 a6 x19 y56 y57 y58 a5
def fg (F : Nat) (a3 : List (List UInt8)) (a5 : Int) (a6 : List (Int × (List UInt8) × (List UInt8) × List ((List UInt8) × List UInt8))) (x19 : (List UInt8) × (List UInt8)) (rec27 : ((List ((List UInt8) × List UInt8)) × (List UInt8)) → Option (Res (Bool × (List UInt8) × Int × (List (Int × (List UInt8) × (List UInt8) × List ((List UInt8) × List UInt8))) × (List (List UInt8))))) (y24 : List ((List UInt8) × List UInt8)) (y26 : List UInt8) : Option (Res (Bool × (List UInt8) × Int × (List (Int × (List UInt8) × (List UInt8) × List ((List UInt8) × List UInt8))) × (List (List UInt8)))) :=
gJ (hP F y26 a3 a5 a6) fun x29 x30 =>
gJ (dF F x30 a3 a5 a6 ([62] : List UInt8)) fun x32 x33 =>
bif x32 then
  dB F a3 a5 a6 x19 false x33 y24
else
  gJ (dF F x33 a3 a5 a6 ([47, 62] : List UInt8)) fun x36 x37 =>
  bif x36 then
    dB F a3 a5 a6 x19 true x37 y24
  else
    ep (cc F x29) fun x40 =>
    ep (jF F x37 a3 a5 a6) fun x43 =>
    bnd (dZ F y24 x43.1 x43.2.1) fun x47 =>
    ep (cc F (!x47)) fun x49 =>
    grd (gS (y24.length + ([(x43.1, x43.2.1)] : List ((List UInt8) × List UInt8)).length)) <|
    lt (y24 ++ ([(x43.1, x43.2.1)] : List ((List UInt8) × List UInt8))) fun x54 =>
    rec27 (x54, x43.2.2)
def ff (F : Nat) (a3 : List (List UInt8)) (a5 : Int) (a6 : List (Int × (List UInt8) × (List UInt8) × List ((List UInt8) × List UInt8))) (x19 : (List UInt8) × (List UInt8)) (n : Nat) : ((List ((List UInt8) × List UInt8)) × (List UInt8)) → Option (Res (Bool × (List UInt8) × Int × (List (Int × (List UInt8) × (List UInt8) × List ((List UInt8) × List UInt8))) × (List (List UInt8)))) :=
  loop (fun rec x => fg F a3 a5 a6 x19 rec x.1 x.2) n
def ft (F : Nat) (a2 : List UInt8) (a3 : List (List UInt8)) (a5 : Int) (a6 : List (Int × (List UInt8) × (List UInt8) × List ((List UInt8) × List UInt8))) : Option (Res (Bool × (List UInt8) × Int × (List (Int × (List UInt8) × (List UInt8) × List ((List UInt8) × List UInt8))) × (List (List UInt8)))) :=
gJ (dF F a2 a3 a5 a6 ([60] : List UInt8)) fun x15 x16 =>
bif !x15 then
  some (Res.ok (false, x16, a5, a6, a3))
else
  ep (iL F x16 a3 a5 a6) fun x19 =>
  ff F a3 a5 a6 x19 F ([], x19.2)
def jE (F : Nat) (a2 : List UInt8) (a3 : List (List UInt8)) (a5 : Int) (a6 : List (Int × (List UInt8) × (List UInt8) × List ((List UInt8) × List UInt8))) : Option (Res ((List UInt8) × Int × (List (Int × (List UInt8) × (List UInt8) × List ((List UInt8) × List UInt8))) × (List (List UInt8)))) :=
ep (fX F a2 a3 a5 a6) fun x14 =>
bif x14.1 then
  some (Res.ok (x14.2.1, a5, x14.2.2, a3))
else
  ep (ge F x14.2.1 a3 a5 x14.2.2) fun x19 =>
  bif x19.1 then
    some (Res.ok (x19.2, a5, x14.2.2, a3))
  else
    ep (mD F x19.2 a3 a5 x14.2.2) fun x23 =>
    bif x23.1 then
      some (Res.ok (x23.2, a5, x14.2.2, a3))
    else
      ep (iM F x23.2 a3 a5 x14.2.2) fun x27 =>
      bif x27.1 then
        some (Res.ok (x27.2.1, a5, x27.2.2, a3))
      else
        ep (mC F x27.2.1 a3 a5 x27.2.2) fun x32 =>
        bif x32.1 then
          some (Res.ok (x32.2, a5, x27.2.2, a3))
        else
          ep (fJ F x32.2 a3 a5 x27.2.2) fun x36 =>
          bif x36.1 then
            some (Res.ok (x36.2.1, a5, x36.2.2.1, x36.2.2.2))
          else
            ep (ft F x36.2.1 x36.2.2.2 a5 x36.2.2.1) fun x42 =>
            bif x42.1 then
              some (Res.ok (x42.2.1, x42.2.2.1, x42.2.2.2.1, x42.2.2.2.2))
            else
              some (Res.ok (x42.2.1, x42.2.2.1, x42.2.2.2.1, x42.2.2.2.2))
def fS (F : Nat) (y26 : List UInt8) (y28 : List (List UInt8)) (y29 : Int) (y30 : List (Int × (List UInt8) × (List UInt8) × List ((List UInt8) × List UInt8))) : Option ((List (Int × (List UInt8) × (List UInt8) × List ((List UInt8) × List UInt8))) × Int) :=
bndk (cc F ((decide ((y28.length : Int) = 0)) && (decide (0 < y29)))) (fun p36 =>
  some ([], p36)) fun x34 =>
some (y30, 0)
def fU (F : Nat) (rec17 : ((List UInt8) × (List (List UInt8)) × Int × (List (Int × (List UInt8) × (List UInt8) × List ((List UInt8) × List UInt8)))) → Option ((List (Int × (List UInt8) × (List UInt8) × List ((List UInt8) × List UInt8))) × Int)) (y11 : List UInt8) (y13 : List (List UInt8)) (y14 : Int) (y15 : List (Int × (List UInt8) × (List UInt8) × List ((List UInt8) × List UInt8))) : Option ((List (Int × (List UInt8) × (List UInt8) × List ((List UInt8) × List UInt8))) × Int) :=
bif !decide (y11 = ([] : List UInt8)) then
  bndk (jE F y11 y13 y14 y15) (fun p22 =>
    some ([], p22)) fun x20 =>
  rec17 (x20.1, x20.2.2.2, x20.2.1, x20.2.2.1)
else
  fS F y11 y13 y14 y15
def fT (F : Nat) (n : Nat) : ((List UInt8) × (List (List UInt8)) × Int × (List (Int × (List UInt8) × (List UInt8) × List ((List UInt8) × List UInt8)))) → Option ((List (Int × (List UInt8) × (List UInt8) × List ((List UInt8) × List UInt8))) × Int) :=
  loop (fun rec x => fU F rec x.1 x.2.1 x.2.2.1 x.2.2.2) n
def gj (F : Nat) (a1 : List UInt8) : Option ((List (Int × (List UInt8) × (List UInt8) × List ((List UInt8) × List UInt8))) × Int) :=
bif decide (100000 < (a1.length : Int)) then
  some ([], 4)
else
  fT F F (a1, ([] : List (List UInt8)), 0, [])
end Go.Pv
namespace Go.Proofs.YteokdkimegepoaaGreatDoor
open Go.RowKit Go.Av Go.Pv
theorem pi : ∀ (args : Array Value) (w : World), (callFunc 18 args).run Tryz.prog w = .ok (.enter 18 args) w := fun _ _ => by kernel_rfl
theorem md : ∀ (args : Array Value) (w : World), (callFunc 21 args).run Tryz.prog w = .ok (.enter 21 args) w := fun _ _ => by kernel_rfl
theorem ph : ∀ (args : Array Value) (w : World), (callFunc 22 args).run Tryz.prog w = .ok (.enter 22 args) w := fun _ _ => by kernel_rfl
theorem bz : ∀ (args : Array Value) (w : World), (callFunc 23 args).run Tryz.prog w = .ok (.enter 23 args) w := fun _ _ => by kernel_rfl
theorem mb : ∀ (args : Array Value) (w : World), (callFunc 33 args).run Tryz.prog w = .ok (.enter 33 args) w := fun _ _ => by kernel_rfl
theorem tj : ∀ (args : Array Value) (w : World), (callFunc 34 args).run Tryz.prog w = .ok (.enter 34 args) w := fun _ _ => by kernel_rfl
theorem ti : ∀ (args : Array Value) (w : World), (callFunc 35 args).run Tryz.prog w = .ok (.enter 35 args) w := fun _ _ => by kernel_rfl
theorem pg : ∀ (args : Array Value) (w : World), (callFunc 37 args).run Tryz.prog w = .ok (.enter 37 args) w := fun _ _ => by kernel_rfl
theorem pf : ∀ (args : Array Value) (w : World), (callFunc 38 args).run Tryz.prog w = .ok (.enter 38 args) w := fun _ _ => by kernel_rfl
theorem pe : ∀ (args : Array Value) (w : World), (callFunc 39 args).run Tryz.prog w = .ok (.enter 39 args) w := fun _ _ => by kernel_rfl
theorem pd : ∀ (args : Array Value) (w : World), (callFunc 40 args).run Tryz.prog w = .ok (.enter 40 args) w := fun _ _ => by kernel_rfl
theorem pc : ∀ (args : Array Value) (w : World), (callFunc 41 args).run Tryz.prog w = .ok (.enter 41 args) w := fun _ _ => by kernel_rfl
theorem pb : ∀ (args : Array Value) (w : World), (callFunc 42 args).run Tryz.prog w = .ok (.enter 42 args) w := fun _ _ => by kernel_rfl
theorem pa : ∀ (args : Array Value) (w : World), (callFunc 43 args).run Tryz.prog w = .ok (.enter 43 args) w := fun _ _ => by kernel_rfl
theorem ma : ∀ (args : Array Value) (w : World), (callFunc 62 args).run Tryz.prog w = .ok (.enter 62 args) w := fun _ _ => by kernel_rfl
theorem km : ∀ (args : Array Value) (w : World), (callFunc 64 args).run Tryz.prog w = .ok (.enter 64 args) w := fun _ _ => by kernel_rfl
theorem oZ : ∀ (args : Array Value) (w : World), (callFunc 65 args).run Tryz.prog w = .ok (.enter 65 args) w := fun _ _ => by kernel_rfl
theorem oY : ∀ (args : Array Value) (w : World), (callFunc 66 args).run Tryz.prog w = .ok (.enter 66 args) w := fun _ _ => by kernel_rfl
theorem di : ∀ (args : Array Value) (w : World), (callFunc 67 args).run Tryz.prog w = .ok (.enter 67 args) w := fun _ _ => by kernel_rfl
theorem ey : ∀ (args : Array Value) (w : World), (callFunc 68 args).run Tryz.prog w = .ok (.enter 68 args) w := fun _ _ => by kernel_rfl
theorem hY : ∀ (args : Array Value) (w : World), (callFunc 69 args).run Tryz.prog w = .ok (.enter 69 args) w := fun _ _ => by kernel_rfl
theorem oX : ∀ (args : Array Value) (w : World), (callFunc 70 args).run Tryz.prog w = .ok (.enter 70 args) w := fun _ _ => by kernel_rfl
theorem kj : ∀ (args : Array Value) (w : World), (callFunc 71 args).run Tryz.prog w = .ok (.enter 71 args) w := fun _ _ => by kernel_rfl
theorem oW : ∀ (args : Array Value) (w : World), (callFunc 72 args).run Tryz.prog w = .ok (.enter 72 args) w := fun _ _ => by kernel_rfl
theorem oV : ∀ (args : Array Value) (w : World), (callFunc 73 args).run Tryz.prog w = .ok (.enter 73 args) w := fun _ _ => by kernel_rfl
theorem td : ∀ (args : Array Value) (w : World), (callFunc 74 args).run Tryz.prog w = .ok (.enter 74 args) w := fun _ _ => by kernel_rfl
theorem tc : ∀ (args : Array Value) (w : World), (callFunc 90 args).run Tryz.prog w = .ok (.enter 90 args) w := fun _ _ => by kernel_rfl
theorem sY : ∀ (args : Array Value) (w : World), (callFunc 93 args).run Tryz.prog w = .ok (.enter 93 args) w := fun _ _ => by kernel_rfl
theorem sW : ∀ (args : Array Value) (w : World), (callFunc 94 args).run Tryz.prog w = .ok (.enter 94 args) w := fun _ _ => by kernel_rfl
theorem sV : ∀ (args : Array Value) (w : World), (callFunc 95 args).run Tryz.prog w = .ok (.enter 95 args) w := fun _ _ => by kernel_rfl
theorem sU : ∀ (args : Array Value) (w : World), (callFunc 96 args).run Tryz.prog w = .ok (.enter 96 args) w := fun _ _ => by kernel_rfl
set_option maxRecDepth 100000 in
set_option maxHeartbeats 1000000 in
theorem ri (F : Nat) (a1 : List UInt8) (r2 : Bool) (H : lx F a1 = some r2) : ACalls Tryz.prog 35 [S a1] [] (Ret (B r2) []) := by
 unfold lx at H
 refine au Tryz.func35 rfl rfl ?_;show AW _ _ 15 _ _ _;refine ac <| aa ?_;show AR _ _ _ _ _ [0] _;refine za rfl <| ai <| bV (X := Unit) (fun _ => ⟨[], [], []⟩) (fun _ => iq = some r2) ?_ ?_
 ·refine ac <| aa ?_;show AR _ _ _ _ _ [0, 1, 2] _;refine zm rfl <| zS rfl (bu ag rfl) <| zm rfl <| ai <| aP <| dp (X := Nat × Int) (fun (n5, y3) => ⟨[(0, S a1), (5, i64 (a1.length : Int)), (6, i64 y3)], [], []⟩) (fun (n5, y3) => gw a1 n5 y3 = some r2) (fun (n5, y3) => n5) (F, 0) H (bf [] (.cons (.refl _) (.cons (.refl _) (.cons (.refl _) (.nil _)))) rfl) ?_;rintro ⟨n5, y3⟩ H;obtain ⟨n5, rfl, H⟩ := eT H;replace H : gx a1 (gw a1 n5) y3 = some r2 := H
  unfold gx at H
  refine ac <| aa ?_;show AR _ _ _ _ _ [0] _;refine zS rfl (bU rfl rfl) <| ai <| ac <| ax rfl (fun c6 => ?_) (fun c6 => ?_)
  ·replace H := aY c6 H;refine aB <| ac <| aP <| ac <| aa ?_;show AR _ _ _ _ _ [0, 1] _;refine zm rfl <| za rfl <| ai <| ac ?_;obtain ⟨g7, H⟩ := aW H;obtain ⟨x8, e9, H⟩ := bM H;obtain ⟨x10, e11, H⟩ := bM H;refine aa ?_;show AR _ _ _ _ _ [0, 1, 2, 3, 4] _;refine zm rfl <| zm rfl <| zS rfl (bj ag rfl rfl g7 e9) <| am rfl rfl (aG rfl ma rfl (show ACalls _ _ _ [] (Ret (i64 x10) []) from by subst e11; exact dD xmla_k1 x8) ?_);refine zS rfl (bU rfl rfl) <| ai <| ax rfl (fun c12 => ?_) (fun c12 => ?_)
   ·replace H := aY c12 H;refine ac <| aa ?_;show AR _ _ _ _ _ [0] _;refine za rfl <| ai <| aJ ?_;obtain rfl := al H;exact And.intro rfl (Exists.intro _ (Exists.intro _ ⟨aC rfl (.refl _), aH [] rfl, rfl, rfl⟩))
   ·replace H := aZ c12 H;refine aB ?_;obtain ⟨g13, H⟩ := aW H;refine aa ?_;show AR _ _ _ _ _ [0, 1] _;refine zS rfl (fa rfl rfl g13) <| zm rfl <| ai ?_;exact Exists.intro (n5, y3 + 1) ⟨H, Nat.lt_succ_self _, bf [] (.cons (.refl _) (.cons (.refl _) (.cons (.refl _) (.nil _)))) rfl⟩
  ·replace H := aZ c6 H;refine cC ?_;exact Exists.intro () ⟨H, bf [] (.nil _) rfl⟩
 rintro _ H;replace H : iq = some r2 := H
 unfold iq at H
 refine ac <| aa ?_;show AR _ _ _ _ _ [0] _;refine za rfl <| ai <| aJ ?_;obtain rfl := al H;exact And.intro rfl (Exists.intro _ (Exists.intro _ ⟨aC rfl (.refl _), aH [] rfl, rfl, rfl⟩))
set_option maxRecDepth 100000 in
set_option maxHeartbeats 1000000 in
theorem lV (F : Nat) (a1 : List UInt8) (r2 : Bool) (H : kw F a1 = some r2) : ACalls Tryz.prog 18 [S a1] [] (Ret (B r2) []) := by
 unfold kw at H
 refine au Tryz.func18 rfl rfl ?_;show AW _ _ 24 _ _ _;refine ac <| aa ?_;show AR _ _ _ _ _ [0] _;refine za rfl <| ai <| ac ?_;obtain ⟨g5, H⟩ := cz H;obtain ⟨x6, e7, H⟩ := bM H;obtain ⟨g8, H⟩ := cz H;obtain ⟨x9, e10, H⟩ := bM H;obtain ⟨g12, H⟩ := cz H;obtain ⟨g13, H⟩ := cz H;obtain ⟨g14, H⟩ := cz H;obtain ⟨x15, e16, H⟩ := bM H;obtain ⟨x18, e19, H⟩ := eC H;refine aa ?_;show AR _ _ _ _ _ [0, 1, 2, 3, 4, 5, 6, 7, 8, 9, 10, 11, 12, 13, 14, 15, 16, 17, 18, 19, 20, 21] _;refine zm rfl <| zS rfl (lM rfl rfl) <| zm rfl <| aX (l := [7, 8, 9, 10, 11, 12, 13, 14, 15, 16, 17, 18, 19, 20, 21]) 9 (B ((!decide (a1 = ([] : List UInt8))) && (decide ((a1.length : Int) ≤ 60)))) (fun K => ?_) ?_
 ·rcases ak (!decide (a1 = ([] : List UInt8))) with h3 | h3
  ·refine zM h3 rfl <| zU h3 rfl (bu ag rfl) <| zU h3 rfl (fk rfl rfl) <| zS rfl (aE (av := .v _) rfl h3 rfl) ?_;exact K _ 3 _ (ay (cA h3)) rfl rfl
  ·refine zF h3 rfl <| zF h3 rfl <| zF h3 rfl <| zS rfl (aF (av := .v _) rfl h3 rfl) ?_;exact K _ 3 _ (ay (cB h3)) rfl rfl
 refine zm rfl <| aX (l := [12, 13, 14, 15, 16, 17, 18, 19, 20, 21]) 14 (B (((!decide (a1 = ([] : List UInt8))) && (decide ((a1.length : Int) ≤ 60))) && x9)) (fun K => ?_) ?_
 ·rcases ak ((!decide (a1 = ([] : List UInt8))) && (decide ((a1.length : Int) ≤ 60))) with h4 | h4
  ·refine zM h4 rfl <| zU h4 rfl (lF ag rfl rfl (g5 h4) e7) <| zT h4 rfl (aG rfl mb rfl (show ACalls _ _ _ [] (Ret (B x9) []) from by subst e10; exact jq xmla_k2 x6 (lc (g8 h4))) ?_);refine zS rfl (aE (av := .v _) rfl h4 rfl) ?_;exact K _ 3 _ (ay (cA h4)) rfl rfl
  ·refine zF h4 rfl <| zF h4 rfl <| zF h4 rfl <| zS rfl (aF (av := .v _) rfl h4 rfl) ?_;exact K _ 3 _ (ay (cB h4)) rfl rfl
 refine zm rfl <| aX (l := [17, 18, 19, 20, 21]) 19 (B ((((!decide (a1 = ([] : List UInt8))) && (decide ((a1.length : Int) ≤ 60))) && x9) && (decide (x15 = ([] : List UInt8))))) (fun K => ?_) ?_
 ·rcases ak (((!decide (a1 = ([] : List UInt8))) && (decide ((a1.length : Int) ≤ 60))) && x9) with h11 | h11
  ·refine zM h11 rfl <| zT h11 rfl (aG rfl tj rfl (show ACalls _ _ _ [] (Ret (S x15) []) from by subst e16; exact lib_Trim a1 xmla_k1 (lc (g12 h11)) (lc (g13 h11)) (g14 h11)) ?_);refine zU h11 rfl (eV rfl rfl) <| zS rfl (aE (av := .v _) rfl h11 rfl) ?_;exact K _ 3 _ (ay (cA h11)) rfl rfl
  ·refine zF h11 rfl <| zF h11 rfl <| zF h11 rfl <| zS rfl (aF (av := .v _) rfl h11 rfl) ?_;exact K _ 3 _ (ay (cB h11)) rfl rfl
 refine zm rfl <| aX (l := [21]) 23 (B (((((!decide (a1 = ([] : List UInt8))) && (decide ((a1.length : Int) ≤ 60))) && x9) && (decide (x15 = ([] : List UInt8)))) && x18)) (fun K => ?_) ?_
 ·rcases ak ((((!decide (a1 = ([] : List UInt8))) && (decide ((a1.length : Int) ≤ 60))) && x9) && (decide (x15 = ([] : List UInt8)))) with h17 | h17
  ·refine zM h17 rfl <| zT h17 rfl (aG rfl ti rfl (ri F a1 x18 (e19 h17)) ?_);refine zS rfl (aE (av := .v _) rfl h17 rfl) ?_;exact K _ 2 _ (ay (cA h17)) rfl rfl
  ·refine zF h17 rfl <| zF h17 rfl <| zS rfl (aF (av := .v _) rfl h17 rfl) ?_;exact K _ 2 _ (ay (cB h17)) rfl rfl
 refine za rfl <| ai <| aJ ?_;obtain rfl := al H;exact And.intro rfl (Exists.intro _ (Exists.intro _ ⟨aC rfl (.refl _), aH [] rfl, rfl, rfl⟩))
set_option maxRecDepth 100000 in
set_option maxHeartbeats 1000000 in
theorem mg (F : Nat) (a1 : Bool) (rv : Res Unit) (H : cc F a1 = some rv) : ACalls Tryz.prog 23 [B a1] [] (jf (fun (r : Unit) => (Ret (.tup []) [])) (fun e => cx (.iface 46 (.agg #[.int .i64 e]))) rv) := by
 unfold cc at H
 refine au Tryz.func23 rfl rfl ?_;show AW _ _ 6 _ _ _;refine ac <| aa ?_;show AR _ _ _ _ _ [0, 1] _;refine zm rfl <| zS rfl (ce rfl) <| ai <| ax rfl (fun c2 => ?_) (fun c2 => ?_)
 ·replace H := aY c2 H;obtain rfl := al H;refine aa ?_;show AR _ _ _ _ _ [0, 1, 2] _;refine zS rfl (eX (zs := [.int .i64 0]) (ps := [(0, 1)]) (cs := [i64 2]) (by kernel_rfl) rfl rfl) <| zS rfl (bk (a := .agg _) Tryz.underlying46 rfl rfl) <| am rfl rfl (AO.panicT (c := cx (.iface 46 (.agg #[.int .i64 2]))) rfl rfl ?_);exact And.intro rfl (Exists.intro [] ⟨aU _, rfl, rfl⟩)
 ·replace H := aZ c2 H;refine aB ?_;obtain rfl := al H;exact And.intro rfl (Exists.intro _ (Exists.intro _ ⟨bL rfl, aH [] rfl, rfl, rfl⟩))
theorem bJ (F : Nat) (a1 : Bool) (H : cc F a1 = some (Res.ok ())) : ACalls Tryz.prog 23 [B a1] [] (Ret (.tup []) []) := mg F a1 _ H
theorem bB (F : Nat) (a1 : Bool) (e : Int) (H : cc F a1 = some (Res.pan e)) : ACalls Tryz.prog 23 [B a1] [] (fun ae A' => ae = .pan ((fun e => cx (.iface 46 (.agg #[.int .i64 e]))) e) ∧ A' = []) := mg F a1 _ H
set_option maxRecDepth 100000 in
set_option maxHeartbeats 1000000 in
theorem df (F : Nat) (o1 : Nat) (a2 : List UInt8) (a3 : List (List UInt8)) (t4 : Nat) (a5 : Int) (a6 : List (Int × (List UInt8) × (List UInt8) × List ((List UInt8) × List UInt8))) (t7 : Nat) (a8 : List UInt8) (r9 : Bool) (r10 : List UInt8) (H : dF F a2 a3 a5 a6 a8 = some (r9, r10)) : ACalls Tryz.prog 67 [.pt o1 0, S a8] [.obj o1 [S a2, .sk t4 a3.length, i64 a5, slE (ab Enc.int (ab Enc.str (ab Enc.str (Enc.sl (ab Enc.str Enc.str))))) a6 (some t7)], .stk t4 (Enc.str.fl a3), .tok t7 33] (fun e A' => e = .ret (B r9) ∧ A' = [.obj o1 [S r10, .sk t4 a3.length, i64 a5, slE (ab Enc.int (ab Enc.str (ab Enc.str (Enc.sl (ab Enc.str Enc.str))))) a6 (some t7)], .stk t4 (Enc.str.fl a3), .tok t7 33]) := by
 unfold dF at H
 refine au Tryz.func67 rfl rfl ?_;show AW _ _ 21 _ _ _;refine ac <| aa ?_;show AR _ _ _ _ _ [0] _;refine za rfl <| ai <| ac ?_;obtain ⟨x11, e12, H⟩ := bM H;refine aa ?_;show AR _ _ _ _ _ [0, 1, 2, 3, 4, 5, 6, 7, 8, 9, 10] _;refine zS rfl (af (av := .pt _ _) rfl) <| zS rfl (aq rfl) <| zS rfl (an (n := 0) (by kernel_rfl) rfl) <| zR rfl (ao (i := 0) ag rfl rfl rfl rfl) <| zm rfl <| am rfl rfl (aG rfl sY rfl (show ACalls _ _ _ [] (Ret (.tup [S x11.1, B x11.2]) []) from by subst e12; exact iH a2 a8) ?_);refine zS rfl (af (av := .tup _) rfl) <| zS rfl (aI (av := .v _) rfl rfl) <| zS rfl (aI (av := .v _) rfl rfl) <| za rfl <| za rfl <| ai <| ac <| aa ?_;show AR _ _ _ _ _ [0, 1, 2, 3, 4] _;refine zS rfl (af (av := .pt _ _) rfl) <| zm rfl <| zS rfl (aq rfl) <| zS rfl (an (n := 0) (by kernel_rfl) rfl) <| s0 rfl rfl (az (i := 0) (c := .v _) (by kernel_rfl) rfl rfl rfl rfl (ah rfl)) <| ai <| ac <| aa ?_;show AR _ _ _ _ _ [0, 1] _;refine zm rfl <| za rfl <| ai <| aJ ?_;obtain ⟨rfl, rfl⟩ := fB H;exact And.intro rfl (Exists.intro _ (Exists.intro _ ⟨aC rfl (.refl _), aH [0, 0, 0] rfl, rfl, rfl⟩))
set_option maxRecDepth 100000 in
set_option maxHeartbeats 1000000 in
theorem oq (F : Nat) (o1 : Nat) (a2 : List UInt8) (a3 : List (List UInt8)) (t4 : Nat) (a5 : Int) (a6 : List (Int × (List UInt8) × (List UInt8) × List ((List UInt8) × List UInt8))) (t7 : Nat) (a8 : List UInt8) (rv : Res ((List UInt8) × (List UInt8))) (H : fD F a2 a3 a5 a6 a8 = some rv) : ACalls Tryz.prog 68 [.pt o1 0, S a8] [.obj o1 [S a2, .sk t4 a3.length, i64 a5, slE (ab Enc.int (ab Enc.str (ab Enc.str (Enc.sl (ab Enc.str Enc.str))))) a6 (some t7)], .stk t4 (Enc.str.fl a3), .tok t7 33] (jf (fun (r : (List UInt8) × (List UInt8)) => (fun e A' => e = .ret (S r.1) ∧ A' = [.obj o1 [S r.2, .sk t4 a3.length, i64 a5, slE (ab Enc.int (ab Enc.str (ab Enc.str (Enc.sl (ab Enc.str Enc.str))))) a6 (some t7)], .stk t4 (Enc.str.fl a3), .tok t7 33])) (fun e => cx (.iface 46 (.agg #[.int .i64 e]))) rv) := by
 unfold fD at H
 refine au Tryz.func68 rfl rfl ?_;show AW _ _ 25 _ _ _;refine ac <| aa ?_;show AR _ _ _ _ _ [0] _;refine za rfl <| ai <| ac ?_;obtain ⟨g11, H⟩ := aW H;obtain ⟨x12, e13, H⟩ := bM H;refine aa ?_;show AR _ _ _ _ _ [0, 1, 2, 3, 4, 5, 6, 7, 8, 9, 10, 11, 12] _;refine zS rfl (af (av := .pt _ _) rfl) <| zS rfl (aq rfl) <| zS rfl (an (n := 0) (by kernel_rfl) rfl) <| zR rfl (ao (i := 0) ag rfl rfl rfl rfl) <| zm rfl <| am rfl rfl (aG rfl sW rfl (show ACalls _ _ _ [] (Ret (.tup [S x12.1, S x12.2.1, B x12.2.2]) []) from by subst e13; exact lib_Cut a2 a8 (lc g11)) ?_);refine zS rfl (af (av := .tup _) rfl) <| zS rfl (aI (av := .v _) rfl rfl) <| zS rfl (aI (av := .v _) rfl rfl) <| zS rfl (aI (av := .v _) rfl rfl) <| za rfl <| za rfl <| za rfl <| ai <| ac ?_
 rcases Or.symm (co H) with ⟨p16, e15, H⟩ | ⟨x14, e15, H⟩
 ·subst H;refine aa ?_;show AR _ _ _ _ _ [0, 1] _;refine zm rfl <| am rfl rfl (bm (c := cx (.iface 46 (.agg #[.int .i64 p16]))) [] rfl bz rfl (bB F x12.2.2 p16 e15) rfl ?_);exact And.intro rfl (Exists.intro [] ⟨aU _, rfl, rfl⟩)
 refine aa ?_;show AR _ _ _ _ _ [0, 1] _;refine zm rfl <| am rfl rfl (aG rfl bz rfl (bJ F x12.2.2 e15) ?_);refine ai <| ac <| aa ?_;show AR _ _ _ _ _ [0, 1, 2, 3, 4] _;refine zS rfl (af (av := .pt _ _) rfl) <| zm rfl <| zS rfl (aq rfl) <| zS rfl (an (n := 0) (by kernel_rfl) rfl) <| s0 rfl rfl (az (i := 0) (c := .v _) (by kernel_rfl) rfl rfl rfl rfl (ah rfl)) <| ai <| ac <| aa ?_;show AR _ _ _ _ _ [0, 1] _;refine zm rfl <| za rfl <| ai <| aJ ?_;obtain rfl := al H;exact And.intro rfl (Exists.intro _ (Exists.intro _ ⟨aC rfl (.refl _), aH [0, 0, 0] rfl, rfl, rfl⟩))
theorem fV (F : Nat) (o1 : Nat) (a2 : List UInt8) (a3 : List (List UInt8)) (t4 : Nat) (a5 : Int) (a6 : List (Int × (List UInt8) × (List UInt8) × List ((List UInt8) × List UInt8))) (t7 : Nat) (a8 : List UInt8) (r9 : List UInt8) (r10 : List UInt8) (H : fD F a2 a3 a5 a6 a8 = some (Res.ok (r9, r10))) : ACalls Tryz.prog 68 [.pt o1 0, S a8] [.obj o1 [S a2, .sk t4 a3.length, i64 a5, slE (ab Enc.int (ab Enc.str (ab Enc.str (Enc.sl (ab Enc.str Enc.str))))) a6 (some t7)], .stk t4 (Enc.str.fl a3), .tok t7 33] (fun e A' => e = .ret (S r9) ∧ A' = [.obj o1 [S r10, .sk t4 a3.length, i64 a5, slE (ab Enc.int (ab Enc.str (ab Enc.str (Enc.sl (ab Enc.str Enc.str))))) a6 (some t7)], .stk t4 (Enc.str.fl a3), .tok t7 33]) := oq F o1 a2 a3 t4 a5 a6 t7 a8 _ H
theorem fh (F : Nat) (o1 : Nat) (a2 : List UInt8) (a3 : List (List UInt8)) (t4 : Nat) (a5 : Int) (a6 : List (Int × (List UInt8) × (List UInt8) × List ((List UInt8) × List UInt8))) (t7 : Nat) (a8 : List UInt8) (e : Int) (H : fD F a2 a3 a5 a6 a8 = some (Res.pan e)) : ACalls Tryz.prog 68 [.pt o1 0, S a8] [.obj o1 [S a2, .sk t4 a3.length, i64 a5, slE (ab Enc.int (ab Enc.str (ab Enc.str (Enc.sl (ab Enc.str Enc.str))))) a6 (some t7)], .stk t4 (Enc.str.fl a3), .tok t7 33] (fun ae A' => ae = .pan ((fun e => cx (.iface 46 (.agg #[.int .i64 e]))) e) ∧ A' = []) := oq F o1 a2 a3 t4 a5 a6 t7 a8 _ H
set_option maxRecDepth 100000 in
set_option maxHeartbeats 1000000 in
theorem mh (F : Nat) (o1 : Nat) (a2 : List UInt8) (a3 : List (List UInt8)) (t4 : Nat) (a5 : Int) (a6 : List (Int × (List UInt8) × (List UInt8) × List ((List UInt8) × List UInt8))) (t7 : Nat) (r8 : Bool) (r9 : List UInt8) (H : hP F a2 a3 a5 a6 = some (r8, r9)) : ACalls Tryz.prog 70 [.pt o1 0] [.obj o1 [S a2, .sk t4 a3.length, i64 a5, slE (ab Enc.int (ab Enc.str (ab Enc.str (Enc.sl (ab Enc.str Enc.str))))) a6 (some t7)], .stk t4 (Enc.str.fl a3), .tok t7 33] (fun e A' => e = .ret (B r8) ∧ A' = [.obj o1 [S r9, .sk t4 a3.length, i64 a5, slE (ab Enc.int (ab Enc.str (ab Enc.str (Enc.sl (ab Enc.str Enc.str))))) a6 (some t7)], .stk t4 (Enc.str.fl a3), .tok t7 33]) := by
 unfold hP at H
 refine au Tryz.func70 rfl rfl ?_;show AW _ _ 24 _ _ _;refine ac <| aa ?_;show AR _ _ _ _ _ [0] _;refine za rfl <| ai <| ac <| aa ?_;show AR _ _ _ _ _ [0, 1, 2, 3, 4, 5] _;refine zS rfl (af (av := .pt _ _) rfl) <| zS rfl (aq rfl) <| zS rfl (an (n := 0) (by kernel_rfl) rfl) <| zR rfl (ao (i := 0) ag rfl rfl rfl rfl) <| zS rfl (bu ag rfl) <| za rfl <| ai <| ac ?_;obtain ⟨g10, H⟩ := aW H;obtain ⟨g11, H⟩ := aW H;obtain ⟨x12, e13, H⟩ := bM H;refine aa ?_;show AR _ _ _ _ _ [0, 1, 2, 3, 4, 5, 6, 7, 8] _;refine zS rfl (af (av := .pt _ _) rfl) <| zS rfl (af (av := .pt _ _) rfl) <| zS rfl (aq rfl) <| zS rfl (an (n := 0) (by kernel_rfl) rfl) <| zR rfl (ao (i := 0) ag rfl rfl rfl rfl) <| am rfl rfl (aG rfl sV rfl (show ACalls _ _ _ [] (Ret (S x12) []) from by subst e13; exact pG a2 ([9, 10, 13, 32] : List UInt8) (lc g10) g11) ?_);refine zS rfl (aq rfl) <| zS rfl (an (n := 0) (by kernel_rfl) rfl) <| s0 rfl rfl (az (i := 0) (c := .v _) (by kernel_rfl) rfl rfl rfl rfl (ah rfl)) <| ai <| ac <| aa ?_;show AR _ _ _ _ _ [0, 1, 2, 3, 4, 5, 6, 7] _
 refine zS rfl (af (av := .pt _ _) rfl) <| zS rfl (aq rfl) <| zS rfl (an (n := 0) (by kernel_rfl) rfl) <| zR rfl (ao (i := 0) ag rfl rfl rfl rfl) <| zS rfl (bu ag rfl) <| zm rfl <| zS rfl (bU rfl rfl) <| za rfl <| ai <| aJ ?_;obtain ⟨rfl, rfl⟩ := fB H;exact And.intro rfl (Exists.intro _ (Exists.intro _ ⟨aC rfl (.refl _), aH [0, 0, 0] rfl, rfl, rfl⟩))
set_option maxRecDepth 100000 in
set_option maxHeartbeats 1000000 in
theorem ow (F : Nat) (o1 : Nat) (a2 : List UInt8) (a3 : List (List UInt8)) (t4 : Nat) (a5 : Int) (a6 : List (Int × (List UInt8) × (List UInt8) × List ((List UInt8) × List UInt8))) (t7 : Nat) (rv : Res ((List UInt8) × (List UInt8))) (H : iL F a2 a3 a5 a6 = some rv) : ACalls Tryz.prog 69 [.pt o1 0] [.obj o1 [S a2, .sk t4 a3.length, i64 a5, slE (ab Enc.int (ab Enc.str (ab Enc.str (Enc.sl (ab Enc.str Enc.str))))) a6 (some t7)], .stk t4 (Enc.str.fl a3), .tok t7 33] (jf (fun (r : (List UInt8) × (List UInt8)) => (fun e A' => e = .ret (S r.1) ∧ A' = [.obj o1 [S r.2, .sk t4 a3.length, i64 a5, slE (ab Enc.int (ab Enc.str (ab Enc.str (Enc.sl (ab Enc.str Enc.str))))) a6 (some t7)], .stk t4 (Enc.str.fl a3), .tok t7 33])) (fun e => cx (.iface 46 (.agg #[.int .i64 e]))) rv) := by
 unfold iL at H
 refine au Tryz.func69 rfl rfl ?_;show AW _ _ 43 _ _ _;refine ac <| aa ?_;show AR _ _ _ _ _ [0] _;refine za rfl <| ai <| ac <| aa ?_;show AR _ _ _ _ _ [0] _;refine za rfl <| ai <| bV (X := Int) (fun y21 => ⟨[(0, .pt o1 0), (3, i64 y21)], [], [.obj o1 [S a2, .sk t4 a3.length, i64 a5, slE (ab Enc.int (ab Enc.str (ab Enc.str (Enc.sl (ab Enc.str Enc.str))))) a6 (some t7)], .stk t4 (Enc.str.fl a3), .tok t7 33]⟩) (fun y21 => gd F a2 y21 = some rv) ?_ ?_
 ·refine aP <| dp (X := Nat × Int) (fun (n12, y10) => ⟨[(0, .pt o1 0), (3, i64 y10)], [], [.obj o1 [S a2, .sk t4 a3.length, i64 a5, slE (ab Enc.int (ab Enc.str (ab Enc.str (Enc.sl (ab Enc.str Enc.str))))) a6 (some t7)], .stk t4 (Enc.str.fl a3), .tok t7 33]⟩) (fun (n12, y10) => ia F a2 n12 y10 = some rv) (fun (n12, y10) => n12) (F, 0) H (bf [0, 0, 0] (.cons (.refl _) (.cons (.refl _) (.nil _))) rfl) ?_;rintro ⟨n12, y10⟩ H;obtain ⟨n12, rfl, H⟩ := eT H;replace H : ib F a2 (ia F a2 n12) y10 = some rv := H
  unfold ib at H
  refine ac <| ac ?_;obtain ⟨g14, H⟩ := cz H;obtain ⟨x15, e16, H⟩ := bM H;obtain ⟨x17, e18, H⟩ := bM H;refine aa ?_;show AR _ _ _ _ _ [0, 1, 2, 3, 4, 5, 6, 7, 8, 9, 10, 11, 12, 13, 14, 15, 16] _;refine zm rfl <| zS rfl (af (av := .pt _ _) rfl) <| zS rfl (aq rfl) <| zS rfl (an (n := 0) (by kernel_rfl) rfl) <| zR rfl (ao (i := 0) ag rfl rfl rfl rfl) <| zS rfl (bu ag rfl) <| zS rfl (bU rfl rfl) <| zm rfl <| aX (l := []) 21 (B ((decide (y10 < (a2.length : Int))) && (decide (0 ≤ x17)))) (fun K => ?_) ?_
  ·rcases ak (decide (y10 < (a2.length : Int))) with h13 | h13
   ·refine zU h13 rfl (af (av := .pt _ _) rfl) <| zU h13 rfl (aq rfl) <| zU h13 rfl (an (n := 0) (by kernel_rfl) rfl) <| zT h13 rfl (bP rfl rfl (ao (i := 0) ag rfl rfl rfl rfl) ?_);refine zM h13 rfl <| zU h13 rfl (bj ag rfl rfl (g14 h13) e16) <| zT h13 rfl (aG rfl ma rfl (show ACalls _ _ _ [] (Ret (i64 x17) []) from by subst e18; exact dD xmla_k1 x15) ?_);refine zU h13 rfl (eS rfl rfl) <| zS rfl (aE (av := .v _) rfl h13 rfl) ?_;exact K _ 8 _ (ay (cA h13)) rfl rfl
   ·refine zF h13 rfl <| zF h13 rfl <| zF h13 rfl <| zF h13 rfl <| zF h13 rfl <| zF h13 rfl <| zF h13 rfl <| zF h13 rfl <| zS rfl (aF (av := .v _) rfl h13 rfl) ?_;exact K _ 8 _ (ay (cB h13)) rfl rfl
  refine ai <| ax rfl (fun c19 => ?_) (fun c19 => ?_)
  ·replace H := aY c19 H;refine aB <| aP ?_;obtain ⟨g20, H⟩ := aW H;refine aa ?_;show AR _ _ _ _ _ [0, 1, 2] _;refine zm rfl <| zS rfl (fa rfl rfl g20) <| za rfl <| ai ?_;exact Exists.intro (n12, y10 + 1) ⟨H, Nat.lt_succ_self _, bf [0, 0, 0] (.cons (.refl _) (.cons (.refl _) (.nil _))) rfl⟩
  ·replace H := aZ c19 H;refine cC ?_;exact Exists.intro y10 ⟨H, bf [0, 0, 0] (.cons (.refl _) (.cons (.refl _) (.nil _))) rfl⟩
 rintro y21 H;replace H : gd F a2 y21 = some rv := H
 unfold gd at H
 refine ac ?_;obtain ⟨g23, H⟩ := aW H;obtain ⟨x24, e25, H⟩ := bM H;refine aa ?_;show AR _ _ _ _ _ [0, 1, 2, 3, 4, 5, 6] _;refine zS rfl (af (av := .pt _ _) rfl) <| zS rfl (aq rfl) <| zS rfl (an (n := 0) (by kernel_rfl) rfl) <| zR rfl (ao (i := 0) ag rfl rfl rfl rfl) <| zm rfl <| zS rfl (lF ag rfl rfl g23 e25) <| za rfl <| ai <| ac ?_;obtain ⟨x26, e27, H⟩ := eD H
 rcases Or.symm (co H) with ⟨p30, e29, H⟩ | ⟨x28, e29, H⟩
 ·subst H;refine aa ?_;show AR _ _ _ _ _ [0, 1, 2] _;refine zm rfl <| am rfl rfl (aG rfl pi rfl (lV F x24 x26 e27) ?_);refine am rfl rfl (bm (c := cx (.iface 46 (.agg #[.int .i64 p30]))) [] rfl bz rfl (bB F x26 p30 e29) rfl ?_);exact And.intro rfl (Exists.intro [] ⟨aU _, rfl, rfl⟩)
 refine aa ?_;show AR _ _ _ _ _ [0, 1, 2] _;refine zm rfl <| am rfl rfl (aG rfl pi rfl (lV F x24 x26 e27) ?_);refine am rfl rfl (aG rfl bz rfl (bJ F x26 e29) ?_);refine ai <| ac ?_;obtain ⟨g31, H⟩ := aW H;obtain ⟨x32, e33, H⟩ := bM H;refine aa ?_;show AR _ _ _ _ _ [0, 1, 2, 3, 4, 5, 6, 7, 8, 9] _;refine zS rfl (af (av := .pt _ _) rfl) <| zS rfl (af (av := .pt _ _) rfl) <| zS rfl (aq rfl) <| zS rfl (an (n := 0) (by kernel_rfl) rfl) <| zR rfl (ao (i := 0) ag rfl rfl rfl rfl) <| zm rfl <| zS rfl (dE ag rfl rfl g31 e33) <| zS rfl (aq rfl) <| zS rfl (an (n := 0) (by kernel_rfl) rfl) <| s0 rfl rfl (az (i := 0) (c := .v _) (by kernel_rfl) rfl rfl rfl rfl (ah rfl)) <| ai <| ac <| aa ?_;show AR _ _ _ _ _ [0, 1] _;refine zm rfl <| za rfl <| ai <| aJ ?_;obtain rfl := al H;exact And.intro rfl (Exists.intro _ (Exists.intro _ ⟨aC rfl (.refl _), aH [0, 0, 0] rfl, rfl, rfl⟩))
theorem jn (F : Nat) (o1 : Nat) (a2 : List UInt8) (a3 : List (List UInt8)) (t4 : Nat) (a5 : Int) (a6 : List (Int × (List UInt8) × (List UInt8) × List ((List UInt8) × List UInt8))) (t7 : Nat) (r8 : List UInt8) (r9 : List UInt8) (H : iL F a2 a3 a5 a6 = some (Res.ok (r8, r9))) : ACalls Tryz.prog 69 [.pt o1 0] [.obj o1 [S a2, .sk t4 a3.length, i64 a5, slE (ab Enc.int (ab Enc.str (ab Enc.str (Enc.sl (ab Enc.str Enc.str))))) a6 (some t7)], .stk t4 (Enc.str.fl a3), .tok t7 33] (fun e A' => e = .ret (S r8) ∧ A' = [.obj o1 [S r9, .sk t4 a3.length, i64 a5, slE (ab Enc.int (ab Enc.str (ab Enc.str (Enc.sl (ab Enc.str Enc.str))))) a6 (some t7)], .stk t4 (Enc.str.fl a3), .tok t7 33]) := ow F o1 a2 a3 t4 a5 a6 t7 _ H
theorem iA (F : Nat) (o1 : Nat) (a2 : List UInt8) (a3 : List (List UInt8)) (t4 : Nat) (a5 : Int) (a6 : List (Int × (List UInt8) × (List UInt8) × List ((List UInt8) × List UInt8))) (t7 : Nat) (e : Int) (H : iL F a2 a3 a5 a6 = some (Res.pan e)) : ACalls Tryz.prog 69 [.pt o1 0] [.obj o1 [S a2, .sk t4 a3.length, i64 a5, slE (ab Enc.int (ab Enc.str (ab Enc.str (Enc.sl (ab Enc.str Enc.str))))) a6 (some t7)], .stk t4 (Enc.str.fl a3), .tok t7 33] (fun ae A' => ae = .pan ((fun e => cx (.iface 46 (.agg #[.int .i64 e]))) e) ∧ A' = []) := ow F o1 a2 a3 t4 a5 a6 t7 _ H
set_option maxRecDepth 100000 in
set_option maxHeartbeats 1000000 in
theorem mj (F : Nat) (a1 : List UInt8) (rv : Res ((List UInt8))) (H : fK F a1 = some rv) : ACalls Tryz.prog 64 [S a1] [] (jf (fun (r : (List UInt8)) => (Ret (S r) [])) (fun e => cx (.iface 46 (.agg #[.int .i64 e]))) rv) := by
 unfold fK at H
 refine au Tryz.func64 rfl rfl ?_;show AW _ _ 14 _ _ _;refine ac <| aa ?_;show AR _ _ _ _ _ [0] _;refine za rfl <| ai <| ac ?_;obtain ⟨x3, x4, e5, H⟩ := cT H;refine aa ?_;show AR _ _ _ _ _ [0, 1, 2, 3, 4, 5, 6] _;refine zm rfl <| am rfl rfl (aG rfl tc rfl (pA F a1 x3 x4 e5) ?_);refine zS rfl (af (av := .tup _) rfl) <| zS rfl (aI (av := .v _) rfl rfl) <| zS rfl (aI (av := .v _) rfl rfl) <| za rfl <| za rfl <| ai <| ac ?_
 rcases Or.symm (co H) with ⟨p8, e7, H⟩ | ⟨x6, e7, H⟩
 ·subst H;refine aa ?_;show AR _ _ _ _ _ [0, 1, 2] _;refine zm rfl <| zS rfl (bW rfl rfl) <| am rfl rfl (bm (c := cx (.iface 46 (.agg #[.int .i64 p8]))) [] rfl bz rfl (bB F (decide (x4 = 0)) p8 e7) rfl ?_);exact And.intro rfl (Exists.intro [] ⟨aU _, rfl, rfl⟩)
 refine aa ?_;show AR _ _ _ _ _ [0, 1, 2] _;refine zm rfl <| zS rfl (bW rfl rfl) <| am rfl rfl (aG rfl bz rfl (bJ F (decide (x4 = 0)) e7) ?_);refine ai <| ac <| aa ?_;show AR _ _ _ _ _ [0, 1] _;refine zm rfl <| za rfl <| ai <| aJ ?_;obtain rfl := al H;exact And.intro rfl (Exists.intro _ (Exists.intro _ ⟨aC rfl (.refl _), aH [] rfl, rfl, rfl⟩))
theorem jQ (F : Nat) (a1 : List UInt8) (r2 : List UInt8) (H : fK F a1 = some (Res.ok r2)) : ACalls Tryz.prog 64 [S a1] [] (Ret (S r2) []) := mj F a1 _ H
theorem jy (F : Nat) (a1 : List UInt8) (e : Int) (H : fK F a1 = some (Res.pan e)) : ACalls Tryz.prog 64 [S a1] [] (fun ae A' => ae = .pan ((fun e => cx (.iface 46 (.agg #[.int .i64 e]))) e) ∧ A' = []) := mj F a1 _ H
abbrev _root_.Go.Av.aw := @Tryz.underlying24
set_option maxRecDepth 100000 in
set_option maxHeartbeats 1000000 in
theorem ot (F : Nat) (o1 : Nat) (a2 : List UInt8) (a3 : List (List UInt8)) (t4 : Nat) (a5 : Int) (a6 : List (Int × (List UInt8) × (List UInt8) × List ((List UInt8) × List UInt8))) (t7 : Nat) (a8 : List UInt8) (r9 : List (Int × (List UInt8) × (List UInt8) × List ((List UInt8) × List UInt8))) (H : ku F a2 a3 a5 a6 a8 = some r9) : ACalls Tryz.prog 66 [.pt o1 0, S a8] [.obj o1 [S a2, .sk t4 a3.length, i64 a5, slE (ab Enc.int (ab Enc.str (ab Enc.str (Enc.sl (ab Enc.str Enc.str))))) a6 (some t7)], .stk t4 (Enc.str.fl a3), .tok t7 33] (fun e A' => e = .ret (.tup []) ∧ ∃ t10, A' = [.obj o1 [S a2, .sk t4 a3.length, i64 a5, slE (ab Enc.int (ab Enc.str (ab Enc.str (Enc.sl (ab Enc.str Enc.str))))) r9 (some t10)], .stk t4 (Enc.str.fl a3), .tok t10 33]) := by
 unfold ku at H
 refine au Tryz.func66 rfl rfl ?_;show AW _ _ 17 _ _ _;refine ac <| aa ?_;show AR _ _ _ _ _ [0, 1] _;refine zm rfl <| zS rfl (lM rfl rfl) <| ai <| ax rfl (fun c11 => ?_) (fun c11 => ?_)
 ·replace H := aY c11 H;obtain ⟨g13, H⟩ := aW H;obtain ⟨x14, e15, H⟩ := bM H;refine aa ?_;show AR _ _ _ _ _ [0, 1, 2, 3, 4, 5, 6, 7, 8, 9, 10, 11] _;refine zS rfl (af (av := .pt _ _) rfl) <| zS rfl (af (av := .pt _ _) rfl) <| zS rfl (aq rfl) <| zS rfl (an (n := 3) (by kernel_rfl) rfl) <| zR rfl (ao (i := 0) aw rfl rfl rfl rfl) <| zm rfl <| zS rfl (eX (zs := [.int .i64 0, .string ⟨#[]⟩, .string ⟨#[]⟩, .slice none 0 0]) (ps := [(0, 1), (1, 1), (2, 1), (3, 1)]) (cs := [i64 2, S ([] : List UInt8), S a8, fW]) (by kernel_rfl) rfl rfl) <| zR rfl (dV (ds := [i64 2, S ([] : List UInt8), S a8, slE (ab Enc.str Enc.str) ([] : List ((List UInt8) × List UInt8)) none]) 12 (.cons (.refl _) (.cons (.refl _) (.cons (.refl _) (.cons (.nil _) (.nil))))) (hc := rfl) <| dz (E := (ab Enc.int (ab Enc.str (ab Enc.str (Enc.sl (ab Enc.str Enc.str)))))) (bytes := 64) (zs := [.int .i64 0, .string ⟨#[]⟩, .string ⟨#[]⟩, .slice none 0 0]) (l := ([(2, ([] : List UInt8), a8, ([] : List ((List UInt8) × List UInt8)))] : List (Int × (List UInt8) × (List UInt8) × List ((List UInt8) × List UInt8)))) aw (by kernel_rfl) (by kernel_rfl) rfl rfl rfl rfl rfl) <| zX rfl (im (E := (ab Enc.int (ab Enc.str (ab Enc.str (Enc.sl (ab Enc.str Enc.str)))))) (bytes := 64) 2 aw aw rfl (by kernel_rfl) rfl rfl rfl rfl g13 e15) ?_;rintro _ _ ⟨t12, rfl, rfl⟩
  refine zS rfl (aq rfl) <| zS rfl (an (n := 3) (by kernel_rfl) rfl) <| s0 rfl rfl (az (i := 0) (c := slE _ _ _) (by kernel_rfl) rfl rfl rfl rfl (ah rfl)) <| ai ?_;obtain rfl := al H;exact And.intro rfl (Exists.intro _ (Exists.intro _ ⟨bL rfl, aH [0, 0, 0] rfl, rfl, t12, rfl⟩))
 ·replace H := aZ c11 H;refine aB ?_;obtain rfl := al H;exact And.intro rfl (Exists.intro _ (Exists.intro _ ⟨bL rfl, aH [0, 0, 0] rfl, rfl, t7, rfl⟩))
set_option maxRecDepth 100000 in
set_option maxHeartbeats 1000000 in
theorem ov (F : Nat) (o1 : Nat) (a2 : List UInt8) (a3 : List (List UInt8)) (t4 : Nat) (a5 : Int) (a6 : List (Int × (List UInt8) × (List UInt8) × List ((List UInt8) × List UInt8))) (t7 : Nat) (a8 : List UInt8) (rv : Res ((List (Int × (List UInt8) × (List UInt8) × List ((List UInt8) × List UInt8))) × (List (List UInt8)))) (H : iK F a2 a3 a5 a6 a8 = some rv) : ACalls Tryz.prog 71 [.pt o1 0, S a8] [.obj o1 [S a2, .sk t4 a3.length, i64 a5, slE (ab Enc.int (ab Enc.str (ab Enc.str (Enc.sl (ab Enc.str Enc.str))))) a6 (some t7)], .stk t4 (Enc.str.fl a3), .tok t7 33] (jf (fun (r : (List (Int × (List UInt8) × (List UInt8) × List ((List UInt8) × List UInt8))) × (List (List UInt8))) => (fun e A' => e = .ret (.tup []) ∧ ∃ t10 t12, A' = [.obj o1 [S a2, .sk t10 r.2.length, i64 a5, slE (ab Enc.int (ab Enc.str (ab Enc.str (Enc.sl (ab Enc.str Enc.str))))) r.1 (some t12)], .stk t10 (Enc.str.fl r.2), .tok t12 33])) (fun e => cx (.iface 46 (.agg #[.int .i64 e]))) rv) := by
 unfold iK at H
 refine au Tryz.func71 rfl rfl ?_;show AW _ _ 45 _ _ _;refine ac ?_;obtain ⟨g13, H⟩ := aW H;refine aa ?_;show AR _ _ _ _ _ [0, 1, 2, 3, 4, 5, 6] _;refine zS rfl (af (av := .pt _ _) rfl) <| zS rfl (aq rfl) <| zS rfl (an (n := 1) (by kernel_rfl) rfl) <| zR rfl (ao (i := 0) ar rfl rfl rfl rfl) <| zS rfl (eM ar rfl) <| zS rfl (rf rfl rfl g13) <| za rfl <| ai <| ac ?_;obtain ⟨g15, H⟩ := cz H;obtain ⟨g16, H⟩ := cz H;obtain ⟨x17, e18, H⟩ := bM H
 rcases Or.symm (co H) with ⟨p21, e20, H⟩ | ⟨x19, e20, H⟩
 ·subst H;refine aa ?_;show AR _ _ _ _ _ [0, 1, 2, 3, 4, 5, 6, 7, 8, 9, 10, 11, 12, 13] _;refine zm rfl <| zS rfl (eS rfl rfl) <| zm rfl <| aX (l := [13]) 23 (B ((decide (0 ≤ (a3.length : Int) - 1)) && (decide (x17 = a8)))) (fun K => ?_) ?_
  ·rcases ak (decide (0 ≤ (a3.length : Int) - 1)) with h14 | h14
   ·refine zU h14 rfl (af (av := .pt _ _) rfl) <| zU h14 rfl (aq rfl) <| zU h14 rfl (an (n := 1) (by kernel_rfl) rfl) <| zT h14 rfl (bP rfl rfl (ao (i := 0) ar rfl rfl rfl rfl) ?_);refine zM h14 rfl <| zU h14 rfl (jS ar (by kernel_rfl) rfl rfl (g15 h14)) <| zT h14 rfl (bP rfl rfl (nt (E := Enc.str) 1 ag rfl rfl rfl rfl (g16 h14) e18 rfl) ?_);refine zM h14 rfl <| zU h14 rfl (eV rfl rfl) <| zS rfl (aE (av := .v _) rfl h14 rfl) ?_;exact K _ 9 _ (ay (cA h14)) rfl rfl
   ·refine zF h14 rfl <| zF h14 rfl <| zF h14 rfl <| zF h14 rfl <| zF h14 rfl <| zF h14 rfl <| zF h14 rfl <| zF h14 rfl <| zF h14 rfl <| zS rfl (aF (av := .v _) rfl h14 rfl) ?_;exact K _ 9 _ (ay (cB h14)) rfl rfl
  refine am rfl rfl (bm (c := cx (.iface 46 (.agg #[.int .i64 p21]))) [] rfl bz rfl (bB F ((decide (0 ≤ (a3.length : Int) - 1)) && (decide (x17 = a8))) p21 e20) rfl ?_);exact And.intro rfl (Exists.intro [] ⟨aU _, rfl, rfl⟩)
 refine aa ?_;show AR _ _ _ _ _ [0, 1, 2, 3, 4, 5, 6, 7, 8, 9, 10, 11, 12, 13] _;refine zm rfl <| zS rfl (eS rfl rfl) <| zm rfl <| aX (l := [13]) 23 (B ((decide (0 ≤ (a3.length : Int) - 1)) && (decide (x17 = a8)))) (fun K => ?_) ?_
 ·rcases ak (decide (0 ≤ (a3.length : Int) - 1)) with h14 | h14
  ·refine zU h14 rfl (af (av := .pt _ _) rfl) <| zU h14 rfl (aq rfl) <| zU h14 rfl (an (n := 1) (by kernel_rfl) rfl) <| zT h14 rfl (bP rfl rfl (ao (i := 0) ar rfl rfl rfl rfl) ?_);refine zM h14 rfl <| zU h14 rfl (jS ar (by kernel_rfl) rfl rfl (g15 h14)) <| zT h14 rfl (bP rfl rfl (nt (E := Enc.str) 1 ag rfl rfl rfl rfl (g16 h14) e18 rfl) ?_);refine zM h14 rfl <| zU h14 rfl (eV rfl rfl) <| zS rfl (aE (av := .v _) rfl h14 rfl) ?_;exact K _ 9 _ (ay (cA h14)) rfl rfl
  ·refine zF h14 rfl <| zF h14 rfl <| zF h14 rfl <| zF h14 rfl <| zF h14 rfl <| zF h14 rfl <| zF h14 rfl <| zF h14 rfl <| zF h14 rfl <| zS rfl (aF (av := .v _) rfl h14 rfl) ?_;exact K _ 9 _ (ay (cB h14)) rfl rfl
 refine am rfl rfl (aG rfl bz rfl (bJ F ((decide (0 ≤ (a3.length : Int) - 1)) && (decide (x17 = a8))) e20) ?_);refine ai <| ac ?_;obtain ⟨g22, H⟩ := aW H;obtain ⟨x23, e24, H⟩ := bM H;refine aa ?_;show AR _ _ _ _ _ [0, 1, 2, 3, 4, 5, 6, 7, 8, 9] _;refine zS rfl (af (av := .pt _ _) rfl) <| zS rfl (af (av := .pt _ _) rfl) <| zS rfl (aq rfl) <| zS rfl (an (n := 1) (by kernel_rfl) rfl) <| zR rfl (ao (i := 0) ar rfl rfl rfl rfl) <| zm rfl <| zR rfl (rF (E := Enc.str) 1 ar (by kernel_rfl) rfl rfl rfl rfl g22 e24) <| zS rfl (aq rfl) <| zS rfl (an (n := 1) (by kernel_rfl) rfl) <| s0 rfl rfl (az (i := 0) (c := .sk _ _) (by kernel_rfl) rfl rfl rfl rfl (ah rfl)) <| ai ?_;obtain ⟨g26, H⟩ := aW H;obtain ⟨x27, e28, H⟩ := bM H;refine aa ?_;show AR _ _ _ _ _ [0, 1, 2, 3, 4, 5, 6, 7, 8, 9, 10, 11] _
 refine zS rfl (af (av := .pt _ _) rfl) <| zS rfl (af (av := .pt _ _) rfl) <| zS rfl (aq rfl) <| zS rfl (an (n := 3) (by kernel_rfl) rfl) <| zR rfl (ao (i := 0) aw rfl rfl rfl rfl) <| zm rfl <| zS rfl (eX (zs := [.int .i64 0, .string ⟨#[]⟩, .string ⟨#[]⟩, .slice none 0 0]) (ps := [(0, 1), (1, 1), (2, 1), (3, 1)]) (cs := [i64 1, S a8, S ([] : List UInt8), fW]) (by kernel_rfl) rfl rfl) <| zR rfl (dV (ds := [i64 1, S a8, S ([] : List UInt8), slE (ab Enc.str Enc.str) ([] : List ((List UInt8) × List UInt8)) none]) 40 (.cons (.refl _) (.cons (.refl _) (.cons (.refl _) (.cons (.nil _) (.nil))))) (hc := rfl) <| dz (E := (ab Enc.int (ab Enc.str (ab Enc.str (Enc.sl (ab Enc.str Enc.str)))))) (bytes := 64) (zs := [.int .i64 0, .string ⟨#[]⟩, .string ⟨#[]⟩, .slice none 0 0]) (l := ([(1, a8, ([] : List UInt8), ([] : List ((List UInt8) × List UInt8)))] : List (Int × (List UInt8) × (List UInt8) × List ((List UInt8) × List UInt8)))) aw (by kernel_rfl) (by kernel_rfl) rfl rfl rfl rfl rfl) <| zX rfl (im (E := (ab Enc.int (ab Enc.str (ab Enc.str (Enc.sl (ab Enc.str Enc.str)))))) (bytes := 64) 2 aw aw rfl (by kernel_rfl) rfl rfl rfl rfl g26 e28) ?_;rintro _ _ ⟨t25, rfl, rfl⟩;refine zS rfl (aq rfl) <| zS rfl (an (n := 3) (by kernel_rfl) rfl) <| s0 rfl rfl (az (i := 0) (c := slE _ _ _) (by kernel_rfl) rfl rfl rfl rfl (ah rfl)) <| ai ?_
 obtain rfl := al H;exact And.intro rfl (Exists.intro _ (Exists.intro _ ⟨bL rfl, aH [0, 0, 0] rfl, rfl, t4, t25, rfl⟩))
theorem li (F : Nat) (o1 : Nat) (a2 : List UInt8) (a3 : List (List UInt8)) (t4 : Nat) (a5 : Int) (a6 : List (Int × (List UInt8) × (List UInt8) × List ((List UInt8) × List UInt8))) (t7 : Nat) (a8 : List UInt8) (r11 : List (Int × (List UInt8) × (List UInt8) × List ((List UInt8) × List UInt8))) (r9 : List (List UInt8)) (H : iK F a2 a3 a5 a6 a8 = some (Res.ok (r11, r9))) : ACalls Tryz.prog 71 [.pt o1 0, S a8] [.obj o1 [S a2, .sk t4 a3.length, i64 a5, slE (ab Enc.int (ab Enc.str (ab Enc.str (Enc.sl (ab Enc.str Enc.str))))) a6 (some t7)], .stk t4 (Enc.str.fl a3), .tok t7 33] (fun e A' => e = .ret (.tup []) ∧ ∃ t10 t12, A' = [.obj o1 [S a2, .sk t10 r9.length, i64 a5, slE (ab Enc.int (ab Enc.str (ab Enc.str (Enc.sl (ab Enc.str Enc.str))))) r11 (some t12)], .stk t10 (Enc.str.fl r9), .tok t12 33]) := ov F o1 a2 a3 t4 a5 a6 t7 a8 _ H
theorem kF (F : Nat) (o1 : Nat) (a2 : List UInt8) (a3 : List (List UInt8)) (t4 : Nat) (a5 : Int) (a6 : List (Int × (List UInt8) × (List UInt8) × List ((List UInt8) × List UInt8))) (t7 : Nat) (a8 : List UInt8) (e : Int) (H : iK F a2 a3 a5 a6 a8 = some (Res.pan e)) : ACalls Tryz.prog 71 [.pt o1 0, S a8] [.obj o1 [S a2, .sk t4 a3.length, i64 a5, slE (ab Enc.int (ab Enc.str (ab Enc.str (Enc.sl (ab Enc.str Enc.str))))) a6 (some t7)], .stk t4 (Enc.str.fl a3), .tok t7 33] (fun ae A' => ae = .pan ((fun e => cx (.iface 46 (.agg #[.int .i64 e]))) e) ∧ A' = []) := ov F o1 a2 a3 t4 a5 a6 t7 a8 _ H
set_option maxRecDepth 100000 in
set_option maxHeartbeats 1000000 in
theorem nl (F : Nat) (o1 : Nat) (a2 : List UInt8) (a3 : List (List UInt8)) (t4 : Nat) (a5 : Int) (a6 : List (Int × (List UInt8) × (List UInt8) × List ((List UInt8) × List UInt8))) (t7 : Nat) (rv : Res (Bool × (List UInt8) × (List (Int × (List UInt8) × (List UInt8) × List ((List UInt8) × List UInt8))))) (H : fX F a2 a3 a5 a6 = some rv) : ACalls Tryz.prog 37 [.pt o1 0] [.obj o1 [S a2, .sk t4 a3.length, i64 a5, slE (ab Enc.int (ab Enc.str (ab Enc.str (Enc.sl (ab Enc.str Enc.str))))) a6 (some t7)], .stk t4 (Enc.str.fl a3), .tok t7 33] (jf (fun (r : Bool × (List UInt8) × (List (Int × (List UInt8) × (List UInt8) × List ((List UInt8) × List UInt8)))) => (fun e A' => e = .ret (B r.1) ∧ ∃ t11, A' = [.obj o1 [S r.2.1, .sk t4 a3.length, i64 a5, slE (ab Enc.int (ab Enc.str (ab Enc.str (Enc.sl (ab Enc.str Enc.str))))) r.2.2 (some t11)], .stk t4 (Enc.str.fl a3), .tok t11 33])) (fun e => cx (.iface 46 (.agg #[.int .i64 e]))) rv) := by
 unfold fX at H
 refine au Tryz.func37 rfl rfl ?_;show AW _ _ 50 _ _ _;refine ac <| aa ?_;show AR _ _ _ _ _ [0] _;refine za rfl <| ai <| ac ?_;obtain ⟨x12, e13, H⟩ := bM H;refine aa ?_;show AR _ _ _ _ _ [0, 1, 2, 3, 4, 5] _;refine zS rfl (af (av := .pt _ _) rfl) <| zS rfl (aq rfl) <| zS rfl (an (n := 0) (by kernel_rfl) rfl) <| zR rfl (ao (i := 0) ag rfl rfl rfl rfl) <| am rfl rfl (aG rfl ma rfl (show ACalls _ _ _ [] (Ret (i64 x12) []) from by subst e13; exact dD a2 60) ?_);refine za rfl <| ai <| bV (X := Int) (fun y15 => ⟨[(0, .pt o1 0), (3, i64 y15)], [], [.obj o1 [S a2, .sk t4 a3.length, i64 a5, slE (ab Enc.int (ab Enc.str (ab Enc.str (Enc.sl (ab Enc.str Enc.str))))) a6 (some t7)], .stk t4 (Enc.str.fl a3), .tok t7 33]⟩) (fun y15 => dR F a2 a3 a5 a6 y15 = some rv) ?_ ?_
 ·refine ac <| aa ?_;show AR _ _ _ _ _ [0, 1] _;refine zm rfl <| zS rfl (bU rfl rfl) <| ai <| ax rfl (fun c14 => ?_) (fun c14 => ?_)
  ·replace H := aY c14 H;refine aa ?_;show AR _ _ _ _ _ [0, 1, 2, 3, 4, 5] _;refine zS rfl (af (av := .pt _ _) rfl) <| zS rfl (aq rfl) <| zS rfl (an (n := 0) (by kernel_rfl) rfl) <| zR rfl (ao (i := 0) ag rfl rfl rfl rfl) <| zS rfl (bu ag rfl) <| za rfl <| ai ?_;exact Exists.intro (a2.length : Int) ⟨H, bf [0, 0, 0] (.cons (.refl _) (.cons (.refl _) (.nil _))) rfl⟩
  ·replace H := aZ c14 H;refine aB ?_;exact Exists.intro x12 ⟨H, bf [0, 0, 0] (.cons (.refl _) (.cons (.refl _) (.nil _))) rfl⟩
 rintro y15 H;replace H : dR F a2 a3 a5 a6 y15 = some rv := H
 unfold dR at H
 refine ac <| ac <| aa ?_;show AR _ _ _ _ _ [0, 1] _;refine zm rfl <| zS rfl (bW rfl rfl) <| ai <| ax rfl (fun c17 => ?_) (fun c17 => ?_)
 ·replace H := aY c17 H;refine ac <| aa ?_;show AR _ _ _ _ _ [0] _;refine za rfl <| ai <| aJ ?_;obtain rfl := al H;exact And.intro rfl (Exists.intro _ (Exists.intro _ ⟨aC rfl (.refl _), aH [0, 0, 0] rfl, rfl, t7, rfl⟩))
 ·replace H := aZ c17 H;refine aB <| ac ?_;obtain ⟨g18, H⟩ := aW H;obtain ⟨x19, e20, H⟩ := bM H;refine aa ?_;show AR _ _ _ _ _ [0, 1, 2, 3, 4, 5, 6] _;refine zS rfl (af (av := .pt _ _) rfl) <| zS rfl (aq rfl) <| zS rfl (an (n := 0) (by kernel_rfl) rfl) <| zR rfl (ao (i := 0) ag rfl rfl rfl rfl) <| zm rfl <| zS rfl (lF ag rfl rfl g18 e20) <| za rfl <| ai <| ac ?_;obtain ⟨g21, H⟩ := aW H;obtain ⟨x22, e23, H⟩ := bM H;refine aa ?_;show AR _ _ _ _ _ [0, 1, 2, 3, 4, 5, 6, 7, 8, 9] _;refine zS rfl (af (av := .pt _ _) rfl) <| zS rfl (af (av := .pt _ _) rfl) <| zS rfl (aq rfl) <| zS rfl (an (n := 0) (by kernel_rfl) rfl) <| zR rfl (ao (i := 0) ag rfl rfl rfl rfl) <| zm rfl <| zS rfl (dE ag rfl rfl g21 e23) <| zS rfl (aq rfl) <| zS rfl (an (n := 0) (by kernel_rfl) rfl) <| s0 rfl rfl (az (i := 0) (c := .v _) (by kernel_rfl) rfl rfl rfl rfl (ah rfl)) <| ai <| ac ?_
  rcases Or.symm (co H) with ⟨p26, e25, H⟩ | ⟨x24, e25, H⟩
  ·subst H;refine aa ?_;show AR _ _ _ _ _ [0, 1, 2] _;refine zm rfl <| am rfl rfl (bm (c := cx (.iface 46 (.agg #[.int .i64 p26]))) [] rfl km rfl (jy F x19 p26 e25) rfl ?_);exact And.intro rfl (Exists.intro [] ⟨aU _, rfl, rfl⟩)
  refine aa ?_;show AR _ _ _ _ _ [0, 1, 2] _;refine zm rfl <| am rfl rfl (aG rfl km rfl (jQ F x19 x24 e25) ?_);refine za rfl <| ai <| ac <| ac <| aa ?_;show AR _ _ _ _ _ [0, 1, 2, 3, 4, 5] _;refine zS rfl (af (av := .pt _ _) rfl) <| zS rfl (aq rfl) <| zS rfl (an (n := 1) (by kernel_rfl) rfl) <| zR rfl (ao (i := 0) ar rfl rfl rfl rfl) <| zS rfl (eM ar rfl) <| zS rfl (bW rfl rfl) <| ai <| ax rfl (fun c27 => ?_) (fun c27 => ?_)
  ·replace H := aY c27 H;refine ac ?_;obtain ⟨x28, e29, H⟩ := eD H
   rcases Or.symm (co H) with ⟨p32, e31, H⟩ | ⟨x30, e31, H⟩
   ·subst H;refine aa ?_;show AR _ _ _ _ _ [0, 1, 2, 3] _;refine zm rfl <| am rfl rfl (aG rfl oZ rfl (nm F x19 x28 e29) ?_);refine zS rfl (eV rfl rfl) <| am rfl rfl (bm (c := cx (.iface 46 (.agg #[.int .i64 p32]))) [] rfl bz rfl (bB F (decide (x28 = ([] : List UInt8))) p32 e31) rfl ?_);exact And.intro rfl (Exists.intro [] ⟨aU _, rfl, rfl⟩)
   refine aa ?_;show AR _ _ _ _ _ [0, 1, 2, 3] _;refine zm rfl <| am rfl rfl (aG rfl oZ rfl (nm F x19 x28 e29) ?_);refine zS rfl (eV rfl rfl) <| am rfl rfl (aG rfl bz rfl (bJ F (decide (x28 = ([] : List UInt8))) e31) ?_);refine ai <| ac <| aa ?_;show AR _ _ _ _ _ [0] _;refine za rfl <| ai <| aJ ?_;obtain rfl := al H;exact And.intro rfl (Exists.intro _ (Exists.intro _ ⟨aC rfl (.refl _), aH [0, 0, 0] rfl, rfl, t7, rfl⟩))
  ·replace H := aZ c27 H;refine aB <| ac ?_;obtain ⟨x33, e34, H⟩ := eD H;refine aa ?_;show AR _ _ _ _ _ [0, 1, 2] _;refine zS rfl (af (av := .pt _ _) rfl) <| zm rfl <| am rfl rfl (bh [0, 0, 0] rfl oY rfl (ot F o1 x22 a3 t4 a5 a6 t7 x24 x33 e34) rfl (fun c A' h => by cases h.1) ?_)
   rintro av A' ⟨h, t35, rfl⟩; cases h
   refine ai <| ac <| aa ?_;show AR _ _ _ _ _ [0] _;refine za rfl <| ai <| aJ ?_;obtain rfl := al H;exact And.intro rfl (Exists.intro _ (Exists.intro _ ⟨aC rfl (.refl _), aH [0, 0, 0] rfl, rfl, t35, rfl⟩))
theorem nP (F : Nat) (o1 : Nat) (a2 : List UInt8) (a3 : List (List UInt8)) (t4 : Nat) (a5 : Int) (a6 : List (Int × (List UInt8) × (List UInt8) × List ((List UInt8) × List UInt8))) (t7 : Nat) (r8 : Bool) (r9 : List UInt8) (r10 : List (Int × (List UInt8) × (List UInt8) × List ((List UInt8) × List UInt8))) (H : fX F a2 a3 a5 a6 = some (Res.ok (r8, r9, r10))) : ACalls Tryz.prog 37 [.pt o1 0] [.obj o1 [S a2, .sk t4 a3.length, i64 a5, slE (ab Enc.int (ab Enc.str (ab Enc.str (Enc.sl (ab Enc.str Enc.str))))) a6 (some t7)], .stk t4 (Enc.str.fl a3), .tok t7 33] (fun e A' => e = .ret (B r8) ∧ ∃ t11, A' = [.obj o1 [S r9, .sk t4 a3.length, i64 a5, slE (ab Enc.int (ab Enc.str (ab Enc.str (Enc.sl (ab Enc.str Enc.str))))) r10 (some t11)], .stk t4 (Enc.str.fl a3), .tok t11 33]) := nl F o1 a2 a3 t4 a5 a6 t7 _ H
theorem mX (F : Nat) (o1 : Nat) (a2 : List UInt8) (a3 : List (List UInt8)) (t4 : Nat) (a5 : Int) (a6 : List (Int × (List UInt8) × (List UInt8) × List ((List UInt8) × List UInt8))) (t7 : Nat) (e : Int) (H : fX F a2 a3 a5 a6 = some (Res.pan e)) : ACalls Tryz.prog 37 [.pt o1 0] [.obj o1 [S a2, .sk t4 a3.length, i64 a5, slE (ab Enc.int (ab Enc.str (ab Enc.str (Enc.sl (ab Enc.str Enc.str))))) a6 (some t7)], .stk t4 (Enc.str.fl a3), .tok t7 33] (fun ae A' => ae = .pan ((fun e => cx (.iface 46 (.agg #[.int .i64 e]))) e) ∧ A' = []) := nl F o1 a2 a3 t4 a5 a6 t7 _ H
set_option maxRecDepth 100000 in
set_option maxHeartbeats 1000000 in
theorem lk (F : Nat) (o1 : Nat) (a2 : List UInt8) (a3 : List (List UInt8)) (t4 : Nat) (a5 : Int) (a6 : List (Int × (List UInt8) × (List UInt8) × List ((List UInt8) × List UInt8))) (t7 : Nat) (rv : Res (Bool × (List UInt8))) (H : ge F a2 a3 a5 a6 = some rv) : ACalls Tryz.prog 38 [.pt o1 0] [.obj o1 [S a2, .sk t4 a3.length, i64 a5, slE (ab Enc.int (ab Enc.str (ab Enc.str (Enc.sl (ab Enc.str Enc.str))))) a6 (some t7)], .stk t4 (Enc.str.fl a3), .tok t7 33] (jf (fun (r : Bool × (List UInt8)) => (fun e A' => e = .ret (B r.1) ∧ A' = [.obj o1 [S r.2, .sk t4 a3.length, i64 a5, slE (ab Enc.int (ab Enc.str (ab Enc.str (Enc.sl (ab Enc.str Enc.str))))) a6 (some t7)], .stk t4 (Enc.str.fl a3), .tok t7 33])) (fun e => cx (.iface 46 (.agg #[.int .i64 e]))) rv) := by
 unfold ge at H
 refine au Tryz.func38 rfl rfl ?_;show AW _ _ 8 _ _ _;refine ac <| aa ?_;show AR _ _ _ _ _ [0] _;refine za rfl <| ai <| ac <| ac ?_;obtain ⟨x10, x11, e12, H⟩ := cT H;refine aa ?_;show AR _ _ _ _ _ [0, 1, 2] _;refine zS rfl (af (av := .pt _ _) rfl) <| am rfl rfl (bh [0, 0, 0] rfl di rfl (df F o1 a2 a3 t4 a5 a6 t7 ([60, 33, 45, 45] : List UInt8) x10 x11 e12) rfl (fun c A' h => by cases h.1) ?_)
 rintro av A' ⟨h, rfl⟩; cases h
 refine zS rfl (ce rfl) <| ai <| ax rfl (fun c13 => ?_) (fun c13 => ?_)
 ·replace H := aY c13 H;refine ac <| aa ?_;show AR _ _ _ _ _ [0] _;refine za rfl <| ai <| aJ ?_;obtain rfl := al H;exact And.intro rfl (Exists.intro _ (Exists.intro _ ⟨aC rfl (.refl _), aH [0, 0, 0] rfl, rfl, rfl⟩))
 ·replace H := aZ c13 H;refine aB <| ac ?_
  rcases Or.symm (co H) with ⟨p16, e15, H⟩ | ⟨x14, e15, H⟩
  ·subst H;refine aa ?_;show AR _ _ _ _ _ [0, 1] _;refine zS rfl (af (av := .pt _ _) rfl) <| am rfl rfl (bm (c := cx (.iface 46 (.agg #[.int .i64 p16]))) [0, 0, 0] rfl ey rfl (fh F o1 x11 a3 t4 a5 a6 t7 ([45, 45, 62] : List UInt8) p16 e15) rfl ?_);exact And.intro rfl (Exists.intro [] ⟨aU _, rfl, rfl⟩)
  refine aa ?_;show AR _ _ _ _ _ [0, 1] _;refine zS rfl (af (av := .pt _ _) rfl) <| am rfl rfl (bh [0, 0, 0] rfl ey rfl (fV F o1 x11 a3 t4 a5 a6 t7 ([45, 45, 62] : List UInt8) x14.1 x14.2 e15) rfl (fun c A' h => by cases h.1) ?_)
  rintro av A' ⟨h, rfl⟩; cases h
  refine ai <| ac <| aa ?_;show AR _ _ _ _ _ [0] _;refine za rfl <| ai <| aJ ?_;obtain rfl := al H;exact And.intro rfl (Exists.intro _ (Exists.intro _ ⟨aC rfl (.refl _), aH [0, 0, 0] rfl, rfl, rfl⟩))
theorem mH (F : Nat) (o1 : Nat) (a2 : List UInt8) (a3 : List (List UInt8)) (t4 : Nat) (a5 : Int) (a6 : List (Int × (List UInt8) × (List UInt8) × List ((List UInt8) × List UInt8))) (t7 : Nat) (r8 : Bool) (r9 : List UInt8) (H : ge F a2 a3 a5 a6 = some (Res.ok (r8, r9))) : ACalls Tryz.prog 38 [.pt o1 0] [.obj o1 [S a2, .sk t4 a3.length, i64 a5, slE (ab Enc.int (ab Enc.str (ab Enc.str (Enc.sl (ab Enc.str Enc.str))))) a6 (some t7)], .stk t4 (Enc.str.fl a3), .tok t7 33] (fun e A' => e = .ret (B r8) ∧ A' = [.obj o1 [S r9, .sk t4 a3.length, i64 a5, slE (ab Enc.int (ab Enc.str (ab Enc.str (Enc.sl (ab Enc.str Enc.str))))) a6 (some t7)], .stk t4 (Enc.str.fl a3), .tok t7 33]) := lk F o1 a2 a3 t4 a5 a6 t7 _ H
theorem lP (F : Nat) (o1 : Nat) (a2 : List UInt8) (a3 : List (List UInt8)) (t4 : Nat) (a5 : Int) (a6 : List (Int × (List UInt8) × (List UInt8) × List ((List UInt8) × List UInt8))) (t7 : Nat) (e : Int) (H : ge F a2 a3 a5 a6 = some (Res.pan e)) : ACalls Tryz.prog 38 [.pt o1 0] [.obj o1 [S a2, .sk t4 a3.length, i64 a5, slE (ab Enc.int (ab Enc.str (ab Enc.str (Enc.sl (ab Enc.str Enc.str))))) a6 (some t7)], .stk t4 (Enc.str.fl a3), .tok t7 33] (fun ae A' => ae = .pan ((fun e => cx (.iface 46 (.agg #[.int .i64 e]))) e) ∧ A' = []) := lk F o1 a2 a3 t4 a5 a6 t7 _ H
set_option maxRecDepth 100000 in
set_option maxHeartbeats 1000000 in
theorem qI (F : Nat) (o1 : Nat) (a2 : List UInt8) (a3 : List (List UInt8)) (t4 : Nat) (a5 : Int) (a6 : List (Int × (List UInt8) × (List UInt8) × List ((List UInt8) × List UInt8))) (t7 : Nat) (rv : Res (Bool × (List UInt8))) (H : mD F a2 a3 a5 a6 = some rv) : ACalls Tryz.prog 39 [.pt o1 0] [.obj o1 [S a2, .sk t4 a3.length, i64 a5, slE (ab Enc.int (ab Enc.str (ab Enc.str (Enc.sl (ab Enc.str Enc.str))))) a6 (some t7)], .stk t4 (Enc.str.fl a3), .tok t7 33] (jf (fun (r : Bool × (List UInt8)) => (fun e A' => e = .ret (B r.1) ∧ A' = [.obj o1 [S r.2, .sk t4 a3.length, i64 a5, slE (ab Enc.int (ab Enc.str (ab Enc.str (Enc.sl (ab Enc.str Enc.str))))) a6 (some t7)], .stk t4 (Enc.str.fl a3), .tok t7 33])) (fun e => cx (.iface 46 (.agg #[.int .i64 e]))) rv) := by
 unfold mD at H
 refine au Tryz.func39 rfl rfl ?_;show AW _ _ 8 _ _ _;refine ac <| aa ?_;show AR _ _ _ _ _ [0] _;refine za rfl <| ai <| ac <| ac ?_;obtain ⟨x10, x11, e12, H⟩ := cT H;refine aa ?_;show AR _ _ _ _ _ [0, 1, 2] _;refine zS rfl (af (av := .pt _ _) rfl) <| am rfl rfl (bh [0, 0, 0] rfl di rfl (df F o1 a2 a3 t4 a5 a6 t7 ([60, 63] : List UInt8) x10 x11 e12) rfl (fun c A' h => by cases h.1) ?_)
 rintro av A' ⟨h, rfl⟩; cases h
 refine zS rfl (ce rfl) <| ai <| ax rfl (fun c13 => ?_) (fun c13 => ?_)
 ·replace H := aY c13 H;refine ac <| aa ?_;show AR _ _ _ _ _ [0] _;refine za rfl <| ai <| aJ ?_;obtain rfl := al H;exact And.intro rfl (Exists.intro _ (Exists.intro _ ⟨aC rfl (.refl _), aH [0, 0, 0] rfl, rfl, rfl⟩))
 ·replace H := aZ c13 H;refine aB <| ac ?_
  rcases Or.symm (co H) with ⟨p16, e15, H⟩ | ⟨x14, e15, H⟩
  ·subst H;refine aa ?_;show AR _ _ _ _ _ [0, 1] _;refine zS rfl (af (av := .pt _ _) rfl) <| am rfl rfl (bm (c := cx (.iface 46 (.agg #[.int .i64 p16]))) [0, 0, 0] rfl ey rfl (fh F o1 x11 a3 t4 a5 a6 t7 ([63, 62] : List UInt8) p16 e15) rfl ?_);exact And.intro rfl (Exists.intro [] ⟨aU _, rfl, rfl⟩)
  refine aa ?_;show AR _ _ _ _ _ [0, 1] _;refine zS rfl (af (av := .pt _ _) rfl) <| am rfl rfl (bh [0, 0, 0] rfl ey rfl (fV F o1 x11 a3 t4 a5 a6 t7 ([63, 62] : List UInt8) x14.1 x14.2 e15) rfl (fun c A' h => by cases h.1) ?_)
  rintro av A' ⟨h, rfl⟩; cases h
  refine ai <| ac <| aa ?_;show AR _ _ _ _ _ [0] _;refine za rfl <| ai <| aJ ?_;obtain rfl := al H;exact And.intro rfl (Exists.intro _ (Exists.intro _ ⟨aC rfl (.refl _), aH [0, 0, 0] rfl, rfl, rfl⟩))
theorem qn (F : Nat) (o1 : Nat) (a2 : List UInt8) (a3 : List (List UInt8)) (t4 : Nat) (a5 : Int) (a6 : List (Int × (List UInt8) × (List UInt8) × List ((List UInt8) × List UInt8))) (t7 : Nat) (r8 : Bool) (r9 : List UInt8) (H : mD F a2 a3 a5 a6 = some (Res.ok (r8, r9))) : ACalls Tryz.prog 39 [.pt o1 0] [.obj o1 [S a2, .sk t4 a3.length, i64 a5, slE (ab Enc.int (ab Enc.str (ab Enc.str (Enc.sl (ab Enc.str Enc.str))))) a6 (some t7)], .stk t4 (Enc.str.fl a3), .tok t7 33] (fun e A' => e = .ret (B r8) ∧ A' = [.obj o1 [S r9, .sk t4 a3.length, i64 a5, slE (ab Enc.int (ab Enc.str (ab Enc.str (Enc.sl (ab Enc.str Enc.str))))) a6 (some t7)], .stk t4 (Enc.str.fl a3), .tok t7 33]) := qI F o1 a2 a3 t4 a5 a6 t7 _ H
theorem px (F : Nat) (o1 : Nat) (a2 : List UInt8) (a3 : List (List UInt8)) (t4 : Nat) (a5 : Int) (a6 : List (Int × (List UInt8) × (List UInt8) × List ((List UInt8) × List UInt8))) (t7 : Nat) (e : Int) (H : mD F a2 a3 a5 a6 = some (Res.pan e)) : ACalls Tryz.prog 39 [.pt o1 0] [.obj o1 [S a2, .sk t4 a3.length, i64 a5, slE (ab Enc.int (ab Enc.str (ab Enc.str (Enc.sl (ab Enc.str Enc.str))))) a6 (some t7)], .stk t4 (Enc.str.fl a3), .tok t7 33] (fun ae A' => ae = .pan ((fun e => cx (.iface 46 (.agg #[.int .i64 e]))) e) ∧ A' = []) := qI F o1 a2 a3 t4 a5 a6 t7 _ H
set_option maxRecDepth 100000 in
set_option maxHeartbeats 1000000 in
theorem ox (F : Nat) (o1 : Nat) (a2 : List UInt8) (a3 : List (List UInt8)) (t4 : Nat) (a5 : Int) (a6 : List (Int × (List UInt8) × (List UInt8) × List ((List UInt8) × List UInt8))) (t7 : Nat) (rv : Res (Bool × (List UInt8) × (List (Int × (List UInt8) × (List UInt8) × List ((List UInt8) × List UInt8))))) (H : iM F a2 a3 a5 a6 = some rv) : ACalls Tryz.prog 40 [.pt o1 0] [.obj o1 [S a2, .sk t4 a3.length, i64 a5, slE (ab Enc.int (ab Enc.str (ab Enc.str (Enc.sl (ab Enc.str Enc.str))))) a6 (some t7)], .stk t4 (Enc.str.fl a3), .tok t7 33] (jf (fun (r : Bool × (List UInt8) × (List (Int × (List UInt8) × (List UInt8) × List ((List UInt8) × List UInt8)))) => (fun e A' => e = .ret (B r.1) ∧ ∃ t11, A' = [.obj o1 [S r.2.1, .sk t4 a3.length, i64 a5, slE (ab Enc.int (ab Enc.str (ab Enc.str (Enc.sl (ab Enc.str Enc.str))))) r.2.2 (some t11)], .stk t4 (Enc.str.fl a3), .tok t11 33])) (fun e => cx (.iface 46 (.agg #[.int .i64 e]))) rv) := by
 unfold iM at H
 refine au Tryz.func40 rfl rfl ?_;show AW _ _ 19 _ _ _;refine ac <| aa ?_;show AR _ _ _ _ _ [0] _;refine za rfl <| ai <| ac <| ac ?_;obtain ⟨x12, x13, e14, H⟩ := cT H;refine aa ?_;show AR _ _ _ _ _ [0, 1, 2] _;refine zS rfl (af (av := .pt _ _) rfl) <| am rfl rfl (bh [0, 0, 0] rfl di rfl (df F o1 a2 a3 t4 a5 a6 t7 ([60, 33, 91, 67, 68, 65, 84, 65, 91] : List UInt8) x12 x13 e14) rfl (fun c A' h => by cases h.1) ?_)
 rintro av A' ⟨h, rfl⟩; cases h
 refine zS rfl (ce rfl) <| ai <| ax rfl (fun c15 => ?_) (fun c15 => ?_)
 ·replace H := aY c15 H;refine ac <| aa ?_;show AR _ _ _ _ _ [0] _;refine za rfl <| ai <| aJ ?_;obtain rfl := al H;exact And.intro rfl (Exists.intro _ (Exists.intro _ ⟨aC rfl (.refl _), aH [0, 0, 0] rfl, rfl, t7, rfl⟩))
 ·replace H := aZ c15 H;refine aB <| ac ?_
  rcases Or.symm (co H) with ⟨p18, e17, H⟩ | ⟨x16, e17, H⟩
  ·subst H;refine aa ?_;show AR _ _ _ _ _ [0, 1, 2] _;refine zS rfl (af (av := .pt _ _) rfl) <| am rfl rfl (bm (c := cx (.iface 46 (.agg #[.int .i64 p18]))) [0, 0, 0] rfl ey rfl (fh F o1 x13 a3 t4 a5 a6 t7 ([93, 93, 62] : List UInt8) p18 e17) rfl ?_);exact And.intro rfl (Exists.intro [] ⟨aU _, rfl, rfl⟩)
  refine aa ?_;show AR _ _ _ _ _ [0, 1, 2] _;refine zS rfl (af (av := .pt _ _) rfl) <| am rfl rfl (bh [0, 0, 0] rfl ey rfl (fV F o1 x13 a3 t4 a5 a6 t7 ([93, 93, 62] : List UInt8) x16.1 x16.2 e17) rfl (fun c A' h => by cases h.1) ?_)
  rintro av A' ⟨h, rfl⟩; cases h
  refine za rfl <| ai <| ac ?_
  rcases Or.symm (co H) with ⟨p21, e20, H⟩ | ⟨x19, e20, H⟩
  ·subst H;refine aa ?_;show AR _ _ _ _ _ [0, 1, 2, 3, 4, 5, 6] _;refine zS rfl (af (av := .pt _ _) rfl) <| zS rfl (aq rfl) <| zS rfl (an (n := 1) (by kernel_rfl) rfl) <| zR rfl (ao (i := 0) ar rfl rfl rfl rfl) <| zS rfl (eM ar rfl) <| zS rfl (fZ rfl rfl) <| am rfl rfl (bm (c := cx (.iface 46 (.agg #[.int .i64 p21]))) [] rfl bz rfl (bB F (decide (0 < (a3.length : Int))) p21 e20) rfl ?_);exact And.intro rfl (Exists.intro [] ⟨aU _, rfl, rfl⟩)
  refine aa ?_;show AR _ _ _ _ _ [0, 1, 2, 3, 4, 5, 6] _;refine zS rfl (af (av := .pt _ _) rfl) <| zS rfl (aq rfl) <| zS rfl (an (n := 1) (by kernel_rfl) rfl) <| zR rfl (ao (i := 0) ar rfl rfl rfl rfl) <| zS rfl (eM ar rfl) <| zS rfl (fZ rfl rfl) <| am rfl rfl (aG rfl bz rfl (bJ F (decide (0 < (a3.length : Int))) e20) ?_);refine ai <| ac ?_;obtain ⟨x22, e23, H⟩ := eD H;refine aa ?_;show AR _ _ _ _ _ [0, 1, 2] _;refine zS rfl (af (av := .pt _ _) rfl) <| zm rfl <| am rfl rfl (bh [0, 0, 0] rfl oY rfl (ot F o1 x16.2 a3 t4 a5 a6 t7 x16.1 x22 e23) rfl (fun c A' h => by cases h.1) ?_)
  rintro av A' ⟨h, t24, rfl⟩; cases h
  refine ai <| ac <| aa ?_;show AR _ _ _ _ _ [0] _;refine za rfl <| ai <| aJ ?_;obtain rfl := al H;exact And.intro rfl (Exists.intro _ (Exists.intro _ ⟨aC rfl (.refl _), aH [0, 0, 0] rfl, rfl, t24, rfl⟩))
theorem pv (F : Nat) (o1 : Nat) (a2 : List UInt8) (a3 : List (List UInt8)) (t4 : Nat) (a5 : Int) (a6 : List (Int × (List UInt8) × (List UInt8) × List ((List UInt8) × List UInt8))) (t7 : Nat) (r8 : Bool) (r9 : List UInt8) (r10 : List (Int × (List UInt8) × (List UInt8) × List ((List UInt8) × List UInt8))) (H : iM F a2 a3 a5 a6 = some (Res.ok (r8, r9, r10))) : ACalls Tryz.prog 40 [.pt o1 0] [.obj o1 [S a2, .sk t4 a3.length, i64 a5, slE (ab Enc.int (ab Enc.str (ab Enc.str (Enc.sl (ab Enc.str Enc.str))))) a6 (some t7)], .stk t4 (Enc.str.fl a3), .tok t7 33] (fun e A' => e = .ret (B r8) ∧ ∃ t11, A' = [.obj o1 [S r9, .sk t4 a3.length, i64 a5, slE (ab Enc.int (ab Enc.str (ab Enc.str (Enc.sl (ab Enc.str Enc.str))))) r10 (some t11)], .stk t4 (Enc.str.fl a3), .tok t11 33]) := ox F o1 a2 a3 t4 a5 a6 t7 _ H
theorem nQ (F : Nat) (o1 : Nat) (a2 : List UInt8) (a3 : List (List UInt8)) (t4 : Nat) (a5 : Int) (a6 : List (Int × (List UInt8) × (List UInt8) × List ((List UInt8) × List UInt8))) (t7 : Nat) (e : Int) (H : iM F a2 a3 a5 a6 = some (Res.pan e)) : ACalls Tryz.prog 40 [.pt o1 0] [.obj o1 [S a2, .sk t4 a3.length, i64 a5, slE (ab Enc.int (ab Enc.str (ab Enc.str (Enc.sl (ab Enc.str Enc.str))))) a6 (some t7)], .stk t4 (Enc.str.fl a3), .tok t7 33] (fun ae A' => ae = .pan ((fun e => cx (.iface 46 (.agg #[.int .i64 e]))) e) ∧ A' = []) := ox F o1 a2 a3 t4 a5 a6 t7 _ H
set_option maxRecDepth 100000 in
set_option maxHeartbeats 1000000 in
theorem qH (F : Nat) (o1 : Nat) (a2 : List UInt8) (a3 : List (List UInt8)) (t4 : Nat) (a5 : Int) (a6 : List (Int × (List UInt8) × (List UInt8) × List ((List UInt8) × List UInt8))) (t7 : Nat) (rv : Res (Bool × (List UInt8))) (H : mC F a2 a3 a5 a6 = some rv) : ACalls Tryz.prog 41 [.pt o1 0] [.obj o1 [S a2, .sk t4 a3.length, i64 a5, slE (ab Enc.int (ab Enc.str (ab Enc.str (Enc.sl (ab Enc.str Enc.str))))) a6 (some t7)], .stk t4 (Enc.str.fl a3), .tok t7 33] (jf (fun (r : Bool × (List UInt8)) => (fun e A' => e = .ret (B r.1) ∧ A' = [.obj o1 [S r.2, .sk t4 a3.length, i64 a5, slE (ab Enc.int (ab Enc.str (ab Enc.str (Enc.sl (ab Enc.str Enc.str))))) a6 (some t7)], .stk t4 (Enc.str.fl a3), .tok t7 33])) (fun e => cx (.iface 46 (.agg #[.int .i64 e]))) rv) := by
 unfold mC at H
 refine au Tryz.func41 rfl rfl ?_;show AW _ _ 8 _ _ _;refine ac <| aa ?_;show AR _ _ _ _ _ [0] _;refine za rfl <| ai <| ac <| ac ?_;obtain ⟨x10, x11, e12, H⟩ := cT H;refine aa ?_;show AR _ _ _ _ _ [0, 1, 2] _;refine zS rfl (af (av := .pt _ _) rfl) <| am rfl rfl (bh [0, 0, 0] rfl di rfl (df F o1 a2 a3 t4 a5 a6 t7 ([60, 33] : List UInt8) x10 x11 e12) rfl (fun c A' h => by cases h.1) ?_)
 rintro av A' ⟨h, rfl⟩; cases h
 refine zS rfl (ce rfl) <| ai <| ax rfl (fun c13 => ?_) (fun c13 => ?_)
 ·replace H := aY c13 H;refine ac <| aa ?_;show AR _ _ _ _ _ [0] _;refine za rfl <| ai <| aJ ?_;obtain rfl := al H;exact And.intro rfl (Exists.intro _ (Exists.intro _ ⟨aC rfl (.refl _), aH [0, 0, 0] rfl, rfl, rfl⟩))
 ·replace H := aZ c13 H;refine aB <| ac ?_
  rcases Or.symm (co H) with ⟨p16, e15, H⟩ | ⟨x14, e15, H⟩
  ·subst H;refine aa ?_;show AR _ _ _ _ _ [0, 1] _;refine zS rfl (af (av := .pt _ _) rfl) <| am rfl rfl (bm (c := cx (.iface 46 (.agg #[.int .i64 p16]))) [0, 0, 0] rfl ey rfl (fh F o1 x11 a3 t4 a5 a6 t7 ([62] : List UInt8) p16 e15) rfl ?_);exact And.intro rfl (Exists.intro [] ⟨aU _, rfl, rfl⟩)
  refine aa ?_;show AR _ _ _ _ _ [0, 1] _;refine zS rfl (af (av := .pt _ _) rfl) <| am rfl rfl (bh [0, 0, 0] rfl ey rfl (fV F o1 x11 a3 t4 a5 a6 t7 ([62] : List UInt8) x14.1 x14.2 e15) rfl (fun c A' h => by cases h.1) ?_)
  rintro av A' ⟨h, rfl⟩; cases h
  refine ai <| ac <| aa ?_;show AR _ _ _ _ _ [0] _;refine za rfl <| ai <| aJ ?_;obtain rfl := al H;exact And.intro rfl (Exists.intro _ (Exists.intro _ ⟨aC rfl (.refl _), aH [0, 0, 0] rfl, rfl, rfl⟩))
theorem qm (F : Nat) (o1 : Nat) (a2 : List UInt8) (a3 : List (List UInt8)) (t4 : Nat) (a5 : Int) (a6 : List (Int × (List UInt8) × (List UInt8) × List ((List UInt8) × List UInt8))) (t7 : Nat) (r8 : Bool) (r9 : List UInt8) (H : mC F a2 a3 a5 a6 = some (Res.ok (r8, r9))) : ACalls Tryz.prog 41 [.pt o1 0] [.obj o1 [S a2, .sk t4 a3.length, i64 a5, slE (ab Enc.int (ab Enc.str (ab Enc.str (Enc.sl (ab Enc.str Enc.str))))) a6 (some t7)], .stk t4 (Enc.str.fl a3), .tok t7 33] (fun e A' => e = .ret (B r8) ∧ A' = [.obj o1 [S r9, .sk t4 a3.length, i64 a5, slE (ab Enc.int (ab Enc.str (ab Enc.str (Enc.sl (ab Enc.str Enc.str))))) a6 (some t7)], .stk t4 (Enc.str.fl a3), .tok t7 33]) := qH F o1 a2 a3 t4 a5 a6 t7 _ H
theorem pu (F : Nat) (o1 : Nat) (a2 : List UInt8) (a3 : List (List UInt8)) (t4 : Nat) (a5 : Int) (a6 : List (Int × (List UInt8) × (List UInt8) × List ((List UInt8) × List UInt8))) (t7 : Nat) (e : Int) (H : mC F a2 a3 a5 a6 = some (Res.pan e)) : ACalls Tryz.prog 41 [.pt o1 0] [.obj o1 [S a2, .sk t4 a3.length, i64 a5, slE (ab Enc.int (ab Enc.str (ab Enc.str (Enc.sl (ab Enc.str Enc.str))))) a6 (some t7)], .stk t4 (Enc.str.fl a3), .tok t7 33] (fun ae A' => ae = .pan ((fun e => cx (.iface 46 (.agg #[.int .i64 e]))) e) ∧ A' = []) := qH F o1 a2 a3 t4 a5 a6 t7 _ H
set_option maxRecDepth 100000 in
set_option maxHeartbeats 1000000 in
theorem mi (F : Nat) (o1 : Nat) (a2 : List UInt8) (a3 : List (List UInt8)) (t4 : Nat) (a5 : Int) (a6 : List (Int × (List UInt8) × (List UInt8) × List ((List UInt8) × List UInt8))) (t7 : Nat) (rv : Res (Bool × (List UInt8) × (List (Int × (List UInt8) × (List UInt8) × List ((List UInt8) × List UInt8))) × (List (List UInt8)))) (H : fJ F a2 a3 a5 a6 = some rv) : ACalls Tryz.prog 42 [.pt o1 0] [.obj o1 [S a2, .sk t4 a3.length, i64 a5, slE (ab Enc.int (ab Enc.str (ab Enc.str (Enc.sl (ab Enc.str Enc.str))))) a6 (some t7)], .stk t4 (Enc.str.fl a3), .tok t7 33] (jf (fun (r : Bool × (List UInt8) × (List (Int × (List UInt8) × (List UInt8) × List ((List UInt8) × List UInt8))) × (List (List UInt8))) => (fun e A' => e = .ret (B r.1) ∧ ∃ t11 t13, A' = [.obj o1 [S r.2.1, .sk t11 r.2.2.2.length, i64 a5, slE (ab Enc.int (ab Enc.str (ab Enc.str (Enc.sl (ab Enc.str Enc.str))))) r.2.2.1 (some t13)], .stk t11 (Enc.str.fl r.2.2.2), .tok t13 33])) (fun e => cx (.iface 46 (.agg #[.int .i64 e]))) rv) := by
 unfold fJ at H
 refine au Tryz.func42 rfl rfl ?_;show AW _ _ 17 _ _ _;refine ac <| aa ?_;show AR _ _ _ _ _ [0] _;refine za rfl <| ai <| ac <| ac ?_;obtain ⟨x14, x15, e16, H⟩ := cT H;refine aa ?_;show AR _ _ _ _ _ [0, 1, 2] _;refine zS rfl (af (av := .pt _ _) rfl) <| am rfl rfl (bh [0, 0, 0] rfl di rfl (df F o1 a2 a3 t4 a5 a6 t7 ([60, 47] : List UInt8) x14 x15 e16) rfl (fun c A' h => by cases h.1) ?_)
 rintro av A' ⟨h, rfl⟩; cases h
 refine zS rfl (ce rfl) <| ai <| ax rfl (fun c17 => ?_) (fun c17 => ?_)
 ·replace H := aY c17 H;refine ac <| aa ?_;show AR _ _ _ _ _ [0] _;refine za rfl <| ai <| aJ ?_;obtain rfl := al H;exact And.intro rfl (Exists.intro _ (Exists.intro _ ⟨aC rfl (.refl _), aH [0, 0, 0] rfl, rfl, t4, t7, rfl⟩))
 ·replace H := aZ c17 H;refine aB <| ac ?_
  rcases Or.symm (co H) with ⟨p20, e19, H⟩ | ⟨x18, e19, H⟩
  ·subst H;refine aa ?_;show AR _ _ _ _ _ [0, 1, 2] _;refine zS rfl (af (av := .pt _ _) rfl) <| am rfl rfl (bm (c := cx (.iface 46 (.agg #[.int .i64 p20]))) [0, 0, 0] rfl hY rfl (iA F o1 x15 a3 t4 a5 a6 t7 p20 e19) rfl ?_);exact And.intro rfl (Exists.intro [] ⟨aU _, rfl, rfl⟩)
  refine aa ?_;show AR _ _ _ _ _ [0, 1, 2] _;refine zS rfl (af (av := .pt _ _) rfl) <| am rfl rfl (bh [0, 0, 0] rfl hY rfl (jn F o1 x15 a3 t4 a5 a6 t7 x18.1 x18.2 e19) rfl (fun c A' h => by cases h.1) ?_)
  rintro av A' ⟨h, rfl⟩; cases h
  refine za rfl <| ai <| ac ?_;obtain ⟨x21, x22, e23, H⟩ := cT H;refine aa ?_;show AR _ _ _ _ _ [0, 1] _;refine zS rfl (af (av := .pt _ _) rfl) <| am rfl rfl (bh [0, 0, 0] rfl oX rfl (mh F o1 x18.2 a3 t4 a5 a6 t7 x21 x22 e23) rfl (fun c A' h => by cases h.1) ?_)
  rintro av A' ⟨h, rfl⟩; cases h
  refine ai <| ac ?_;obtain ⟨x24, x25, e26, H⟩ := cT H
  rcases Or.symm (co H) with ⟨p29, e28, H⟩ | ⟨x27, e28, H⟩
  ·subst H;refine aa ?_;show AR _ _ _ _ _ [0, 1, 2] _;refine zS rfl (af (av := .pt _ _) rfl) <| am rfl rfl (bh [0, 0, 0] rfl di rfl (df F o1 x22 a3 t4 a5 a6 t7 ([62] : List UInt8) x24 x25 e26) rfl (fun c A' h => by cases h.1) ?_)
   rintro av A' ⟨h, rfl⟩; cases h
   refine am rfl rfl (bm (c := cx (.iface 46 (.agg #[.int .i64 p29]))) [] rfl bz rfl (bB F x24 p29 e28) rfl ?_);exact And.intro rfl (Exists.intro [] ⟨aU _, rfl, rfl⟩)
  refine aa ?_;show AR _ _ _ _ _ [0, 1, 2] _;refine zS rfl (af (av := .pt _ _) rfl) <| am rfl rfl (bh [0, 0, 0] rfl di rfl (df F o1 x22 a3 t4 a5 a6 t7 ([62] : List UInt8) x24 x25 e26) rfl (fun c A' h => by cases h.1) ?_)
  rintro av A' ⟨h, rfl⟩; cases h
  refine am rfl rfl (aG rfl bz rfl (bJ F x24 e28) ?_);refine ai <| ac ?_
  rcases Or.symm (co H) with ⟨p32, e31, H⟩ | ⟨x30, e31, H⟩
  ·subst H;refine aa ?_;show AR _ _ _ _ _ [0, 1, 2] _;refine zS rfl (af (av := .pt _ _) rfl) <| zm rfl <| am rfl rfl (bm (c := cx (.iface 46 (.agg #[.int .i64 p32]))) [0, 0, 0] rfl kj rfl (kF F o1 x25 a3 t4 a5 a6 t7 x18.1 p32 e31) rfl ?_);exact And.intro rfl (Exists.intro [] ⟨aU _, rfl, rfl⟩)
  refine aa ?_;show AR _ _ _ _ _ [0, 1, 2] _;refine zS rfl (af (av := .pt _ _) rfl) <| zm rfl <| am rfl rfl (bh [0, 0, 0] rfl kj rfl (li F o1 x25 a3 t4 a5 a6 t7 x18.1 x30.1 x30.2 e31) rfl (fun c A' h => by cases h.1) ?_)
  rintro av A' ⟨h, t33, t34, rfl⟩; cases h
  refine ai <| ac <| aa ?_;show AR _ _ _ _ _ [0] _;refine za rfl <| ai <| aJ ?_;obtain rfl := al H;exact And.intro rfl (Exists.intro _ (Exists.intro _ ⟨aC rfl (.refl _), aH [0, 0, 0] rfl, rfl, t33, t34, rfl⟩))
theorem mY (F : Nat) (o1 : Nat) (a2 : List UInt8) (a3 : List (List UInt8)) (t4 : Nat) (a5 : Int) (a6 : List (Int × (List UInt8) × (List UInt8) × List ((List UInt8) × List UInt8))) (t7 : Nat) (r8 : Bool) (r9 : List UInt8) (r12 : List (Int × (List UInt8) × (List UInt8) × List ((List UInt8) × List UInt8))) (r10 : List (List UInt8)) (H : fJ F a2 a3 a5 a6 = some (Res.ok (r8, r9, r12, r10))) : ACalls Tryz.prog 42 [.pt o1 0] [.obj o1 [S a2, .sk t4 a3.length, i64 a5, slE (ab Enc.int (ab Enc.str (ab Enc.str (Enc.sl (ab Enc.str Enc.str))))) a6 (some t7)], .stk t4 (Enc.str.fl a3), .tok t7 33] (fun e A' => e = .ret (B r8) ∧ ∃ t11 t13, A' = [.obj o1 [S r9, .sk t11 r10.length, i64 a5, slE (ab Enc.int (ab Enc.str (ab Enc.str (Enc.sl (ab Enc.str Enc.str))))) r12 (some t13)], .stk t11 (Enc.str.fl r10), .tok t13 33]) := mi F o1 a2 a3 t4 a5 a6 t7 _ H
theorem mF (F : Nat) (o1 : Nat) (a2 : List UInt8) (a3 : List (List UInt8)) (t4 : Nat) (a5 : Int) (a6 : List (Int × (List UInt8) × (List UInt8) × List ((List UInt8) × List UInt8))) (t7 : Nat) (e : Int) (H : fJ F a2 a3 a5 a6 = some (Res.pan e)) : ACalls Tryz.prog 42 [.pt o1 0] [.obj o1 [S a2, .sk t4 a3.length, i64 a5, slE (ab Enc.int (ab Enc.str (ab Enc.str (Enc.sl (ab Enc.str Enc.str))))) a6 (some t7)], .stk t4 (Enc.str.fl a3), .tok t7 33] (fun ae A' => ae = .pan ((fun e => cx (.iface 46 (.agg #[.int .i64 e]))) e) ∧ A' = []) := mi F o1 a2 a3 t4 a5 a6 t7 _ H
abbrev _root_.Go.Av.bS := @Tryz.underlying44
set_option maxRecDepth 100000 in
set_option maxHeartbeats 1000000 in
theorem oy (F : Nat) (o1 : Nat) (a2 : List UInt8) (a3 : List (List UInt8)) (t4 : Nat) (a5 : Int) (a6 : List (Int × (List UInt8) × (List UInt8) × List ((List UInt8) × List UInt8))) (t7 : Nat) (rv : Res ((List UInt8) × (List UInt8) × (List UInt8))) (H : jF F a2 a3 a5 a6 = some rv) : ACalls Tryz.prog 72 [.pt o1 0] [.obj o1 [S a2, .sk t4 a3.length, i64 a5, slE (ab Enc.int (ab Enc.str (ab Enc.str (Enc.sl (ab Enc.str Enc.str))))) a6 (some t7)], .stk t4 (Enc.str.fl a3), .tok t7 33] (jf (fun (r : (List UInt8) × (List UInt8) × (List UInt8)) => (fun e A' => e = .ret (.agg [S r.1, S r.2.1]) ∧ A' = [.obj o1 [S r.2.2, .sk t4 a3.length, i64 a5, slE (ab Enc.int (ab Enc.str (ab Enc.str (Enc.sl (ab Enc.str Enc.str))))) a6 (some t7)], .stk t4 (Enc.str.fl a3), .tok t7 33])) (fun e => cx (.iface 46 (.agg #[.int .i64 e]))) rv) := by
 unfold jF at H
 refine au Tryz.func72 rfl rfl ?_;show AW _ _ 26 _ _ _;refine ac <| aa ?_;show AR _ _ _ _ _ [0] _;refine zX rfl (ex (zs := [.string ⟨#[]⟩, .string ⟨#[]⟩]) (by kernel_rfl)) ?_;rintro _ _ ⟨o11, rfl, rfl⟩;refine ai <| ac ?_
 rcases Or.symm (co H) with ⟨p14, e13, H⟩ | ⟨x12, e13, H⟩
 ·subst H;refine aa ?_;show AR _ _ _ _ _ [0, 1, 2, 3, 4] _;refine zS rfl (af (av := .pt _ _) rfl) <| am rfl rfl (bm (c := cx (.iface 46 (.agg #[.int .i64 p14]))) [1, 1, 1] rfl hY rfl (iA F o1 a2 a3 t4 a5 a6 t7 p14 e13) rfl ?_);exact And.intro rfl (Exists.intro [] ⟨aU _, rfl, rfl⟩)
 refine aa ?_;show AR _ _ _ _ _ [0, 1, 2, 3, 4] _;refine zS rfl (af (av := .pt _ _) rfl) <| am rfl rfl (bh [1, 1, 1] rfl hY rfl (jn F o1 a2 a3 t4 a5 a6 t7 x12.1 x12.2 e13) rfl (fun c A' h => by cases h.1) ?_)
 rintro av A' ⟨h, rfl⟩; cases h
 refine zS rfl (eX (zs := [.string ⟨#[]⟩, .string ⟨#[]⟩]) (ps := [(0, 1), (1, 1)]) (cs := [S x12.1, S ([] : List UInt8)]) (by kernel_rfl) rfl rfl) <| zX rfl (ex (zs := [.string ⟨#[]⟩, .string ⟨#[]⟩]) (by kernel_rfl)) ?_;rintro _ _ ⟨o15, rfl, rfl⟩;refine s0 rfl rfl (cW (i := 0) (vs := [S x12.1, S ([] : List UInt8)]) (by kernel_rfl) rfl rfl (by simp [cd, slE]) rfl (ah rfl)) <| ai <| ac <| aa ?_;show AR _ _ _ _ _ [0] _;refine za rfl <| ai <| bV (X := (List UInt8) × (List UInt8)) (fun (y26, y27) => ⟨[(0, .pt o1 0), (2, .pt o11 0), (3, .pt o15 0), (4, S y26)], [], [.obj o1 [S y27, .sk t4 a3.length, i64 a5, slE (ab Enc.int (ab Enc.str (ab Enc.str (Enc.sl (ab Enc.str Enc.str))))) a6 (some t7)], .obj o15 [S x12.1, S ([] : List UInt8)], .obj o11 [S ([] : List UInt8), S ([] : List UInt8)], .stk t4 (Enc.str.fl a3), .tok t7 33]⟩) (fun (y26, y27) => fu F a3 a5 a6 x12 y26 y27 = some rv) ?_ ?_
 ·refine ac ?_;obtain ⟨x16, x17, e18, H⟩ := cT H;refine aa ?_;show AR _ _ _ _ _ [0, 1, 2] _;refine zS rfl (af (av := .pt _ _) rfl) <| am rfl rfl (bh [1, 1, 1] rfl di rfl (df F o1 x12.2 a3 t4 a5 a6 t7 ([61, 34] : List UInt8) x16 x17 e18) rfl (fun c A' h => by cases h.1) ?_)
  rintro av A' ⟨h, rfl⟩; cases h
  refine zS rfl (ce rfl) <| ai <| ax rfl (fun c19 => ?_) (fun c19 => ?_)
  ·replace H := aY c19 H;refine ac ?_;obtain ⟨x20, x21, e22, H⟩ := cT H
   rcases Or.symm (co H) with ⟨p25, e24, H⟩ | ⟨x23, e24, H⟩
   ·subst H;refine aa ?_;show AR _ _ _ _ _ [0, 1, 2] _;refine zS rfl (af (av := .pt _ _) rfl) <| am rfl rfl (bh [0, 0, 0] rfl di rfl (df F o1 x17 a3 t4 a5 a6 t7 ([61, 39] : List UInt8) x20 x21 e22) rfl (fun c A' h => by cases h.1) ?_)
    rintro av A' ⟨h, rfl⟩; cases h
    refine am rfl rfl (bm (c := cx (.iface 46 (.agg #[.int .i64 p25]))) [] rfl bz rfl (bB F x20 p25 e24) rfl ?_);exact And.intro rfl (Exists.intro [] ⟨aU _, rfl, rfl⟩)
   refine aa ?_;show AR _ _ _ _ _ [0, 1, 2] _;refine zS rfl (af (av := .pt _ _) rfl) <| am rfl rfl (bh [0, 0, 0] rfl di rfl (df F o1 x17 a3 t4 a5 a6 t7 ([61, 39] : List UInt8) x20 x21 e22) rfl (fun c A' h => by cases h.1) ?_)
   rintro av A' ⟨h, rfl⟩; cases h
   refine am rfl rfl (aG rfl bz rfl (bJ F x20 e24) ?_);refine ai <| aa ?_;show AR _ _ _ _ _ [0] _;refine za rfl <| ai ?_;exact Exists.intro (([39] : List UInt8), x21) ⟨H, bf [0, 2, 2, 0, 0] (.cons (.refl _) (.cons (.refl _) (.cons (.refl _) (.cons (.refl _) (.nil _))))) rfl⟩
  ·replace H := aZ c19 H;refine aB ?_;exact Exists.intro (([34] : List UInt8), x17) ⟨H, bf [0, 2, 2, 0, 0] (.cons (.refl _) (.cons (.refl _) (.cons (.refl _) (.cons (.refl _) (.nil _))))) rfl⟩
 rintro ⟨y26, y27⟩ H;replace H : fu F a3 a5 a6 x12 y26 y27 = some rv := H
 unfold fu at H
 refine ac ?_
 rcases Or.symm (co H) with ⟨p31, e30, H⟩ | ⟨x29, e30, H⟩
 ·subst H;refine aa ?_;show AR _ _ _ _ _ [0, 1, 2, 3] _;refine zS rfl (af (av := .pt _ _) rfl) <| zm rfl <| am rfl rfl (bm (c := cx (.iface 46 (.agg #[.int .i64 p31]))) [0, 2, 2] rfl ey rfl (fh F o1 y27 a3 t4 a5 a6 t7 y26 p31 e30) rfl ?_);exact And.intro rfl (Exists.intro [] ⟨aU _, rfl, rfl⟩)
 refine aa ?_;show AR _ _ _ _ _ [0, 1, 2, 3] _;refine zS rfl (af (av := .pt _ _) rfl) <| zm rfl <| am rfl rfl (bh [0, 2, 2] rfl ey rfl (fV F o1 y27 a3 t4 a5 a6 t7 y26 x29.1 x29.2 e30) rfl (fun c A' h => by cases h.1) ?_)
 rintro av A' ⟨h, rfl⟩; cases h
 refine za rfl <| ai <| ac ?_;obtain ⟨g32, H⟩ := aW H;obtain ⟨x33, e34, H⟩ := bM H
 rcases Or.symm (co H) with ⟨p37, e36, H⟩ | ⟨x35, e36, H⟩
 ·subst H;refine aa ?_;show AR _ _ _ _ _ [0, 1, 2, 3] _;refine zm rfl <| am rfl rfl (aG rfl mb rfl (show ACalls _ _ _ [] (Ret (B x33) []) from by subst e34; exact jq x29.1 ([60] : List UInt8) (lc g32)) ?_);refine zS rfl (ce rfl) <| am rfl rfl (bm (c := cx (.iface 46 (.agg #[.int .i64 p37]))) [] rfl bz rfl (bB F (!x33) p37 e36) rfl ?_);exact And.intro rfl (Exists.intro [] ⟨aU _, rfl, rfl⟩)
 refine aa ?_;show AR _ _ _ _ _ [0, 1, 2, 3] _;refine zm rfl <| am rfl rfl (aG rfl mb rfl (show ACalls _ _ _ [] (Ret (B x33) []) from by subst e34; exact jq x29.1 ([60] : List UInt8) (lc g32)) ?_);refine zS rfl (ce rfl) <| am rfl rfl (aG rfl bz rfl (bJ F (!x33) e36) ?_);refine ai <| ac ?_
 rcases Or.symm (co H) with ⟨p40, e39, H⟩ | ⟨x38, e39, H⟩
 ·subst H;refine aa ?_;show AR _ _ _ _ _ [0, 1, 2, 3] _;refine zm rfl <| am rfl rfl (bm (c := cx (.iface 46 (.agg #[.int .i64 p40]))) [] rfl km rfl (jy F x29.1 p40 e39) rfl ?_);exact And.intro rfl (Exists.intro [] ⟨aU _, rfl, rfl⟩)
 refine aa ?_;show AR _ _ _ _ _ [0, 1, 2, 3] _;refine zm rfl <| am rfl rfl (aG rfl km rfl (jQ F x29.1 x38 e39) ?_);refine zS rfl (an (n := 1) (by kernel_rfl) rfl) <| s0 rfl rfl (az (i := 3) (c := .v _) (by kernel_rfl) rfl rfl rfl rfl (ah rfl)) <| ai <| ac <| aa ?_;show AR _ _ _ _ _ [0, 1] _;refine zR rfl (gZ (i := 3) (n := 2) bS rfl (by kernel_rfl) rfl rfl (ah rfl)) <| s0 rfl rfl (cW (i := 4) (vs := [S x12.1, S x38]) (by kernel_rfl) rfl rfl (by simp [cd, slE]) rfl (ah rfl)) <| ai <| aJ ?_;obtain rfl := al H;exact And.intro rfl (Exists.intro _ (Exists.intro _ ⟨tJ (qF rfl (CellV.agg (off := 0) (cs := [S x12.1, S x38]) (n := 2) 4 bS rfl (by kernel_rfl) rfl rfl (ah rfl))), aH [0, 0, 0] rfl, rfl, rfl⟩))
theorem pw (F : Nat) (o1 : Nat) (a2 : List UInt8) (a3 : List (List UInt8)) (t4 : Nat) (a5 : Int) (a6 : List (Int × (List UInt8) × (List UInt8) × List ((List UInt8) × List UInt8))) (t7 : Nat) (r8 : List UInt8) (r9 : List UInt8) (r10 : List UInt8) (H : jF F a2 a3 a5 a6 = some (Res.ok (r8, r9, r10))) : ACalls Tryz.prog 72 [.pt o1 0] [.obj o1 [S a2, .sk t4 a3.length, i64 a5, slE (ab Enc.int (ab Enc.str (ab Enc.str (Enc.sl (ab Enc.str Enc.str))))) a6 (some t7)], .stk t4 (Enc.str.fl a3), .tok t7 33] (fun e A' => e = .ret (.agg [S r8, S r9]) ∧ A' = [.obj o1 [S r10, .sk t4 a3.length, i64 a5, slE (ab Enc.int (ab Enc.str (ab Enc.str (Enc.sl (ab Enc.str Enc.str))))) a6 (some t7)], .stk t4 (Enc.str.fl a3), .tok t7 33]) := oy F o1 a2 a3 t4 a5 a6 t7 _ H
theorem nR (F : Nat) (o1 : Nat) (a2 : List UInt8) (a3 : List (List UInt8)) (t4 : Nat) (a5 : Int) (a6 : List (Int × (List UInt8) × (List UInt8) × List ((List UInt8) × List UInt8))) (t7 : Nat) (e : Int) (H : jF F a2 a3 a5 a6 = some (Res.pan e)) : ACalls Tryz.prog 72 [.pt o1 0] [.obj o1 [S a2, .sk t4 a3.length, i64 a5, slE (ab Enc.int (ab Enc.str (ab Enc.str (Enc.sl (ab Enc.str Enc.str))))) a6 (some t7)], .stk t4 (Enc.str.fl a3), .tok t7 33] (fun ae A' => ae = .pan ((fun e => cx (.iface 46 (.agg #[.int .i64 e]))) e) ∧ A' = []) := oy F o1 a2 a3 t4 a5 a6 t7 _ H
set_option maxRecDepth 100000 in
set_option maxHeartbeats 1000000 in
theorem rj (F : Nat) (a1 : List UInt8) (a2 : List UInt8) (o3 : Nat) (a4 : List UInt8) (a5 : List UInt8) (r6 : Bool) (H : ly F a1 a2 a4 a5 = some r6) : ACalls Tryz.prog 74 [.agg [S a1, S a2], .pt o3 0] [.obj o3 [S a4, S a5]] (fun e A' => e = .ret (B r6) ∧ A' = [.obj o3 [S a4, S a5]]) := by
 unfold ly at H
 refine au Tryz.func74 rfl rfl ?_;show AW _ _ 9 _ _ _;refine ac <| aa ?_;show AR _ _ _ _ _ [0, 1] _;refine zR rfl (lW rfl (.inr ⟨_, rfl⟩)) <| za rfl <| ai <| ac <| aa ?_;show AR _ _ _ _ _ [0, 1, 2, 3, 4, 5] _;refine zS rfl (an (n := 0) (by kernel_rfl) rfl) <| zR rfl (ao (i := 0) ag rfl rfl rfl rfl) <| zS rfl (aV (n := 0) (by kernel_rfl) rfl (ah rfl)) <| zS rfl (aM ag rfl rfl) <| zS rfl (eV rfl rfl) <| za rfl <| ai <| aJ ?_;obtain rfl := al H;exact And.intro rfl (Exists.intro _ (Exists.intro _ ⟨aC rfl (.refl _), aH [0] rfl, rfl, rfl⟩))
abbrev _root_.Go.Av.aL := @Tryz.underlying31
set_option maxRecDepth 100000 in
set_option maxHeartbeats 1000000 in
theorem mZ (F : Nat) (a1 : List ((List UInt8) × List UInt8)) (q2 : Option Nat) (o3 : Nat) (a4 : List UInt8) (a5 : List UInt8) (r6 : Int) (H : gX F a1 a4 a5 = some r6) : ACalls Tryz.prog 96 [slE (ab Enc.str Enc.str) a1 q2, .fn (.func 74) [] [.pt o3 0]] [.obj o3 [S a4, S a5]] (fun e A' => e = .ret (i64 r6) ∧ A' = [.obj o3 [S a4, S a5]]) := by
 unfold gX at H
 refine au Tryz.func96 rfl rfl ?_;show AW _ _ 19 _ _ _;refine ac <| aa ?_;show AR _ _ _ _ _ [0] _;refine za rfl <| ai <| bV (X := Unit) (fun _ => ⟨[], [], [.obj o3 [S a4, S a5]]⟩) (fun _ => fi = some r6) ?_ ?_
 ·refine ac <| aa ?_;show AR _ _ _ _ _ [0, 1, 2] _;refine zS rfl (af (av := slE _ _ _) rfl) <| zS rfl (be aL rfl) <| zm rfl <| ai <| aP <| dp (X := Nat × Int) (fun (n9, y7) => ⟨[(0, slE (ab Enc.str Enc.str) a1 q2), (1, .fn (.func 74) [] [.pt o3 0]), (7, i64 (a1.length : Int)), (8, i64 y7)], [], [.obj o3 [S a4, S a5]]⟩) (fun (n9, y7) => dq F a1 a4 a5 n9 y7 = some r6) (fun (n9, y7) => n9) (F, 0) H (bf [0] (.cons (.refl _) (.cons (.refl _) (.cons (.refl _) (.cons (.refl _) (.nil _))))) rfl) ?_;rintro ⟨n9, y7⟩ H;obtain ⟨n9, rfl, H⟩ := eT H;replace H : dX F a1 a4 a5 (dq F a1 a4 a5 n9) y7 = some r6 := H
  unfold dX at H
  refine ac <| aa ?_;show AR _ _ _ _ _ [0] _;refine zS rfl (bU rfl rfl) <| ai <| ac <| ax rfl (fun c10 => ?_) (fun c10 => ?_)
  ·replace H := aY c10 H;refine aB <| ac <| aP <| ac <| aa ?_;show AR _ _ _ _ _ [0, 1] _;refine zm rfl <| za rfl <| ai <| ac ?_;obtain ⟨g11, H⟩ := aW H;obtain ⟨x12, e13, H⟩ := bM H;obtain ⟨x14, e15, H⟩ := eD H;refine aa ?_;show AR _ _ _ _ _ [0, 1, 2, 3, 4, 5] _;refine zS rfl (af (av := .fn _ _ _) rfl) <| zS rfl (af (av := slE _ _ _) rfl) <| zm rfl <| zS rfl (bw (E := (ab Enc.str Enc.str)) aL (by kernel_rfl) rfl rfl g11 e13) <| zS rfl (cj bS rfl (n := 2) (by kernel_rfl) rfl (ah rfl)) <| am rfl rfl (AO.callFAt [0] rfl (.inl rfl) td rfl (rj F x12.1 x12.2 o3 a4 a5 x14 e15) rfl (fun c A' h => by cases h.1) ?_)
   rintro av A' ⟨h, rfl⟩; cases h
   refine ai <| ax rfl (fun c16 => ?_) (fun c16 => ?_)
   ·replace H := aY c16 H;refine ac <| aa ?_;show AR _ _ _ _ _ [0, 1] _;refine zm rfl <| za rfl <| ai <| aJ ?_;obtain rfl := al H;exact And.intro rfl (Exists.intro _ (Exists.intro _ ⟨aC rfl (.refl _), aH [0] rfl, rfl, rfl⟩))
   ·replace H := aZ c16 H;refine aB ?_;obtain ⟨g17, H⟩ := aW H;refine aa ?_;show AR _ _ _ _ _ [0, 1] _;refine zS rfl (fa rfl rfl g17) <| zm rfl <| ai ?_;exact Exists.intro (n9, y7 + 1) ⟨H, Nat.lt_succ_self _, bf [0] (.cons (.refl _) (.cons (.refl _) (.cons (.refl _) (.cons (.refl _) (.nil _))))) rfl⟩
  ·replace H := aZ c10 H;refine cC ?_;exact Exists.intro () ⟨H, bf [0] (.nil _) rfl⟩
 rintro _ H;replace H : fi = some r6 := H
 unfold fi at H
 refine ac <| aa ?_;show AR _ _ _ _ _ [0] _;refine za rfl <| ai <| aJ ?_;obtain rfl := al H;exact And.intro rfl (Exists.intro _ (Exists.intro _ ⟨aC rfl (.refl _), aH [0] rfl, rfl, rfl⟩))
set_option maxRecDepth 100000 in
set_option maxHeartbeats 1000000 in
theorem ip (F : Nat) (a1 : List ((List UInt8) × List UInt8)) (q2 : Option Nat) (o3 : Nat) (a4 : List UInt8) (a5 : List UInt8) (r6 : Bool) (H : dZ F a1 a4 a5 = some r6) : ACalls Tryz.prog 73 [slE (ab Enc.str Enc.str) a1 q2, .fn (.func 74) [] [.pt o3 0]] [.obj o3 [S a4, S a5]] (fun e A' => e = .ret (B r6) ∧ A' = [.obj o3 [S a4, S a5]]) := by
 unfold dZ at H
 refine au Tryz.func73 rfl rfl ?_;show AW _ _ 9 _ _ _;refine ac <| aa ?_;show AR _ _ _ _ _ [0] _;refine za rfl <| ai <| ac ?_;obtain ⟨x7, e8, H⟩ := eD H;refine aa ?_;show AR _ _ _ _ _ [0, 1, 2, 3, 4] _;refine zS rfl (af (av := slE _ _ _) rfl) <| zS rfl (af (av := .fn _ _ _) rfl) <| am rfl rfl (bh [0] rfl sU rfl (mZ F a1 q2 o3 a4 a5 x7 e8) rfl (fun c A' h => by cases h.1) ?_)
 rintro av A' ⟨h, rfl⟩; cases h
 refine zS rfl (eS rfl rfl) <| za rfl <| ai <| aJ ?_;obtain rfl := al H;exact And.intro rfl (Exists.intro _ (Exists.intro _ ⟨aC rfl (.refl _), aH [0] rfl, rfl, rfl⟩))
abbrev _root_.Go.Av.bK := @Tryz.underlying3
abbrev _root_.Go.Av.dx := @Tryz.underlying33
set_option maxRecDepth 100000 in
set_option maxHeartbeats 1000000 in
theorem lj (F : Nat) (o1 : Nat) (a2 : List UInt8) (a3 : List (List UInt8)) (t4 : Nat) (a5 : Int) (a6 : List (Int × (List UInt8) × (List UInt8) × List ((List UInt8) × List UInt8))) (t7 : Nat) (rv : Res (Bool × (List UInt8) × Int × (List (Int × (List UInt8) × (List UInt8) × List ((List UInt8) × List UInt8))) × (List (List UInt8)))) (H : ft F a2 a3 a5 a6 = some rv) : ACalls Tryz.prog 43 [.pt o1 0] [.obj o1 [S a2, .sk t4 a3.length, i64 a5, slE (ab Enc.int (ab Enc.str (ab Enc.str (Enc.sl (ab Enc.str Enc.str))))) a6 (some t7)], .stk t4 (Enc.str.fl a3), .tok t7 33] (jf (fun (r : Bool × (List UInt8) × Int × (List (Int × (List UInt8) × (List UInt8) × List ((List UInt8) × List UInt8))) × (List (List UInt8))) => (fun e A' => e = .ret (B r.1) ∧ ∃ t11 t14, A' = [.obj o1 [S r.2.1, .sk t11 r.2.2.2.2.length, i64 r.2.2.1, slE (ab Enc.int (ab Enc.str (ab Enc.str (Enc.sl (ab Enc.str Enc.str))))) r.2.2.2.1 (some t14)], .stk t11 (Enc.str.fl r.2.2.2.2), .tok t14 33])) (fun e => cx (.iface 46 (.agg #[.int .i64 e]))) rv) := by
 unfold ft at H
 refine au Tryz.func43 rfl rfl ?_;show AW _ _ 88 _ _ _;refine ac <| aa ?_;show AR _ _ _ _ _ [0] _;refine za rfl <| ai <| ac <| ac ?_;obtain ⟨x15, x16, e17, H⟩ := cT H;refine aa ?_;show AR _ _ _ _ _ [0, 1, 2] _;refine zS rfl (af (av := .pt _ _) rfl) <| am rfl rfl (bh [0, 0, 0] rfl di rfl (df F o1 a2 a3 t4 a5 a6 t7 ([60] : List UInt8) x15 x16 e17) rfl (fun c A' h => by cases h.1) ?_)
 rintro av A' ⟨h, rfl⟩; cases h
 refine zS rfl (ce rfl) <| ai <| ax rfl (fun c18 => ?_) (fun c18 => ?_)
 ·replace H := aY c18 H;refine ac <| aa ?_;show AR _ _ _ _ _ [0] _;refine za rfl <| ai <| aJ ?_;obtain rfl := al H;exact And.intro rfl (Exists.intro _ (Exists.intro _ ⟨aC rfl (.refl _), aH [0, 0, 0] rfl, rfl, t4, t7, rfl⟩))
 ·replace H := aZ c18 H;refine aB <| ac ?_
  rcases Or.symm (co H) with ⟨p21, e20, H⟩ | ⟨x19, e20, H⟩
  ·subst H;refine aa ?_;show AR _ _ _ _ _ [0, 1, 2, 3, 4] _;refine zS rfl (af (av := .pt _ _) rfl) <| am rfl rfl (bm (c := cx (.iface 46 (.agg #[.int .i64 p21]))) [0, 0, 0] rfl hY rfl (iA F o1 x16 a3 t4 a5 a6 t7 p21 e20) rfl ?_);exact And.intro rfl (Exists.intro [] ⟨aU _, rfl, rfl⟩)
  refine aa ?_;show AR _ _ _ _ _ [0, 1, 2, 3, 4] _;refine zS rfl (af (av := .pt _ _) rfl) <| am rfl rfl (bh [0, 0, 0] rfl hY rfl (jn F o1 x16 a3 t4 a5 a6 t7 x19.1 x19.2 e20) rfl (fun c A' h => by cases h.1) ?_)
  rintro av A' ⟨h, rfl⟩; cases h
  refine zS rfl (eX (zs := [.int .i64 0, .string ⟨#[]⟩, .string ⟨#[]⟩, .slice none 0 0]) (ps := [(0, 1), (1, 1), (2, 1), (3, 1)]) (cs := [i64 0, S x19.1, S ([] : List UInt8), fW]) (by kernel_rfl) rfl rfl) <| zX rfl (ex (zs := [.int .i64 0, .string ⟨#[]⟩, .string ⟨#[]⟩, .slice none 0 0]) (by kernel_rfl)) ?_;rintro _ _ ⟨o22, rfl, rfl⟩;refine s0 rfl rfl (cW (i := 0) (vs := [i64 0, S x19.1, S ([] : List UInt8), fW]) (by kernel_rfl) rfl rfl (by simp [cd, slE]) rfl (ah rfl)) <| ai ?_
  refine js 0 3 2 44 rfl rfl fun t23 => ?_
  show AW _ _ _ _ _ ⟨_, _, [.tok t23 44, .obj o22 [i64 0, S x19.1, S ([] : List UInt8), slE (ab Enc.str Enc.str) [] (some t23)], .obj o1 [S x19.2, .sk t4 a3.length, i64 a5, slE (ab Enc.int (ab Enc.str (ab Enc.str (Enc.sl (ab Enc.str Enc.str))))) a6 (some t7)], .stk t4 (Enc.str.fl a3), .tok t7 33]⟩;refine ac <| aa ?_;show AR _ _ _ _ _ [0] _;refine za rfl <| ai <| bV (X := Bool × (List UInt8) × (List ((List UInt8) × List UInt8)) × Nat) (fun (y56, y57, y58, t59) => ⟨[(0, .pt o1 0), (3, .pt o22 0), (4, B y56)], [], [.obj o1 [S y57, .sk t4 a3.length, i64 a5, slE (ab Enc.int (ab Enc.str (ab Enc.str (Enc.sl (ab Enc.str Enc.str))))) a6 (some t7)], .obj o22 [i64 0, S x19.1, S ([] : List UInt8), slE (ab Enc.str Enc.str) y58 (some t59)], .stk t4 (Enc.str.fl a3), .tok t7 33, .tok t59 44]⟩) (fun (y56, y57, y58, t59) => dB F a3 a5 a6 x19 y56 y57 y58 = some rv) ?_ ?_
  ·refine aP <| dp (X := Nat × (List ((List UInt8) × List UInt8)) × Nat × (List UInt8)) (fun (n28, y24, t25, y26) => ⟨[(0, .pt o1 0), (3, .pt o22 0), (4, B false)], [], [.obj o22 [i64 0, S x19.1, S ([] : List UInt8), slE (ab Enc.str Enc.str) y24 (some t25)], .obj o1 [S y26, .sk t4 a3.length, i64 a5, slE (ab Enc.int (ab Enc.str (ab Enc.str (Enc.sl (ab Enc.str Enc.str))))) a6 (some t7)], .stk t4 (Enc.str.fl a3), .tok t25 44, .tok t7 33]⟩) (fun (n28, y24, t25, y26) => ff F a3 a5 a6 x19 n28 (y24, y26) = some rv) (fun (n28, y24, t25, y26) => n28) (F, [], t23, x19.2) H (bf [1, 1, 1, 0, 0] (.cons (.refl _) (.cons (.refl _) (.cons (.refl _) (.nil _)))) rfl) ?_;rintro ⟨n28, y24, t25, y26⟩ H;obtain ⟨n28, rfl, H⟩ := eT H;replace H : fg F a3 a5 a6 x19 (ff F a3 a5 a6 x19 n28) y24 y26 = some rv := H
   unfold fg at H
   refine aP <| ac ?_;obtain ⟨x29, x30, e31, H⟩ := cT H;refine aa ?_;show AR _ _ _ _ _ [0, 1, 2] _;refine zS rfl (af (av := .pt _ _) rfl) <| am rfl rfl (bh [1, 1, 2] rfl oX rfl (mh F o1 y26 a3 t4 a5 a6 t7 x29 x30 e31) rfl (fun c A' h => by cases h.1) ?_)
   rintro av A' ⟨h, rfl⟩; cases h
   refine za rfl <| ai <| ac <| ac ?_;obtain ⟨x32, x33, e34, H⟩ := cT H;refine aa ?_;show AR _ _ _ _ _ [0, 1] _;refine zS rfl (af (av := .pt _ _) rfl) <| am rfl rfl (bh [0, 0, 0] rfl di rfl (df F o1 x30 a3 t4 a5 a6 t7 ([62] : List UInt8) x32 x33 e34) rfl (fun c A' h => by cases h.1) ?_)
   rintro av A' ⟨h, rfl⟩; cases h
   refine ai <| ax rfl (fun c35 => ?_) (fun c35 => ?_)
   ·replace H := aY c35 H;refine cC ?_;exact Exists.intro (false, x33, y24, t25) ⟨H, bf [0, 2, 0, 0, 0] (.cons (.refl _) (.cons (.refl _) (.cons (.refl _) (.nil _)))) rfl⟩
   ·replace H := aZ c35 H;refine aB <| ac <| ac ?_;obtain ⟨x36, x37, e38, H⟩ := cT H;refine aa ?_;show AR _ _ _ _ _ [0, 1] _;refine zS rfl (af (av := .pt _ _) rfl) <| am rfl rfl (bh [0, 0, 0] rfl di rfl (df F o1 x33 a3 t4 a5 a6 t7 ([47, 62] : List UInt8) x36 x37 e38) rfl (fun c A' h => by cases h.1) ?_)
    rintro av A' ⟨h, rfl⟩; cases h
    refine ai <| ax rfl (fun c39 => ?_) (fun c39 => ?_)
    ·replace H := aY c39 H;refine ac <| aa ?_;show AR _ _ _ _ _ [0] _;refine za rfl <| ai <| cC ?_;exact Exists.intro (true, x37, y24, t25) ⟨H, bf [0, 2, 0, 0, 0] (.cons (.refl _) (.cons (.refl _) (.cons (.refl _) (.nil _)))) rfl⟩
    ·replace H := aZ c39 H;refine aB <| ac ?_
     rcases Or.symm (co H) with ⟨p42, e41, H⟩ | ⟨x40, e41, H⟩
     ·subst H;refine aa ?_;show AR _ _ _ _ _ [0, 1] _;refine zm rfl <| am rfl rfl (bm (c := cx (.iface 46 (.agg #[.int .i64 p42]))) [] rfl bz rfl (bB F x29 p42 e41) rfl ?_);exact And.intro rfl (Exists.intro [] ⟨aU _, rfl, rfl⟩)
     refine aa ?_;show AR _ _ _ _ _ [0, 1] _;refine zm rfl <| am rfl rfl (aG rfl bz rfl (bJ F x29 e41) ?_);refine ai <| ac ?_
     rcases Or.symm (co H) with ⟨p45, e44, H⟩ | ⟨x43, e44, H⟩
     ·subst H;refine aa ?_;show AR _ _ _ _ _ [0, 1, 2, 3] _;refine zS rfl (af (av := .pt _ _) rfl) <| am rfl rfl (bm (c := cx (.iface 46 (.agg #[.int .i64 p45]))) [0, 0, 0] rfl oW rfl (nR F o1 x37 a3 t4 a5 a6 t7 p45 e44) rfl ?_);exact And.intro rfl (Exists.intro [] ⟨aU _, rfl, rfl⟩)
     refine aa ?_;show AR _ _ _ _ _ [0, 1, 2, 3] _;refine zS rfl (af (av := .pt _ _) rfl) <| am rfl rfl (bh [0, 0, 0] rfl oW rfl (pw F o1 x37 a3 t4 a5 a6 t7 x43.1 x43.2.1 x43.2.2 e44) rfl (fun c A' h => by cases h.1) ?_)
     rintro av A' ⟨h, rfl⟩; cases h
     refine zX rfl (ex (zs := [.string ⟨#[]⟩, .string ⟨#[]⟩]) (by kernel_rfl)) ?_;rintro _ _ ⟨o46, rfl, rfl⟩;refine s0 rfl rfl (cW (i := 0) (vs := [S x43.1, S x43.2.1]) (by kernel_rfl) rfl rfl (by simp [cd, slE]) rfl (ah rfl)) <| ai <| ac ?_;obtain ⟨x47, e48, H⟩ := eD H
     rcases Or.symm (co H) with ⟨p51, e50, H⟩ | ⟨x49, e50, H⟩
     ·subst H;refine aa ?_;show AR _ _ _ _ _ [0, 1, 2, 3, 4, 5] _;refine zS rfl (an (n := 3) (by kernel_rfl) rfl) <| zR rfl (ao (i := 4) aL rfl rfl rfl rfl) <| zS rfl (jp rfl rfl) <| am rfl rfl (bh [0] rfl oV rfl (ip F y24 (some t25) o46 x43.1 x43.2.1 x47 e48) rfl (fun c A' h => by cases h.1) ?_)
      rintro av A' ⟨h, rfl⟩; cases h
      refine zS rfl (ce rfl) <| am rfl rfl (bm (c := cx (.iface 46 (.agg #[.int .i64 p51]))) [] rfl bz rfl (bB F (!x47) p51 e50) rfl ?_);exact And.intro rfl (Exists.intro [] ⟨aU _, rfl, rfl⟩)
     refine aa ?_;show AR _ _ _ _ _ [0, 1, 2, 3, 4, 5] _;refine zS rfl (an (n := 3) (by kernel_rfl) rfl) <| zR rfl (ao (i := 4) aL rfl rfl rfl rfl) <| zS rfl (jp rfl rfl) <| am rfl rfl (bh [0] rfl oV rfl (ip F y24 (some t25) o46 x43.1 x43.2.1 x47 e48) rfl (fun c A' h => by cases h.1) ?_)
     rintro av A' ⟨h, rfl⟩; cases h
     refine zS rfl (ce rfl) <| am rfl rfl (aG rfl bz rfl (bJ F (!x47) e50) ?_);refine ai ?_;obtain ⟨g53, H⟩ := aW H;obtain ⟨x54, e55, H⟩ := bM H;refine aa ?_;show AR _ _ _ _ _ [0, 1, 2, 3, 4, 5, 6] _;refine zS rfl (an (n := 3) (by kernel_rfl) rfl) <| zR rfl (ao (i := 4) aL rfl rfl rfl rfl) <| zR rfl (gZ (i := 0) (n := 2) bS rfl (by kernel_rfl) rfl rfl (ah rfl)) <| zR rfl (dz (E := (ab Enc.str Enc.str)) (bytes := 32) (zs := [.string ⟨#[]⟩, .string ⟨#[]⟩]) (l := ([(x43.1, x43.2.1)] : List ((List UInt8) × List UInt8))) aL (by kernel_rfl) (by kernel_rfl) rfl rfl rfl rfl rfl) <| zX rfl (im (E := (ab Enc.str Enc.str)) (bytes := 32) 5 aL aL rfl (by kernel_rfl) rfl rfl rfl rfl g53 e55) ?_;rintro _ _ ⟨t52, rfl, rfl⟩;refine zS rfl (an (n := 3) (by kernel_rfl) rfl) <| s0 rfl rfl (az (i := 4) (c := slE _ _ _) (by kernel_rfl) rfl rfl rfl rfl (ah rfl)) <| ai ?_;exact Exists.intro (n28, x54, t52, x43.2.2) ⟨H, Nat.lt_succ_self _, bf [4, 1, 1, 2, 1] (.cons (.refl _) (.cons (.refl _) (.cons (.refl _) (.nil _)))) rfl⟩
  rintro ⟨y56, y57, y58, t59⟩ H;replace H : dB F a3 a5 a6 x19 y56 y57 y58 = some rv := H
  unfold dB at H
  refine bV (X := Int) (fun y66 => ⟨[(0, .pt o1 0), (3, .pt o22 0), (4, B y56)], [], [.obj o1 [S y57, .sk t4 a3.length, i64 y66, slE (ab Enc.int (ab Enc.str (ab Enc.str (Enc.sl (ab Enc.str Enc.str))))) a6 (some t7)], .obj o22 [i64 0, S x19.1, S ([] : List UInt8), slE (ab Enc.str Enc.str) y58 (some t59)], .stk t4 (Enc.str.fl a3), .tok t7 33, .tok t59 44]⟩) (fun y66 => dC F a3 a6 x19 y56 y57 y58 y66 = some rv) ?_ ?_
  ·refine ac <| aa ?_;show AR _ _ _ _ _ [0, 1, 2, 3, 4, 5] _;refine zS rfl (af (av := .pt _ _) rfl) <| zS rfl (aq rfl) <| zS rfl (an (n := 1) (by kernel_rfl) rfl) <| zR rfl (ao (i := 0) ar rfl rfl rfl rfl) <| zS rfl (eM ar rfl) <| zS rfl (bW rfl rfl) <| ai <| ax rfl (fun c61 => ?_) (fun c61 => ?_)
   ·replace H := aY c61 H;refine ac ?_;obtain ⟨g62, H⟩ := aW H;refine aa ?_;show AR _ _ _ _ _ [0, 1, 2, 3, 4, 5, 6, 7] _;refine zS rfl (af (av := .pt _ _) rfl) <| zS rfl (aq rfl) <| zS rfl (an (n := 2) (by kernel_rfl) rfl) <| zR rfl (ao (i := 0) bK rfl rfl rfl rfl) <| zS rfl (fa rfl rfl g62) <| zS rfl (aq rfl) <| zS rfl (an (n := 2) (by kernel_rfl) rfl) <| s0 rfl rfl (az (i := 0) (c := .v _) (by kernel_rfl) rfl rfl rfl rfl (ah rfl)) <| ai ?_
    rcases Or.symm (co H) with ⟨p65, e64, H⟩ | ⟨x63, e64, H⟩
    ·subst H;refine aa ?_;show AR _ _ _ _ _ [0, 1, 2, 3, 4, 5] _;refine zS rfl (af (av := .pt _ _) rfl) <| zS rfl (aq rfl) <| zS rfl (an (n := 2) (by kernel_rfl) rfl) <| zR rfl (ao (i := 0) bK rfl rfl rfl rfl) <| zS rfl (bW rfl rfl) <| am rfl rfl (bm (c := cx (.iface 46 (.agg #[.int .i64 p65]))) [] rfl bz rfl (bB F (decide (a5 + 1 = 1)) p65 e64) rfl ?_);exact And.intro rfl (Exists.intro [] ⟨aU _, rfl, rfl⟩)
    refine aa ?_;show AR _ _ _ _ _ [0, 1, 2, 3, 4, 5] _;refine zS rfl (af (av := .pt _ _) rfl) <| zS rfl (aq rfl) <| zS rfl (an (n := 2) (by kernel_rfl) rfl) <| zR rfl (ao (i := 0) bK rfl rfl rfl rfl) <| zS rfl (bW rfl rfl) <| am rfl rfl (aG rfl bz rfl (bJ F (decide (a5 + 1 = 1)) e64) ?_);refine ai ?_;exact Exists.intro (a5 + 1) ⟨H, bf [0, 0, 0, 0, 0] (.cons (.refl _) (.cons (.refl _) (.cons (.refl _) (.nil _)))) rfl⟩
   ·replace H := aZ c61 H;refine aB ?_;exact Exists.intro a5 ⟨H, bf [0, 0, 0, 0, 0] (.cons (.refl _) (.cons (.refl _) (.cons (.refl _) (.nil _)))) rfl⟩
  rintro y66 H;replace H : dC F a3 a6 x19 y56 y57 y58 y66 = some rv := H
  unfold dC at H
  refine bV (X := Nat × (List (List UInt8))) (fun (t78, y79) => ⟨[(0, .pt o1 0), (3, .pt o22 0), (4, B y56)], [], [.obj o1 [S y57, .sk t78 y79.length, i64 y66, slE (ab Enc.int (ab Enc.str (ab Enc.str (Enc.sl (ab Enc.str Enc.str))))) a6 (some t7)], .obj o22 [i64 0, S x19.1, S ([] : List UInt8), slE (ab Enc.str Enc.str) y58 (some t59)], .stk t78 (Enc.str.fl y79), .tok t7 33, .tok t59 44]⟩) (fun (t78, y79) => fc F a6 x19 y56 y57 y58 y66 y79 = some rv) ?_ ?_
  ·refine bV (X := Nat × (List (List UInt8))) (fun (t74, y75) => ⟨[(0, .pt o1 0), (3, .pt o22 0), (4, B y56)], [], [.obj o1 [S y57, .sk t74 y75.length, i64 y66, slE (ab Enc.int (ab Enc.str (ab Enc.str (Enc.sl (ab Enc.str Enc.str))))) a6 (some t7)], .obj o22 [i64 0, S x19.1, S ([] : List UInt8), slE (ab Enc.str Enc.str) y58 (some t59)], .stk t74 (Enc.str.fl y75), .tok t7 33, .tok t59 44]⟩) (fun (t74, y75) => fb F a6 x19 y56 y57 y58 y66 y75 = some rv) ?_ ?_
   ·obtain ⟨g68, H⟩ := aW H;obtain ⟨x69, e70, H⟩ := bM H;refine bE (by kernel_rfl) ?_;show AI _ _ _ _ _ 12 (Array.replicate 12 false) _;refine zk 0 rfl (af (av := .pt _ _) rfl) ?_;show AI _ _ _ _ _ _ #[true, false, false, false, false, false, false, false, false, false, false, false] _;refine zk 1 rfl (af (av := .pt _ _) rfl) ?_;show AI _ _ _ _ _ _ #[true, true, false, false, false, false, false, false, false, false, false, false] _;refine zk 2 rfl (aq rfl) ?_;show AI _ _ _ _ _ _ #[true, true, true, false, false, false, false, false, false, false, false, false] _;refine zk 3 rfl (an (n := 1) (by kernel_rfl) rfl) ?_;show AI _ _ _ _ _ _ #[true, true, true, true, false, false, false, false, false, false, false, false] _;refine zk 5 rfl (an (n := 1) (by kernel_rfl) rfl) ?_;show AI _ _ _ _ _ _ #[true, true, true, true, false, true, false, false, false, false, false, false] _;refine AI.two (i := 4) (j := 6) (by kernel_rfl) rfl rfl rfl rfl ?_ ?_
    ·refine bg rfl (ao (i := 0) ar rfl rfl rfl rfl) ?_;show AI _ _ _ _ _ _ #[true, true, true, true, true, true, false, false, false, false, false, false] _;refine bI (i := 6) (by kernel_rfl) rfl rfl <| bg rfl (ao (i := 1) ag rfl rfl rfl rfl) ?_;show AI _ _ _ _ _ _ #[true, true, true, true, true, true, true, false, false, false, false, false] _;refine bI (i := 7) (by kernel_rfl) rfl rfl <| bg rfl (gf (E := Enc.str) (bytes := 16) (xs := [.tmp 60]) (l := ([x19.1] : List (List UInt8))) ar (by kernel_rfl) rfl rfl (by decide) rfl rfl) ?_;show AI _ _ _ _ _ _ #[true, true, true, true, true, true, true, true, false, false, false, false] _;refine bI (i := 8) (by kernel_rfl) rfl rfl <| AIO.opx rfl (jr (E := Enc.str) (bytes := 16) 2 ar ar rfl (by kernel_rfl) rfl rfl rfl rfl rfl rfl rfl g68 e70) ?_;rintro _ _ ⟨t71, rfl, rfl⟩;show AI _ _ _ _ _ _ #[true, true, true, true, true, true, true, true, true, false, false, false] _;refine zk 9 rfl (aq rfl) ?_;show AI _ _ _ _ _ _ #[true, true, true, true, true, true, true, true, true, true, false, false] _;refine zk 10 rfl (an (n := 1) (by kernel_rfl) rfl) ?_;show AI _ _ _ _ _ _ #[true, true, true, true, true, true, true, true, true, true, true, false] _;refine bI (i := 11) (by kernel_rfl) rfl rfl <| AIO.op0 (az (i := 0) (c := .sk _ _) (by kernel_rfl) rfl rfl rfl rfl (ah rfl)) ?_
     show AI _ _ _ _ _ _ #[true, true, true, true, true, true, true, true, true, true, true, true] _;refine cl rfl ?_;exact Exists.intro (t71, x69) ⟨H, bf [0, 0, 0, 0, 0] (.cons (.refl _) (.cons (.refl _) (.cons (.refl _) (.nil _)))) rfl⟩
    ·refine bg rfl (ao (i := 1) ag rfl rfl rfl rfl) ?_;show AI _ _ _ _ _ _ #[true, true, true, true, false, true, true, false, false, false, false, false] _;refine AI.two (i := 4) (j := 7) (by kernel_rfl) rfl rfl rfl rfl ?_ ?_
     ·refine bg rfl (ao (i := 0) ar rfl rfl rfl rfl) ?_;show AI _ _ _ _ _ _ #[true, true, true, true, true, true, true, false, false, false, false, false] _;refine bI (i := 7) (by kernel_rfl) rfl rfl <| bg rfl (gf (E := Enc.str) (bytes := 16) (xs := [.tmp 60]) (l := ([x19.1] : List (List UInt8))) ar (by kernel_rfl) rfl rfl (by decide) rfl rfl) ?_;show AI _ _ _ _ _ _ #[true, true, true, true, true, true, true, true, false, false, false, false] _;refine bI (i := 8) (by kernel_rfl) rfl rfl <| AIO.opx rfl (jr (E := Enc.str) (bytes := 16) 2 ar ar rfl (by kernel_rfl) rfl rfl rfl rfl rfl rfl rfl g68 e70) ?_;rintro _ _ ⟨t72, rfl, rfl⟩;show AI _ _ _ _ _ _ #[true, true, true, true, true, true, true, true, true, false, false, false] _;refine zk 9 rfl (aq rfl) ?_;show AI _ _ _ _ _ _ #[true, true, true, true, true, true, true, true, true, true, false, false] _;refine zk 10 rfl (an (n := 1) (by kernel_rfl) rfl) ?_;show AI _ _ _ _ _ _ #[true, true, true, true, true, true, true, true, true, true, true, false] _;refine bI (i := 11) (by kernel_rfl) rfl rfl <| AIO.op0 (az (i := 0) (c := .sk _ _) (by kernel_rfl) rfl rfl rfl rfl (ah rfl)) ?_;show AI _ _ _ _ _ _ #[true, true, true, true, true, true, true, true, true, true, true, true] _;refine cl rfl ?_;exact Exists.intro (t72, x69) ⟨H, bf [0, 0, 0, 0, 0] (.cons (.refl _) (.cons (.refl _) (.cons (.refl _) (.nil _)))) rfl⟩
     ·refine bg rfl (gf (E := Enc.str) (bytes := 16) (xs := [.tmp 60]) (l := ([x19.1] : List (List UInt8))) ar (by kernel_rfl) rfl rfl (by decide) rfl rfl) ?_;show AI _ _ _ _ _ _ #[true, true, true, true, false, true, true, true, false, false, false, false] _;refine bI (i := 4) (by kernel_rfl) rfl rfl <| bg rfl (ao (i := 0) ar rfl rfl rfl rfl) ?_;show AI _ _ _ _ _ _ #[true, true, true, true, true, true, true, true, false, false, false, false] _;refine bI (i := 8) (by kernel_rfl) rfl rfl <| AIO.opx rfl (jr (E := Enc.str) (bytes := 16) 2 ar ar rfl (by kernel_rfl) rfl rfl rfl rfl rfl rfl rfl g68 e70) ?_;rintro _ _ ⟨t73, rfl, rfl⟩;show AI _ _ _ _ _ _ #[true, true, true, true, true, true, true, true, true, false, false, false] _;refine zk 9 rfl (aq rfl) ?_;show AI _ _ _ _ _ _ #[true, true, true, true, true, true, true, true, true, true, false, false] _;refine zk 10 rfl (an (n := 1) (by kernel_rfl) rfl) ?_;show AI _ _ _ _ _ _ #[true, true, true, true, true, true, true, true, true, true, true, false] _;refine bI (i := 11) (by kernel_rfl) rfl rfl <| AIO.op0 (az (i := 0) (c := .sk _ _) (by kernel_rfl) rfl rfl rfl rfl (ah rfl)) ?_;show AI _ _ _ _ _ _ #[true, true, true, true, true, true, true, true, true, true, true, true] _;refine cl rfl ?_;exact Exists.intro (t73, x69) ⟨H, bf [0, 0, 0, 0, 0] (.cons (.refl _) (.cons (.refl _) (.cons (.refl _) (.nil _)))) rfl⟩
   rintro ⟨t74, y75⟩ H;replace H : fb F a6 x19 y56 y57 y58 y66 y75 = some rv := H
   unfold fb at H
   refine ac <| aa ?_;show AR _ _ _ _ _ [0, 1, 2, 3, 4, 5] _;refine zS rfl (af (av := .pt _ _) rfl) <| zS rfl (aq rfl) <| zS rfl (an (n := 1) (by kernel_rfl) rfl) <| zR rfl (ao (i := 0) ar rfl rfl rfl rfl) <| zS rfl (eM ar rfl) <| zS rfl (fZ rfl rfl) <| ai <| ax rfl (fun c77 => ?_) (fun c77 => ?_)
   ·replace H := aY c77 H;obtain rfl := al H;refine aa ?_;show AR _ _ _ _ _ [0, 1, 2] _;refine zS rfl (eX (zs := [.int .i64 0]) (ps := [(0, 1)]) (cs := [i64 5]) (by kernel_rfl) rfl rfl) <| zS rfl (bk (a := .agg _) Tryz.underlying46 rfl rfl) <| am rfl rfl (AO.panicT (c := cx (.iface 46 (.agg #[.int .i64 5]))) rfl rfl ?_);exact And.intro rfl (Exists.intro [] ⟨aU _, rfl, rfl⟩)
   ·replace H := aZ c77 H;refine aB ?_;exact Exists.intro (t74, y75) ⟨H, bf [0, 0, 0, 0, 0] (.cons (.refl _) (.cons (.refl _) (.cons (.refl _) (.nil _)))) rfl⟩
  rintro ⟨t78, y79⟩ H;replace H : fc F a6 x19 y56 y57 y58 y66 y79 = some rv := H
  unfold fc at H
  refine bV (X := (List (Int × (List UInt8) × (List UInt8) × List ((List UInt8) × List UInt8))) × Nat) (fun (y87, t88) => ⟨[(0, .pt o1 0), (3, .pt o22 0), (4, B y56)], [], [.obj o1 [S y57, .sk t78 y79.length, i64 y66, slE (ab Enc.int (ab Enc.str (ab Enc.str (Enc.sl (ab Enc.str Enc.str))))) y87 (some t88)], .obj o22 [i64 0, S x19.1, S ([] : List UInt8), slE (ab Enc.str Enc.str) y58 (some t59)], .stk t78 (Enc.str.fl y79), .tok t88 33, .tok t59 44]⟩) (fun (y87, t88) => fe F x19 y56 y57 y66 y79 y87 = some rv) ?_ ?_
  ·obtain ⟨g82, H⟩ := aW H;obtain ⟨x83, e84, H⟩ := bM H;refine bE (by kernel_rfl) ?_;show AI _ _ _ _ _ 11 (Array.replicate 11 false) _;refine zk 0 rfl (af (av := .pt _ _) rfl) ?_;show AI _ _ _ _ _ _ #[true, false, false, false, false, false, false, false, false, false, false] _;refine zk 1 rfl (af (av := .pt _ _) rfl) ?_;show AI _ _ _ _ _ _ #[true, true, false, false, false, false, false, false, false, false, false] _;refine zk 2 rfl (aq rfl) ?_;show AI _ _ _ _ _ _ #[true, true, true, false, false, false, false, false, false, false, false] _;refine zk 3 rfl (an (n := 3) (by kernel_rfl) rfl) ?_;show AI _ _ _ _ _ _ #[true, true, true, true, false, false, false, false, false, false, false] _;refine AI.two (i := 4) (j := 5) (by kernel_rfl) rfl rfl rfl rfl ?_ ?_
   ·refine bg rfl (ao (i := 0) aw rfl rfl rfl rfl) ?_;show AI _ _ _ _ _ _ #[true, true, true, true, true, false, false, false, false, false, false] _;refine bI (i := 5) (by kernel_rfl) rfl rfl <| bg rfl (gZ (i := 1) (n := 4) dx rfl (by kernel_rfl) rfl rfl (ah rfl)) ?_;show AI _ _ _ _ _ _ #[true, true, true, true, true, true, false, false, false, false, false] _;refine bI (i := 6) (by kernel_rfl) rfl rfl <| bg rfl (dV (ds := [i64 0, S x19.1, S ([] : List UInt8), slE (ab Enc.str Enc.str) y58 none]) 78 (.cons (.refl _) (.cons (.refl _) (.cons (.refl _) (.cons (.tok _ _ _) (.nil))))) (hc := rfl) <| dz (E := (ab Enc.int (ab Enc.str (ab Enc.str (Enc.sl (ab Enc.str Enc.str)))))) (bytes := 64) (zs := [.int .i64 0, .string ⟨#[]⟩, .string ⟨#[]⟩, .slice none 0 0]) (l := ([(0, x19.1, ([] : List UInt8), y58)] : List (Int × (List UInt8) × (List UInt8) × List ((List UInt8) × List UInt8)))) aw (by kernel_rfl) (by kernel_rfl) rfl rfl rfl rfl rfl) ?_;show AI _ _ _ _ _ _ #[true, true, true, true, true, true, true, false, false, false, false] _;refine bI (i := 7) (by kernel_rfl) rfl rfl <| AIO.opx rfl (im (E := (ab Enc.int (ab Enc.str (ab Enc.str (Enc.sl (ab Enc.str Enc.str)))))) (bytes := 64) 3 aw aw rfl (by kernel_rfl) rfl rfl rfl rfl g82 e84) ?_;rintro _ _ ⟨t81, rfl, rfl⟩;show AI _ _ _ _ _ _ #[true, true, true, true, true, true, true, true, false, false, false] _
    refine zk 8 rfl (aq rfl) ?_;show AI _ _ _ _ _ _ #[true, true, true, true, true, true, true, true, true, false, false] _;refine zk 9 rfl (an (n := 3) (by kernel_rfl) rfl) ?_;show AI _ _ _ _ _ _ #[true, true, true, true, true, true, true, true, true, true, false] _;refine bI (i := 10) (by kernel_rfl) rfl rfl <| AIO.op0 (az (i := 0) (c := slE _ _ _) (by kernel_rfl) rfl rfl rfl rfl (ah rfl)) ?_;show AI _ _ _ _ _ _ #[true, true, true, true, true, true, true, true, true, true, true] _;refine cl rfl ?_;exact Exists.intro (x83, t81) ⟨H, bf [0, 0, 0, 0, 0] (.cons (.refl _) (.cons (.refl _) (.cons (.refl _) (.nil _)))) rfl⟩
   ·refine bg rfl (gZ (i := 1) (n := 4) dx rfl (by kernel_rfl) rfl rfl (ah rfl)) ?_;show AI _ _ _ _ _ _ #[true, true, true, true, false, true, false, false, false, false, false] _;refine AI.two (i := 4) (j := 6) (by kernel_rfl) rfl rfl rfl rfl ?_ ?_
    ·refine bg rfl (ao (i := 0) aw rfl rfl rfl rfl) ?_;show AI _ _ _ _ _ _ #[true, true, true, true, true, true, false, false, false, false, false] _;refine bI (i := 6) (by kernel_rfl) rfl rfl <| bg rfl (dV (ds := [i64 0, S x19.1, S ([] : List UInt8), slE (ab Enc.str Enc.str) y58 none]) 78 (.cons (.refl _) (.cons (.refl _) (.cons (.refl _) (.cons (.tok _ _ _) (.nil))))) (hc := rfl) <| dz (E := (ab Enc.int (ab Enc.str (ab Enc.str (Enc.sl (ab Enc.str Enc.str)))))) (bytes := 64) (zs := [.int .i64 0, .string ⟨#[]⟩, .string ⟨#[]⟩, .slice none 0 0]) (l := ([(0, x19.1, ([] : List UInt8), y58)] : List (Int × (List UInt8) × (List UInt8) × List ((List UInt8) × List UInt8)))) aw (by kernel_rfl) (by kernel_rfl) rfl rfl rfl rfl rfl) ?_;show AI _ _ _ _ _ _ #[true, true, true, true, true, true, true, false, false, false, false] _;refine bI (i := 7) (by kernel_rfl) rfl rfl <| AIO.opx rfl (im (E := (ab Enc.int (ab Enc.str (ab Enc.str (Enc.sl (ab Enc.str Enc.str)))))) (bytes := 64) 3 aw aw rfl (by kernel_rfl) rfl rfl rfl rfl g82 e84) ?_;rintro _ _ ⟨t85, rfl, rfl⟩;show AI _ _ _ _ _ _ #[true, true, true, true, true, true, true, true, false, false, false] _;refine zk 8 rfl (aq rfl) ?_;show AI _ _ _ _ _ _ #[true, true, true, true, true, true, true, true, true, false, false] _;refine zk 9 rfl (an (n := 3) (by kernel_rfl) rfl) ?_
     show AI _ _ _ _ _ _ #[true, true, true, true, true, true, true, true, true, true, false] _;refine bI (i := 10) (by kernel_rfl) rfl rfl <| AIO.op0 (az (i := 0) (c := slE _ _ _) (by kernel_rfl) rfl rfl rfl rfl (ah rfl)) ?_;show AI _ _ _ _ _ _ #[true, true, true, true, true, true, true, true, true, true, true] _;refine cl rfl ?_;exact Exists.intro (x83, t85) ⟨H, bf [0, 0, 0, 0, 0] (.cons (.refl _) (.cons (.refl _) (.cons (.refl _) (.nil _)))) rfl⟩
    ·refine bg rfl (dV (ds := [i64 0, S x19.1, S ([] : List UInt8), slE (ab Enc.str Enc.str) y58 none]) 78 (.cons (.refl _) (.cons (.refl _) (.cons (.refl _) (.cons (.tok _ _ _) (.nil))))) (hc := rfl) <| dz (E := (ab Enc.int (ab Enc.str (ab Enc.str (Enc.sl (ab Enc.str Enc.str)))))) (bytes := 64) (zs := [.int .i64 0, .string ⟨#[]⟩, .string ⟨#[]⟩, .slice none 0 0]) (l := ([(0, x19.1, ([] : List UInt8), y58)] : List (Int × (List UInt8) × (List UInt8) × List ((List UInt8) × List UInt8)))) aw (by kernel_rfl) (by kernel_rfl) rfl rfl rfl rfl rfl) ?_;show AI _ _ _ _ _ _ #[true, true, true, true, false, true, true, false, false, false, false] _;refine bI (i := 4) (by kernel_rfl) rfl rfl <| bg rfl (ao (i := 0) aw rfl rfl rfl rfl) ?_;show AI _ _ _ _ _ _ #[true, true, true, true, true, true, true, false, false, false, false] _;refine bI (i := 7) (by kernel_rfl) rfl rfl <| AIO.opx rfl (im (E := (ab Enc.int (ab Enc.str (ab Enc.str (Enc.sl (ab Enc.str Enc.str)))))) (bytes := 64) 3 aw aw rfl (by kernel_rfl) rfl rfl rfl rfl g82 e84) ?_;rintro _ _ ⟨t86, rfl, rfl⟩;show AI _ _ _ _ _ _ #[true, true, true, true, true, true, true, true, false, false, false] _;refine zk 8 rfl (aq rfl) ?_;show AI _ _ _ _ _ _ #[true, true, true, true, true, true, true, true, true, false, false] _;refine zk 9 rfl (an (n := 3) (by kernel_rfl) rfl) ?_
     show AI _ _ _ _ _ _ #[true, true, true, true, true, true, true, true, true, true, false] _;refine bI (i := 10) (by kernel_rfl) rfl rfl <| AIO.op0 (az (i := 0) (c := slE _ _ _) (by kernel_rfl) rfl rfl rfl rfl (ah rfl)) ?_;show AI _ _ _ _ _ _ #[true, true, true, true, true, true, true, true, true, true, true] _;refine cl rfl ?_;exact Exists.intro (x83, t86) ⟨H, bf [0, 0, 0, 0, 0] (.cons (.refl _) (.cons (.refl _) (.cons (.refl _) (.nil _)))) rfl⟩
  rintro ⟨y87, t88⟩ H;replace H : fe F x19 y56 y57 y66 y79 y87 = some rv := H
  unfold fe at H
  refine bV (X := Nat × (List (List UInt8)) × (List (Int × (List UInt8) × (List UInt8) × List ((List UInt8) × List UInt8))) × Nat) (fun (t96, y97, y98, t99) => ⟨[], [], [.obj o1 [S y57, .sk t96 y97.length, i64 y66, slE (ab Enc.int (ab Enc.str (ab Enc.str (Enc.sl (ab Enc.str Enc.str))))) y98 (some t99)], .stk t96 (Enc.str.fl y97), .tok t99 33]⟩) (fun (t96, y97, y98, t99) => eh y57 y66 y97 y98 = some rv) ?_ ?_
  ·refine ac <| aa ?_;show AR _ _ _ _ _ [0] _;refine zm rfl <| ai <| ax rfl (fun c90 => ?_) (fun c90 => ?_)
   ·replace H := aY c90 H
    rcases Or.symm (co H) with ⟨p93, e92, H⟩ | ⟨x91, e92, H⟩
    ·subst H;refine aa ?_;show AR _ _ _ _ _ [0, 1, 2, 3] _;refine zS rfl (af (av := .pt _ _) rfl) <| zS rfl (an (n := 1) (by kernel_rfl) rfl) <| zR rfl (ao (i := 1) ag rfl rfl rfl rfl) <| am rfl rfl (bm (c := cx (.iface 46 (.agg #[.int .i64 p93]))) [0, 1, 1] rfl kj rfl (kF F o1 y57 y79 t78 y66 y87 t88 x19.1 p93 e92) rfl ?_);exact And.intro rfl (Exists.intro [] ⟨aU _, rfl, rfl⟩)
    refine aa ?_;show AR _ _ _ _ _ [0, 1, 2, 3] _;refine zS rfl (af (av := .pt _ _) rfl) <| zS rfl (an (n := 1) (by kernel_rfl) rfl) <| zR rfl (ao (i := 1) ag rfl rfl rfl rfl) <| am rfl rfl (bh [0, 1, 1] rfl kj rfl (li F o1 y57 y79 t78 y66 y87 t88 x19.1 x91.1 x91.2 e92) rfl (fun c A' h => by cases h.1) ?_)
    rintro av A' ⟨h, t94, t95, rfl⟩; cases h
    refine ai ?_;exact Exists.intro (t94, x91.2, x91.1, t95) ⟨H, bf [0, 0, 0] (.nil _) rfl⟩
   ·replace H := aZ c90 H;refine aB ?_;exact Exists.intro (t78, y79, y87, t88) ⟨H, bf [0, 1, 1] (.nil _) rfl⟩
  rintro ⟨t96, y97, y98, t99⟩ H;replace H : eh y57 y66 y97 y98 = some rv := H
  unfold eh at H
  refine ac <| aa ?_;show AR _ _ _ _ _ [0] _;refine za rfl <| ai <| aJ ?_;obtain rfl := al H;exact And.intro rfl (Exists.intro _ (Exists.intro _ ⟨aC rfl (.refl _), aH [0, 0, 0] rfl, rfl, t96, t99, rfl⟩))
theorem mG (F : Nat) (o1 : Nat) (a2 : List UInt8) (a3 : List (List UInt8)) (t4 : Nat) (a5 : Int) (a6 : List (Int × (List UInt8) × (List UInt8) × List ((List UInt8) × List UInt8))) (t7 : Nat) (r8 : Bool) (r9 : List UInt8) (r12 : Int) (r13 : List (Int × (List UInt8) × (List UInt8) × List ((List UInt8) × List UInt8))) (r10 : List (List UInt8)) (H : ft F a2 a3 a5 a6 = some (Res.ok (r8, r9, r12, r13, r10))) : ACalls Tryz.prog 43 [.pt o1 0] [.obj o1 [S a2, .sk t4 a3.length, i64 a5, slE (ab Enc.int (ab Enc.str (ab Enc.str (Enc.sl (ab Enc.str Enc.str))))) a6 (some t7)], .stk t4 (Enc.str.fl a3), .tok t7 33] (fun e A' => e = .ret (B r8) ∧ ∃ t11 t14, A' = [.obj o1 [S r9, .sk t11 r10.length, i64 r12, slE (ab Enc.int (ab Enc.str (ab Enc.str (Enc.sl (ab Enc.str Enc.str))))) r13 (some t14)], .stk t11 (Enc.str.fl r10), .tok t14 33]) := lj F o1 a2 a3 t4 a5 a6 t7 _ H
theorem lO (F : Nat) (o1 : Nat) (a2 : List UInt8) (a3 : List (List UInt8)) (t4 : Nat) (a5 : Int) (a6 : List (Int × (List UInt8) × (List UInt8) × List ((List UInt8) × List UInt8))) (t7 : Nat) (e : Int) (H : ft F a2 a3 a5 a6 = some (Res.pan e)) : ACalls Tryz.prog 43 [.pt o1 0] [.obj o1 [S a2, .sk t4 a3.length, i64 a5, slE (ab Enc.int (ab Enc.str (ab Enc.str (Enc.sl (ab Enc.str Enc.str))))) a6 (some t7)], .stk t4 (Enc.str.fl a3), .tok t7 33] (fun ae A' => ae = .pan ((fun e => cx (.iface 46 (.agg #[.int .i64 e]))) e) ∧ A' = []) := lj F o1 a2 a3 t4 a5 a6 t7 _ H
abbrev _root_.Go.Av.cP := @Tryz.underlying70
abbrev _root_.Go.Av.cf := @Tryz.underlying71
set_option maxRecDepth 100000 in
set_option maxHeartbeats 1000000 in
theorem ou (F : Nat) (o1 : Nat) (a2 : List UInt8) (a3 : List (List UInt8)) (t4 : Nat) (a5 : Int) (a6 : List (Int × (List UInt8) × (List UInt8) × List ((List UInt8) × List UInt8))) (t7 : Nat) (rv : Res ((List UInt8) × Int × (List (Int × (List UInt8) × (List UInt8) × List ((List UInt8) × List UInt8))) × (List (List UInt8)))) (H : jE F a2 a3 a5 a6 = some rv) : ACalls Tryz.prog 22 [.pt o1 0] [.obj o1 [S a2, .sk t4 a3.length, i64 a5, slE (ab Enc.int (ab Enc.str (ab Enc.str (Enc.sl (ab Enc.str Enc.str))))) a6 (some t7)], .stk t4 (Enc.str.fl a3), .tok t7 33] (jf (fun (r : (List UInt8) × Int × (List (Int × (List UInt8) × (List UInt8) × List ((List UInt8) × List UInt8))) × (List (List UInt8))) => (fun e A' => e = .ret (.tup []) ∧ ∃ t10 t13, A' = [.obj o1 [S r.1, .sk t10 r.2.2.2.length, i64 r.2.1, slE (ab Enc.int (ab Enc.str (ab Enc.str (Enc.sl (ab Enc.str Enc.str))))) r.2.2.1 (some t13)], .stk t10 (Enc.str.fl r.2.2.2), .tok t13 33])) (fun e => cx (.iface 46 (.agg #[.int .i64 e]))) rv) := by
 unfold jE at H
 refine au Tryz.func22 rfl rfl ?_;show AW _ _ 14 _ _ _;refine ac <| aa ?_;show AR _ _ _ _ _ [0, 1, 2] _;refine zR rfl (gf (E := iQ) (bytes := 8) (xs := [.func 37, .func 38, .func 39, .func 40, .func 41, .func 42, .func 43]) (l := ([37, 38, 39, 40, 41, 42, 43] : List Nat)) cf (by kernel_rfl) rfl rfl (by decide) rfl rfl) <| zS rfl (dl (av' := i64 7) (be cf rfl) rfl) <| zm rfl <| ai <| aP <| tK 9 <| ac <| aa ?_;show AR _ _ _ _ _ [0] _;refine zS rfl (dl (av' := B true) (bU rfl rfl) (ay (by decide))) <| ai <| ac <| ax rfl (fun _ => ?_) (fun hx => cq rfl hx);refine aB <| ac <| aP <| ac <| aa ?_;show AR _ _ _ _ _ [0, 1, 2] _;refine zS rfl (cI (E := iQ) (m := 0) cf (by kernel_rfl) rfl rfl rfl rfl) <| zS rfl (aM cP rfl rfl) <| za rfl <| ai <| ac ?_
 rcases Or.symm (co H) with ⟨p16, e15, H⟩ | ⟨x14, e15, H⟩
 ·subst H;refine aa ?_;show AR _ _ _ _ _ [0, 1, 2] _;refine zm rfl <| zS rfl (af (av := .pt _ _) rfl) <| am rfl rfl (AO.callFPan (c := cx (.iface 46 (.agg #[.int .i64 p16]))) [0, 0, 0] rfl (.inr ⟨rfl, rfl, rfl⟩) pg rfl (mX F o1 a2 a3 t4 a5 a6 t7 p16 e15) rfl ?_);exact And.intro rfl (Exists.intro [] ⟨aU _, rfl, rfl⟩)
 refine aa ?_;show AR _ _ _ _ _ [0, 1, 2] _;refine zm rfl <| zS rfl (af (av := .pt _ _) rfl) <| am rfl rfl (AO.callFAt [0, 0, 0] rfl (.inr ⟨rfl, rfl, rfl⟩) pg rfl (nP F o1 a2 a3 t4 a5 a6 t7 x14.1 x14.2.1 x14.2.2 e15) rfl (fun c A' h => by cases h.1) ?_)
 rintro av A' ⟨h, t17, rfl⟩; cases h
 refine ai <| ax rfl (fun c18 => ?_) (fun c18 => ?_)
 ·replace H := aY c18 H;refine aJ ?_;obtain rfl := al H;exact And.intro rfl (Exists.intro _ (Exists.intro _ ⟨bL rfl, aH [0, 0, 0] rfl, rfl, t4, t17, rfl⟩))
 ·replace H := aZ c18 H;refine aB <| aa ?_;show AR _ _ _ _ _ [0, 1] _;refine zS rfl (dl (av' := i64 1) (fa rfl rfl (by decide)) rfl) <| zm rfl <| ai <| ac <| aa ?_;show AR _ _ _ _ _ [0] _;refine zS rfl (dl (av' := B true) (bU rfl rfl) (ay (by decide))) <| ai <| ac <| ax rfl (fun _ => ?_) (fun hx => cq rfl hx);refine aB <| ac <| aP <| ac <| aa ?_;show AR _ _ _ _ _ [0, 1, 2] _;refine zS rfl (cI (E := iQ) (m := 1) cf (by kernel_rfl) rfl rfl rfl rfl) <| zS rfl (aM cP rfl rfl) <| za rfl <| ai <| ac ?_
  rcases Or.symm (co H) with ⟨p21, e20, H⟩ | ⟨x19, e20, H⟩
  ·subst H;refine aa ?_;show AR _ _ _ _ _ [0, 1, 2] _;refine zm rfl <| zS rfl (af (av := .pt _ _) rfl) <| am rfl rfl (AO.callFPan (c := cx (.iface 46 (.agg #[.int .i64 p21]))) [0, 0, 0] rfl (.inr ⟨rfl, rfl, rfl⟩) pf rfl (lP F o1 x14.2.1 a3 t4 a5 x14.2.2 t17 p21 e20) rfl ?_);exact And.intro rfl (Exists.intro [] ⟨aU _, rfl, rfl⟩)
  refine aa ?_;show AR _ _ _ _ _ [0, 1, 2] _;refine zm rfl <| zS rfl (af (av := .pt _ _) rfl) <| am rfl rfl (AO.callFAt [0, 0, 0] rfl (.inr ⟨rfl, rfl, rfl⟩) pf rfl (mH F o1 x14.2.1 a3 t4 a5 x14.2.2 t17 x19.1 x19.2 e20) rfl (fun c A' h => by cases h.1) ?_)
  rintro av A' ⟨h, rfl⟩; cases h
  refine ai <| ax rfl (fun c22 => ?_) (fun c22 => ?_)
  ·replace H := aY c22 H;refine aJ ?_;obtain rfl := al H;exact And.intro rfl (Exists.intro _ (Exists.intro _ ⟨bL rfl, aH [0, 0, 0] rfl, rfl, t4, t17, rfl⟩))
  ·replace H := aZ c22 H;refine aB <| aa ?_;show AR _ _ _ _ _ [0, 1] _;refine zS rfl (dl (av' := i64 2) (fa rfl rfl (by decide)) rfl) <| zm rfl <| ai <| ac <| aa ?_;show AR _ _ _ _ _ [0] _;refine zS rfl (dl (av' := B true) (bU rfl rfl) (ay (by decide))) <| ai <| ac <| ax rfl (fun _ => ?_) (fun hx => cq rfl hx);refine aB <| ac <| aP <| ac <| aa ?_;show AR _ _ _ _ _ [0, 1, 2] _;refine zS rfl (cI (E := iQ) (m := 2) cf (by kernel_rfl) rfl rfl rfl rfl) <| zS rfl (aM cP rfl rfl) <| za rfl <| ai <| ac ?_
   rcases Or.symm (co H) with ⟨p25, e24, H⟩ | ⟨x23, e24, H⟩
   ·subst H;refine aa ?_;show AR _ _ _ _ _ [0, 1, 2] _;refine zm rfl <| zS rfl (af (av := .pt _ _) rfl) <| am rfl rfl (AO.callFPan (c := cx (.iface 46 (.agg #[.int .i64 p25]))) [0, 0, 0] rfl (.inr ⟨rfl, rfl, rfl⟩) pe rfl (px F o1 x19.2 a3 t4 a5 x14.2.2 t17 p25 e24) rfl ?_);exact And.intro rfl (Exists.intro [] ⟨aU _, rfl, rfl⟩)
   refine aa ?_;show AR _ _ _ _ _ [0, 1, 2] _;refine zm rfl <| zS rfl (af (av := .pt _ _) rfl) <| am rfl rfl (AO.callFAt [0, 0, 0] rfl (.inr ⟨rfl, rfl, rfl⟩) pe rfl (qn F o1 x19.2 a3 t4 a5 x14.2.2 t17 x23.1 x23.2 e24) rfl (fun c A' h => by cases h.1) ?_)
   rintro av A' ⟨h, rfl⟩; cases h
   refine ai <| ax rfl (fun c26 => ?_) (fun c26 => ?_)
   ·replace H := aY c26 H;refine aJ ?_;obtain rfl := al H;exact And.intro rfl (Exists.intro _ (Exists.intro _ ⟨bL rfl, aH [0, 0, 0] rfl, rfl, t4, t17, rfl⟩))
   ·replace H := aZ c26 H;refine aB <| aa ?_;show AR _ _ _ _ _ [0, 1] _;refine zS rfl (dl (av' := i64 3) (fa rfl rfl (by decide)) rfl) <| zm rfl <| ai <| ac <| aa ?_;show AR _ _ _ _ _ [0] _;refine zS rfl (dl (av' := B true) (bU rfl rfl) (ay (by decide))) <| ai <| ac <| ax rfl (fun _ => ?_) (fun hx => cq rfl hx);refine aB <| ac <| aP <| ac <| aa ?_;show AR _ _ _ _ _ [0, 1, 2] _;refine zS rfl (cI (E := iQ) (m := 3) cf (by kernel_rfl) rfl rfl rfl rfl) <| zS rfl (aM cP rfl rfl) <| za rfl <| ai <| ac ?_
    rcases Or.symm (co H) with ⟨p29, e28, H⟩ | ⟨x27, e28, H⟩
    ·subst H;refine aa ?_;show AR _ _ _ _ _ [0, 1, 2] _;refine zm rfl <| zS rfl (af (av := .pt _ _) rfl) <| am rfl rfl (AO.callFPan (c := cx (.iface 46 (.agg #[.int .i64 p29]))) [0, 0, 0] rfl (.inr ⟨rfl, rfl, rfl⟩) pd rfl (nQ F o1 x23.2 a3 t4 a5 x14.2.2 t17 p29 e28) rfl ?_);exact And.intro rfl (Exists.intro [] ⟨aU _, rfl, rfl⟩)
    refine aa ?_;show AR _ _ _ _ _ [0, 1, 2] _;refine zm rfl <| zS rfl (af (av := .pt _ _) rfl) <| am rfl rfl (AO.callFAt [0, 0, 0] rfl (.inr ⟨rfl, rfl, rfl⟩) pd rfl (pv F o1 x23.2 a3 t4 a5 x14.2.2 t17 x27.1 x27.2.1 x27.2.2 e28) rfl (fun c A' h => by cases h.1) ?_)
    rintro av A' ⟨h, t30, rfl⟩; cases h
    refine ai <| ax rfl (fun c31 => ?_) (fun c31 => ?_)
    ·replace H := aY c31 H;refine aJ ?_;obtain rfl := al H;exact And.intro rfl (Exists.intro _ (Exists.intro _ ⟨bL rfl, aH [0, 0, 0] rfl, rfl, t4, t30, rfl⟩))
    ·replace H := aZ c31 H;refine aB <| aa ?_;show AR _ _ _ _ _ [0, 1] _;refine zS rfl (dl (av' := i64 4) (fa rfl rfl (by decide)) rfl) <| zm rfl <| ai <| ac <| aa ?_;show AR _ _ _ _ _ [0] _;refine zS rfl (dl (av' := B true) (bU rfl rfl) (ay (by decide))) <| ai <| ac <| ax rfl (fun _ => ?_) (fun hx => cq rfl hx);refine aB <| ac <| aP <| ac <| aa ?_;show AR _ _ _ _ _ [0, 1, 2] _;refine zS rfl (cI (E := iQ) (m := 4) cf (by kernel_rfl) rfl rfl rfl rfl) <| zS rfl (aM cP rfl rfl) <| za rfl <| ai <| ac ?_
     rcases Or.symm (co H) with ⟨p34, e33, H⟩ | ⟨x32, e33, H⟩
     ·subst H;refine aa ?_;show AR _ _ _ _ _ [0, 1, 2] _;refine zm rfl <| zS rfl (af (av := .pt _ _) rfl) <| am rfl rfl (AO.callFPan (c := cx (.iface 46 (.agg #[.int .i64 p34]))) [0, 0, 0] rfl (.inr ⟨rfl, rfl, rfl⟩) pc rfl (pu F o1 x27.2.1 a3 t4 a5 x27.2.2 t30 p34 e33) rfl ?_);exact And.intro rfl (Exists.intro [] ⟨aU _, rfl, rfl⟩)
     refine aa ?_;show AR _ _ _ _ _ [0, 1, 2] _;refine zm rfl <| zS rfl (af (av := .pt _ _) rfl) <| am rfl rfl (AO.callFAt [0, 0, 0] rfl (.inr ⟨rfl, rfl, rfl⟩) pc rfl (qm F o1 x27.2.1 a3 t4 a5 x27.2.2 t30 x32.1 x32.2 e33) rfl (fun c A' h => by cases h.1) ?_)
     rintro av A' ⟨h, rfl⟩; cases h
     refine ai <| ax rfl (fun c35 => ?_) (fun c35 => ?_)
     ·replace H := aY c35 H;refine aJ ?_;obtain rfl := al H;exact And.intro rfl (Exists.intro _ (Exists.intro _ ⟨bL rfl, aH [0, 0, 0] rfl, rfl, t4, t30, rfl⟩))
     ·replace H := aZ c35 H;refine aB <| aa ?_;show AR _ _ _ _ _ [0, 1] _;refine zS rfl (dl (av' := i64 5) (fa rfl rfl (by decide)) rfl) <| zm rfl <| ai <| ac <| aa ?_;show AR _ _ _ _ _ [0] _;refine zS rfl (dl (av' := B true) (bU rfl rfl) (ay (by decide))) <| ai <| ac <| ax rfl (fun _ => ?_) (fun hx => cq rfl hx);refine aB <| ac <| aP <| ac <| aa ?_;show AR _ _ _ _ _ [0, 1, 2] _;refine zS rfl (cI (E := iQ) (m := 5) cf (by kernel_rfl) rfl rfl rfl rfl) <| zS rfl (aM cP rfl rfl) <| za rfl <| ai <| ac ?_
      rcases Or.symm (co H) with ⟨p38, e37, H⟩ | ⟨x36, e37, H⟩
      ·subst H;refine aa ?_;show AR _ _ _ _ _ [0, 1, 2] _;refine zm rfl <| zS rfl (af (av := .pt _ _) rfl) <| am rfl rfl (AO.callFPan (c := cx (.iface 46 (.agg #[.int .i64 p38]))) [0, 0, 0] rfl (.inr ⟨rfl, rfl, rfl⟩) pb rfl (mF F o1 x32.2 a3 t4 a5 x27.2.2 t30 p38 e37) rfl ?_);exact And.intro rfl (Exists.intro [] ⟨aU _, rfl, rfl⟩)
      refine aa ?_;show AR _ _ _ _ _ [0, 1, 2] _;refine zm rfl <| zS rfl (af (av := .pt _ _) rfl) <| am rfl rfl (AO.callFAt [0, 0, 0] rfl (.inr ⟨rfl, rfl, rfl⟩) pb rfl (mY F o1 x32.2 a3 t4 a5 x27.2.2 t30 x36.1 x36.2.1 x36.2.2.1 x36.2.2.2 e37) rfl (fun c A' h => by cases h.1) ?_)
      rintro av A' ⟨h, t39, t40, rfl⟩; cases h
      refine ai <| ax rfl (fun c41 => ?_) (fun c41 => ?_)
      ·replace H := aY c41 H;refine aJ ?_;obtain rfl := al H;exact And.intro rfl (Exists.intro _ (Exists.intro _ ⟨bL rfl, aH [0, 0, 0] rfl, rfl, t39, t40, rfl⟩))
      ·replace H := aZ c41 H;refine aB <| aa ?_;show AR _ _ _ _ _ [0, 1] _;refine zS rfl (dl (av' := i64 6) (fa rfl rfl (by decide)) rfl) <| zm rfl <| ai <| ac <| aa ?_;show AR _ _ _ _ _ [0] _;refine zS rfl (dl (av' := B true) (bU rfl rfl) (ay (by decide))) <| ai <| ac <| ax rfl (fun _ => ?_) (fun hx => cq rfl hx);refine aB <| ac <| aP <| ac <| aa ?_;show AR _ _ _ _ _ [0, 1, 2] _;refine zS rfl (cI (E := iQ) (m := 6) cf (by kernel_rfl) rfl rfl rfl rfl) <| zS rfl (aM cP rfl rfl) <| za rfl <| ai <| ac ?_
       rcases Or.symm (co H) with ⟨p44, e43, H⟩ | ⟨x42, e43, H⟩
       ·subst H;refine aa ?_;show AR _ _ _ _ _ [0, 1, 2] _;refine zm rfl <| zS rfl (af (av := .pt _ _) rfl) <| am rfl rfl (AO.callFPan (c := cx (.iface 46 (.agg #[.int .i64 p44]))) [0, 0, 0] rfl (.inr ⟨rfl, rfl, rfl⟩) pa rfl (lO F o1 x36.2.1 x36.2.2.2 t39 a5 x36.2.2.1 t40 p44 e43) rfl ?_);exact And.intro rfl (Exists.intro [] ⟨aU _, rfl, rfl⟩)
       refine aa ?_;show AR _ _ _ _ _ [0, 1, 2] _;refine zm rfl <| zS rfl (af (av := .pt _ _) rfl) <| am rfl rfl (AO.callFAt [0, 0, 0] rfl (.inr ⟨rfl, rfl, rfl⟩) pa rfl (mG F o1 x36.2.1 x36.2.2.2 t39 a5 x36.2.2.1 t40 x42.1 x42.2.1 x42.2.2.1 x42.2.2.2.1 x42.2.2.2.2 e43) rfl (fun c A' h => by cases h.1) ?_)
       rintro av A' ⟨h, t45, t46, rfl⟩; cases h
       refine ai <| ax rfl (fun c47 => ?_) (fun c47 => ?_)
       ·replace H := aY c47 H;refine aJ ?_;obtain rfl := al H;exact And.intro rfl (Exists.intro _ (Exists.intro _ ⟨bL rfl, aH [0, 0, 0] rfl, rfl, t45, t46, rfl⟩))
       ·replace H := aZ c47 H;refine aB <| aa ?_;show AR _ _ _ _ _ [0, 1] _;refine zS rfl (dl (av' := i64 7) (fa rfl rfl (by decide)) rfl) <| zm rfl <| ai <| ac <| aa ?_;show AR _ _ _ _ _ [0] _;refine zS rfl (dl (av' := B false) (bU rfl rfl) (ay (by decide))) <| ai <| ac <| ax rfl (fun hx => cq hx rfl) (fun _ => ?_);refine cC ?_;obtain rfl := al H;exact And.intro rfl (Exists.intro _ (Exists.intro _ ⟨bL rfl, aH [0, 0, 0] rfl, rfl, t45, t46, rfl⟩))
theorem pr (F : Nat) (o1 : Nat) (a2 : List UInt8) (a3 : List (List UInt8)) (t4 : Nat) (a5 : Int) (a6 : List (Int × (List UInt8) × (List UInt8) × List ((List UInt8) × List UInt8))) (t7 : Nat) (r8 : List UInt8) (r11 : Int) (r12 : List (Int × (List UInt8) × (List UInt8) × List ((List UInt8) × List UInt8))) (r9 : List (List UInt8)) (H : jE F a2 a3 a5 a6 = some (Res.ok (r8, r11, r12, r9))) : ACalls Tryz.prog 22 [.pt o1 0] [.obj o1 [S a2, .sk t4 a3.length, i64 a5, slE (ab Enc.int (ab Enc.str (ab Enc.str (Enc.sl (ab Enc.str Enc.str))))) a6 (some t7)], .stk t4 (Enc.str.fl a3), .tok t7 33] (fun e A' => e = .ret (.tup []) ∧ ∃ t10 t13, A' = [.obj o1 [S r8, .sk t10 r9.length, i64 r11, slE (ab Enc.int (ab Enc.str (ab Enc.str (Enc.sl (ab Enc.str Enc.str))))) r12 (some t13)], .stk t10 (Enc.str.fl r9), .tok t13 33]) := ou F o1 a2 a3 t4 a5 a6 t7 _ H
theorem nN (F : Nat) (o1 : Nat) (a2 : List UInt8) (a3 : List (List UInt8)) (t4 : Nat) (a5 : Int) (a6 : List (Int × (List UInt8) × (List UInt8) × List ((List UInt8) × List UInt8))) (t7 : Nat) (e : Int) (H : jE F a2 a3 a5 a6 = some (Res.pan e)) : ACalls Tryz.prog 22 [.pt o1 0] [.obj o1 [S a2, .sk t4 a3.length, i64 a5, slE (ab Enc.int (ab Enc.str (ab Enc.str (Enc.sl (ab Enc.str Enc.str))))) a6 (some t7)], .stk t4 (Enc.str.fl a3), .tok t7 33] (fun ae A' => ae = .pan ((fun e => cx (.iface 46 (.agg #[.int .i64 e]))) e) ∧ A' = []) := ou F o1 a2 a3 t4 a5 a6 t7 _ H
abbrev _root_.Go.Av.cr := @Tryz.underlying25
set_option maxRecDepth 100000 in
set_option maxHeartbeats 1000000 in
theorem jU (F : Nat) (a1 : List UInt8) (q2 : Option Nat) (r3 : List (Int × (List UInt8) × (List UInt8) × List ((List UInt8) × List UInt8))) (r4 : Int) (H : gj F a1 = some (r3, r4)) : ACalls Tryz.prog 10 [slE Enc.byte a1 q2] [] (Ret (.tup [slE (ab Enc.int (ab Enc.str (ab Enc.str (Enc.sl (ab Enc.str Enc.str))))) r3 none, i64 r4]) []) := by
 unfold gj at H
 refine mM [2, 3] Tryz.func10 rfl rfl ?_;show AW _ _ 38 _ _ _;refine ac <| aa ?_;show AR _ _ _ _ _ [0, 1] _;refine zX rfl (ex (zs := [.slice none 0 0]) (by kernel_rfl)) ?_;rintro _ _ ⟨o5, rfl, rfl⟩;refine zX rfl (ex (zs := [.int .i64 0]) (by kernel_rfl)) ?_;rintro _ _ ⟨o6, rfl, rfl⟩;refine ai <| ac <| ac <| aa ?_;show AR _ _ _ _ _ [0, 1, 2] _;refine zS rfl (af (av := slE _ _ _) rfl) <| zS rfl (be aj rfl) <| zS rfl (fZ rfl rfl) <| ai <| ax rfl (fun c7 => ?_) (fun c7 => ?_)
 ·replace H := aY c7 H;refine ac <| aa ?_;show AR _ _ _ _ _ [0, 1] _;refine s0 rfl rfl (az (i := 1) (c := .v _) (by kernel_rfl) rfl rfl rfl rfl (ah rfl)) <| s0 rfl rfl (az (i := 0) (c := .v _) (by kernel_rfl) rfl rfl rfl rfl (ah rfl)) <| ai <| aJ ?_;obtain ⟨rfl, rfl⟩ := fB H;exact Exists.intro _ (Exists.intro _ ⟨ix rfl ((CellV.one (c := .v _) 1 aw rfl rfl rfl rfl).oneW (.nil _)) (CellV.one (c := .v _) 0 cr rfl rfl rfl rfl), aH [] rfl, rfl, rfl⟩)
 ·replace H := aZ c7 H;refine aB <| ac <| aa ?_;show AR _ _ _ _ _ [0, 1] _;refine zS rfl (jp rfl rfl) <| am rfl rfl (AO.defer rfl ?_);show AR _ _ _ _ _ _ ⟨_, [.call (.func 21) [.pt o5 0, .pt o6 0] []], _⟩;refine ai <| ac <| aa ?_;show AR _ _ _ _ _ [0, 1, 2, 3, 4] _;refine zS rfl (af (av := slE _ _ _) rfl) <| zS rfl (hH aj cn ag rfl) <| zS rfl (eX (zs := [.string ⟨#[]⟩, .slice none 0 0, .int .i64 0, .slice none 0 0]) (ps := [(0, 1), (1, 1), (2, 1), (3, 1)]) (cs := [S a1, fW, i64 0, fW]) (by kernel_rfl) rfl rfl) <| zX rfl (opX_box rfl (.inr ⟨_, rfl⟩)) ?_;rintro _ _ ⟨o8, rfl, rfl⟩;refine zS rfl (aK (av := .pt _ _) rfl) <| ai ?_
  refine AW.nil_stkAt 0 1 rfl rfl fun t9 => ?_
  show AW _ _ _ _ _ ⟨_, _, [.stk t9 (Enc.str.fl ([] : List (List UInt8))), .obj o8 [S a1, .sk t9 (([] : List (List UInt8)).length), i64 0, fW], .obj o6 [i64 0], .obj o5 [fW]]⟩
  refine js 1 3 4 33 rfl rfl fun t10 => ?_
  show AW _ _ _ _ _ ⟨_, _, [.tok t10 33, .stk t9 (Enc.str.fl ([] : List (List UInt8))), .obj o8 [S a1, .sk t9 (([] : List (List UInt8)).length), i64 0, slE (ab Enc.int (ab Enc.str (ab Enc.str (Enc.sl (ab Enc.str Enc.str))))) [] (some t10)], .obj o6 [i64 0], .obj o5 [fW]]⟩;refine bV (X := (List UInt8) × Nat × (List (List UInt8)) × Int × (List (Int × (List UInt8) × (List UInt8) × List ((List UInt8) × List UInt8))) × Nat) (fun (y26, t27, y28, y29, y30, t31) => ⟨[(2, .pt o5 0), (3, .pt o6 0), (4, .pt o8 0)], [.call (.func 21) [.pt o5 0, .pt o6 0] []], [.obj o8 [S y26, .sk t27 y28.length, i64 y29, slE (ab Enc.int (ab Enc.str (ab Enc.str (Enc.sl (ab Enc.str Enc.str))))) y30 (some t31)], .obj o6 [i64 0], .obj o5 [fW], .stk t27 (Enc.str.fl y28), .tok t31 33]⟩) (fun (y26, t27, y28, y29, y30, t31) => fS F y26 y28 y29 y30 = some (r3, r4)) ?_ ?_
  ·refine aP <| dp (X := Nat × (List UInt8) × Nat × (List (List UInt8)) × Int × (List (Int × (List UInt8) × (List UInt8) × List ((List UInt8) × List UInt8))) × Nat) (fun (n18, y11, t12, y13, y14, y15, t16) => ⟨[(2, .pt o5 0), (3, .pt o6 0), (4, .pt o8 0)], [.call (.func 21) [.pt o5 0, .pt o6 0] []], [.obj o8 [S y11, .sk t12 y13.length, i64 y14, slE (ab Enc.int (ab Enc.str (ab Enc.str (Enc.sl (ab Enc.str Enc.str))))) y15 (some t16)], .obj o6 [i64 0], .obj o5 [fW], .stk t12 (Enc.str.fl y13), .tok t16 33]⟩) (fun (n18, y11, t12, y13, y14, y15, t16) => fT F n18 (y11, y13, y14, y15) = some (r3, r4)) (fun (n18, y11, t12, y13, y14, y15, t16) => n18) (F, a1, t9, ([] : List (List UInt8)), 0, [], t10) H (bf [2, 2, 2, 1, 0] (.cons (.refl _) (.cons (.refl _) (.cons (.refl _) (.nil _)))) rfl) ?_;rintro ⟨n18, y11, t12, y13, y14, y15, t16⟩ H;obtain ⟨n18, rfl, H⟩ := eT H;replace H : fU F (fT F n18) y11 y13 y14 y15 = some (r3, r4) := H
   unfold fU at H
   refine ac <| ac <| aa ?_;show AR _ _ _ _ _ [0, 1, 2, 3, 4] _;refine zS rfl (af (av := .pt _ _) rfl) <| zS rfl (aq rfl) <| zS rfl (an (n := 0) (by kernel_rfl) rfl) <| zR rfl (ao (i := 0) ag rfl rfl rfl rfl) <| zS rfl (lM rfl rfl) <| ai <| ax rfl (fun c19 => ?_) (fun c19 => ?_)
   ·replace H := aY c19 H;refine aB <| aP ?_
    rcases Or.symm (bndk_s H) with ⟨p22, e21, H⟩ | ⟨x20, e21, H⟩
    ·refine aa ?_;show AR _ _ _ _ _ [0, 1] _;refine zS rfl (af (av := .pt _ _) rfl) <| am rfl rfl (bm (c := cx (.iface 46 (.agg #[.int .i64 p22]))) [0, 2, 2] rfl ph rfl (nN F o8 y11 y13 t12 y14 y15 t16 p22 e21) rfl ?_);refine Exists.intro [(2, .pt o5 0), (3, .pt o6 0)] ⟨by simp, .cons (.refl _) (.cons (.refl _) (.nil _)), ?_⟩;show ALeaves _ _ _ _ _ [.call (.func 21) [.pt o5 0, .pt o6 0] []] _ [.obj o6 [i64 0], .obj o5 [fW]];refine iI (v := .tup []) (u1 := (.panicking [{ v := (.iface 46 (.agg #[.int .i64 p22])), recovered := true }])) (A2 := [.obj o6 [i64 p22], .obj o5 [fW]]) [0, 0] (fun h => by cases h) md rfl ?_ ?_
     ·show ADCalls _ _ [.pt o5 0, .pt o6 0] [.obj o6 [i64 0], .obj o5 [fW]] _ _;refine fp (av := .ifc 46 (.agg [i64 p22])) (l := [1]) Tryz.func21 rfl rfl rfl rfl rfl Recovers.pan rfl (fun cs => ?_);refine ASR.op rfl rfl ((aK (av := .ifc _ _) rfl).opR _) <| ASR.nil <| ac <| aa ?_;show AR _ _ _ _ _ [0, 1] _;refine zS rfl (af (av := .ifc _ _) rfl) <| zS rfl (mr (ms := []) (.inr rfl) Tryz.underlying20 rfl rfl) <| ai <| ax rfl (fun _ => ?_) (fun hx => cq rfl hx);refine ac <| aa ?_;show AR _ _ _ _ _ [0, 1, 2, 3, 4, 5, 6, 7] _;refine zS rfl (af (av := .ifc _ _) rfl) <| zS rfl (jA Tryz.underlying46 rfl rfl) <| zS rfl (af (av := .tup _) rfl) <| zS rfl (aI (av := .agg _) rfl rfl) <| zS rfl (aI (av := .v _) rfl rfl) <| zX rfl (ex (zs := [.int .i64 0]) (by kernel_rfl)) ?_;rintro _ _ ⟨o23, rfl, rfl⟩;refine s0 rfl rfl (cW (i := 0) (vs := [i64 p22]) (by kernel_rfl) rfl rfl (by simp [cd, slE]) rfl (ah rfl)) <| za rfl <| ai <| ac <| ac <| aa ?_;show AR _ _ _ _ _ [0, 1] _;refine zm rfl <| zS rfl (ce rfl) <| ai <| ax rfl (fun hx => cq hx rfl) (fun _ => ?_);refine aB <| bE (by kernel_rfl) ?_;show AI _ _ _ _ _ 4 (Array.replicate 4 false) _;refine zk 0 rfl (an (n := 0) (by kernel_rfl) rfl) ?_;show AI _ _ _ _ _ _ #[true, false, false, false] _;refine AI.two (i := 1) (j := 2) (by kernel_rfl) rfl rfl rfl rfl ?_ ?_
      ·refine bg rfl (ao (i := 0) cr rfl rfl rfl rfl) ?_;show AI _ _ _ _ _ _ #[true, true, false, false] _;refine bI (i := 2) (by kernel_rfl) rfl rfl <| AIO.op0 (az (i := 2) (c := .v _) (by kernel_rfl) rfl rfl rfl rfl (ah rfl)) ?_;show AI _ _ _ _ _ _ #[true, true, true, false] _;refine bI (i := 3) (by kernel_rfl) rfl rfl <| AIO.op0 (az (i := 1) (c := .v _) (by kernel_rfl) rfl rfl rfl rfl (ah rfl)) ?_;show AI _ _ _ _ _ _ #[true, true, true, true] _;refine cl rfl ?_;exact And.intro rfl (Exists.intro _ (Exists.intro _ ⟨bL rfl, aH [1, 1] rfl, rfl, rfl, rfl⟩))
      ·refine AIO.op0 (az (i := 2) (c := .v _) (by kernel_rfl) rfl rfl rfl rfl (ah rfl)) ?_;show AI _ _ _ _ _ _ #[true, false, true, false] _;refine bI (i := 1) (by kernel_rfl) rfl rfl <| bg rfl (ao (i := 0) cr rfl rfl rfl rfl) ?_;show AI _ _ _ _ _ _ #[true, true, true, false] _;refine bI (i := 3) (by kernel_rfl) rfl rfl <| AIO.op0 (az (i := 1) (c := .v _) (by kernel_rfl) rfl rfl rfl rfl (ah rfl)) ?_;show AI _ _ _ _ _ _ #[true, true, true, true] _;refine cl rfl ?_;exact And.intro rfl (Exists.intro _ (Exists.intro _ ⟨bL rfl, aH [1, 1] rfl, rfl, rfl, rfl⟩))
     show ALeaves _ _ _ _ _ [] .returning [.obj o6 [i64 p22], .obj o5 [fW]];obtain ⟨rfl, rfl⟩ := fB H;exact Exists.intro _ (Exists.intro _ ⟨ix rfl ((CellV.one (c := .v _) 1 aw rfl rfl rfl rfl).oneW (.nil _)) (CellV.one (c := .v _) 0 cr rfl rfl rfl rfl), aH [] rfl, rfl, rfl⟩)
    refine aa ?_;show AR _ _ _ _ _ [0, 1] _;refine zS rfl (af (av := .pt _ _) rfl) <| am rfl rfl (bh [0, 2, 2] rfl ph rfl (pr F o8 y11 y13 t12 y14 y15 t16 x20.1 x20.2.1 x20.2.2.1 x20.2.2.2 e21) rfl (fun c A' h => by cases h.1) ?_)
    rintro av A' ⟨h, t24, t25, rfl⟩; cases h
    refine ai ?_;exact Exists.intro (n18, x20.1, t24, x20.2.2.2, x20.2.1, x20.2.2.1, t25) ⟨H, Nat.lt_succ_self _, bf [0, 2, 2, 0, 0] (.cons (.refl _) (.cons (.refl _) (.cons (.refl _) (.nil _)))) rfl⟩
   ·replace H := aZ c19 H;refine cC ?_;exact Exists.intro (y11, t12, y13, y14, y15, t16) ⟨H, bf [0, 0, 0, 0, 0] (.cons (.refl _) (.cons (.refl _) (.cons (.refl _) (.nil _)))) rfl⟩
  rintro ⟨y26, t27, y28, y29, y30, t31⟩ H;replace H : fS F y26 y28 y29 y30 = some (r3, r4) := H
  unfold fS at H
  refine ac ?_
  rcases Or.symm (bndk_s H) with ⟨p36, e35, H⟩ | ⟨x34, e35, H⟩
  ·refine aa ?_;show AR _ _ _ _ _ [0, 1, 2, 3, 4, 5, 6, 7, 8, 9, 10, 11, 12, 13] _;refine zS rfl (af (av := .pt _ _) rfl) <| zS rfl (aq rfl) <| zS rfl (an (n := 1) (by kernel_rfl) rfl) <| zR rfl (ao (i := 0) ar rfl rfl rfl rfl) <| zS rfl (eM ar rfl) <| zS rfl (bW rfl rfl) <| zm rfl <| aX (l := [13]) 32 (B ((decide ((y28.length : Int) = 0)) && (decide (0 < y29)))) (fun K => ?_) ?_
   ·rcases ak (decide ((y28.length : Int) = 0)) with h33 | h33
    ·refine zU h33 rfl (af (av := .pt _ _) rfl) <| zU h33 rfl (aq rfl) <| zU h33 rfl (an (n := 2) (by kernel_rfl) rfl) <| zT h33 rfl (bP rfl rfl (ao (i := 0) bK rfl rfl rfl rfl) ?_);refine zU h33 rfl (fZ rfl rfl) <| zS rfl (aE (av := .v _) rfl h33 rfl) ?_;exact K _ 5 _ (ay (cA h33)) rfl rfl
    ·refine zF h33 rfl <| zF h33 rfl <| zF h33 rfl <| zF h33 rfl <| zF h33 rfl <| zS rfl (aF (av := .v _) rfl h33 rfl) ?_;exact K _ 5 _ (ay (cB h33)) rfl rfl
   refine am rfl rfl (bm (c := cx (.iface 46 (.agg #[.int .i64 p36]))) [] rfl bz rfl (bB F ((decide ((y28.length : Int) = 0)) && (decide (0 < y29))) p36 e35) rfl ?_);refine Exists.intro [(2, .pt o5 0), (3, .pt o6 0)] ⟨by simp, .cons (.refl _) (.cons (.refl _) (.nil _)), ?_⟩;show ALeaves _ _ _ _ _ [.call (.func 21) [.pt o5 0, .pt o6 0] []] _ [.obj o8 [S y26, .sk t27 y28.length, i64 y29, slE (ab Enc.int (ab Enc.str (ab Enc.str (Enc.sl (ab Enc.str Enc.str))))) y30 (some t31)], .obj o6 [i64 0], .obj o5 [fW], .stk t27 (Enc.str.fl y28), .tok t31 33];refine iI (v := .tup []) (u1 := (.panicking [{ v := (.iface 46 (.agg #[.int .i64 p36])), recovered := true }])) (A2 := [.obj o6 [i64 p36], .obj o5 [fW]]) [1, 1] (fun h => by cases h) md rfl ?_ ?_
   ·show ADCalls _ _ [.pt o5 0, .pt o6 0] [.obj o6 [i64 0], .obj o5 [fW]] _ _;refine fp (av := .ifc 46 (.agg [i64 p36])) (l := [1]) Tryz.func21 rfl rfl rfl rfl rfl Recovers.pan rfl (fun cs => ?_);refine ASR.op rfl rfl ((aK (av := .ifc _ _) rfl).opR _) <| ASR.nil <| ac <| aa ?_;show AR _ _ _ _ _ [0, 1] _;refine zS rfl (af (av := .ifc _ _) rfl) <| zS rfl (mr (ms := []) (.inr rfl) Tryz.underlying20 rfl rfl) <| ai <| ax rfl (fun _ => ?_) (fun hx => cq rfl hx);refine ac <| aa ?_;show AR _ _ _ _ _ [0, 1, 2, 3, 4, 5, 6, 7] _;refine zS rfl (af (av := .ifc _ _) rfl) <| zS rfl (jA Tryz.underlying46 rfl rfl) <| zS rfl (af (av := .tup _) rfl) <| zS rfl (aI (av := .agg _) rfl rfl) <| zS rfl (aI (av := .v _) rfl rfl) <| zX rfl (ex (zs := [.int .i64 0]) (by kernel_rfl)) ?_;rintro _ _ ⟨o37, rfl, rfl⟩;refine s0 rfl rfl (cW (i := 0) (vs := [i64 p36]) (by kernel_rfl) rfl rfl (by simp [cd, slE]) rfl (ah rfl)) <| za rfl <| ai <| ac <| ac <| aa ?_;show AR _ _ _ _ _ [0, 1] _;refine zm rfl <| zS rfl (ce rfl) <| ai <| ax rfl (fun hx => cq hx rfl) (fun _ => ?_);refine aB <| bE (by kernel_rfl) ?_;show AI _ _ _ _ _ 4 (Array.replicate 4 false) _;refine zk 0 rfl (an (n := 0) (by kernel_rfl) rfl) ?_;show AI _ _ _ _ _ _ #[true, false, false, false] _;refine AI.two (i := 1) (j := 2) (by kernel_rfl) rfl rfl rfl rfl ?_ ?_
    ·refine bg rfl (ao (i := 0) cr rfl rfl rfl rfl) ?_;show AI _ _ _ _ _ _ #[true, true, false, false] _;refine bI (i := 2) (by kernel_rfl) rfl rfl <| AIO.op0 (az (i := 2) (c := .v _) (by kernel_rfl) rfl rfl rfl rfl (ah rfl)) ?_;show AI _ _ _ _ _ _ #[true, true, true, false] _;refine bI (i := 3) (by kernel_rfl) rfl rfl <| AIO.op0 (az (i := 1) (c := .v _) (by kernel_rfl) rfl rfl rfl rfl (ah rfl)) ?_;show AI _ _ _ _ _ _ #[true, true, true, true] _;refine cl rfl ?_;exact And.intro rfl (Exists.intro _ (Exists.intro _ ⟨bL rfl, aH [1, 1] rfl, rfl, rfl, rfl⟩))
    ·refine AIO.op0 (az (i := 2) (c := .v _) (by kernel_rfl) rfl rfl rfl rfl (ah rfl)) ?_;show AI _ _ _ _ _ _ #[true, false, true, false] _;refine bI (i := 1) (by kernel_rfl) rfl rfl <| bg rfl (ao (i := 0) cr rfl rfl rfl rfl) ?_;show AI _ _ _ _ _ _ #[true, true, true, false] _;refine bI (i := 3) (by kernel_rfl) rfl rfl <| AIO.op0 (az (i := 1) (c := .v _) (by kernel_rfl) rfl rfl rfl rfl (ah rfl)) ?_;show AI _ _ _ _ _ _ #[true, true, true, true] _;refine cl rfl ?_;exact And.intro rfl (Exists.intro _ (Exists.intro _ ⟨bL rfl, aH [1, 1] rfl, rfl, rfl, rfl⟩))
   show ALeaves _ _ _ _ _ [] .returning [.obj o6 [i64 p36], .obj o5 [fW], .obj o8 [S y26, .sk t27 y28.length, i64 y29, slE (ab Enc.int (ab Enc.str (ab Enc.str (Enc.sl (ab Enc.str Enc.str))))) y30 (some t31)], .stk t27 (Enc.str.fl y28), .tok t31 33];obtain ⟨rfl, rfl⟩ := fB H;exact Exists.intro _ (Exists.intro _ ⟨ix rfl ((CellV.one (c := .v _) 1 aw rfl rfl rfl rfl).oneW (.nil _)) (CellV.one (c := .v _) 0 cr rfl rfl rfl rfl), aH [] rfl, rfl, rfl⟩)
  refine aa ?_;show AR _ _ _ _ _ [0, 1, 2, 3, 4, 5, 6, 7, 8, 9, 10, 11, 12, 13] _;refine zS rfl (af (av := .pt _ _) rfl) <| zS rfl (aq rfl) <| zS rfl (an (n := 1) (by kernel_rfl) rfl) <| zR rfl (ao (i := 0) ar rfl rfl rfl rfl) <| zS rfl (eM ar rfl) <| zS rfl (bW rfl rfl) <| zm rfl <| aX (l := [13]) 32 (B ((decide ((y28.length : Int) = 0)) && (decide (0 < y29)))) (fun K => ?_) ?_
  ·rcases ak (decide ((y28.length : Int) = 0)) with h33 | h33
   ·refine zU h33 rfl (af (av := .pt _ _) rfl) <| zU h33 rfl (aq rfl) <| zU h33 rfl (an (n := 2) (by kernel_rfl) rfl) <| zT h33 rfl (bP rfl rfl (ao (i := 0) bK rfl rfl rfl rfl) ?_);refine zU h33 rfl (fZ rfl rfl) <| zS rfl (aE (av := .v _) rfl h33 rfl) ?_;exact K _ 5 _ (ay (cA h33)) rfl rfl
   ·refine zF h33 rfl <| zF h33 rfl <| zF h33 rfl <| zF h33 rfl <| zF h33 rfl <| zS rfl (aF (av := .v _) rfl h33 rfl) ?_;exact K _ 5 _ (ay (cB h33)) rfl rfl
  refine am rfl rfl (aG rfl bz rfl (bJ F ((decide ((y28.length : Int) = 0)) && (decide (0 < y29))) e35) ?_);refine ai <| ac <| aa ?_;show AR _ _ _ _ _ [0, 1, 2, 3, 4, 5] _;refine zS rfl (af (av := .pt _ _) rfl) <| zS rfl (aq rfl) <| zS rfl (an (n := 3) (by kernel_rfl) rfl) <| zR rfl (ao (i := 0) aw rfl rfl rfl rfl) <| s0 rfl rfl (az (i := 2) (c := slE _ _ _) (by kernel_rfl) rfl rfl rfl rfl (ah rfl)) <| s0 rfl rfl (az (i := 1) (c := .v _) (by kernel_rfl) rfl rfl rfl rfl (ah rfl)) <| ai <| aJ ?_;show ALeaves _ _ _ _ _ [.call (.func 21) [.pt o5 0, .pt o6 0] []] _ [.obj o8 [S y26, .sk t27 y28.length, i64 y29, slE (ab Enc.int (ab Enc.str (ab Enc.str (Enc.sl (ab Enc.str Enc.str))))) y30 (some t31)], .obj o6 [i64 0], .obj o5 [slE (ab Enc.int (ab Enc.str (ab Enc.str (Enc.sl (ab Enc.str Enc.str))))) y30 (some t31)], .stk t27 (Enc.str.fl y28), .tok t31 33];refine iI (v := .tup []) (u1 := .returning) (A2 := [.obj o6 [i64 0], .obj o5 [slE (ab Enc.int (ab Enc.str (ab Enc.str (Enc.sl (ab Enc.str Enc.str))))) y30 (some t31)]]) [1, 1] (fun h => by cases h) md rfl ?_ ?_
  ·show ADCalls _ _ [.pt o5 0, .pt o6 0] [.obj o6 [i64 0], .obj o5 [slE (ab Enc.int (ab Enc.str (ab Enc.str (Enc.sl (ab Enc.str Enc.str))))) y30 (some t31)]] _ _;refine fp (av := .v .nilIface) (l := [1]) Tryz.func21 rfl rfl rfl rfl rfl Recovers.ret rfl (fun cs => ?_);refine ASR.op rfl rfl ((asg rfl).opR _) <| ASR.nil <| ac <| aa ?_;show AR _ _ _ _ _ [0, 1] _;refine zm rfl <| zS rfl (kY (n := 0) (t := 0) (k := .i64) Tryz.underlying20 rfl rfl) <| ai <| ax rfl (fun hx => cq hx rfl) (fun _ => ?_);refine aB ?_;exact And.intro rfl (Exists.intro _ (Exists.intro _ ⟨bL rfl, aH [0, 0] rfl, rfl, rfl, rfl⟩))
  show ALeaves _ _ _ _ _ [] .returning [.obj o6 [i64 0], .obj o5 [slE (ab Enc.int (ab Enc.str (ab Enc.str (Enc.sl (ab Enc.str Enc.str))))) y30 (some t31)], .obj o8 [S y26, .sk t27 y28.length, i64 y29, slE (ab Enc.int (ab Enc.str (ab Enc.str (Enc.sl (ab Enc.str Enc.str))))) y30 (some t31)], .stk t27 (Enc.str.fl y28), .tok t31 33];obtain ⟨rfl, rfl⟩ := fB H;exact Exists.intro _ (Exists.intro _ ⟨ix rfl ((CellV.one (c := slE _ _ _) 1 aw rfl rfl rfl rfl).oneW (.tok _ _ _)) (CellV.one (c := .v _) 0 cr rfl rfl rfl rfl), aH [] rfl, rfl, rfl⟩)
end Go.Proofs.YteokdkimegepoaaGreatDoor
namespace Go.Pv
def ir : Option Bool :=
some true
def gz (a1 : List ((List UInt8) × List UInt8)) (a3 : List ((List UInt8) × List UInt8)) (rec8 : Int → Option Bool) (y7 : Int) : Option Bool :=
bif decide (y7 < (a1.length : Int)) then
  grd (cy y7 a1.length) <|
  lt (at_ a1 y7) fun x12 =>
  grd (cy y7 a3.length) <|
  lt (at_ a3 y7) fun x15 =>
  bif !((decide (x12.1 = x15.1)) && (decide (x12.2 = x15.2))) then
    some false
  else
    grd (okI (y7 + 1)) <|
    rec8 (y7 + 1)
else
  ir
def gy (a1 : List ((List UInt8) × List UInt8)) (a3 : List ((List UInt8) × List UInt8)) (n : Nat) : Int → Option Bool :=
  loop (fun rec x => gz a1 a3 rec x) n
def kc (F : Nat) (a1 : List ((List UInt8) × List UInt8)) (a3 : List ((List UInt8) × List UInt8)) : Option Bool :=
bif !decide ((a1.length : Int) = (a3.length : Int)) then
  some false
else
  gy a1 a3 F 0
def lz (F : Nat) (a1 : Int) (a2 : List UInt8) (a3 : List UInt8) (a4 : List ((List UInt8) × List UInt8)) (a5 : Int) (a6 : List UInt8) (a7 : List UInt8) (a8 : List ((List UInt8) × List UInt8)) : Option Bool :=
iY (((decide (a1 = a5)) && (decide (a2 = a6))) && (decide (a3 = a7))) (kc F a4 a8) fun x13 =>
some ((((decide (a1 = a5)) && (decide (a2 = a6))) && (decide (a3 = a7))) && x13)
def fj : Option Bool :=
some true
def dY (F : Nat) (a1 : List (Int × (List UInt8) × (List UInt8) × List ((List UInt8) × List UInt8))) (a3 : List (Int × (List UInt8) × (List UInt8) × List ((List UInt8) × List UInt8))) (rec8 : Int → Option Bool) (y7 : Int) : Option Bool :=
bif decide (y7 < (a1.length : Int)) then
  grd (cy y7 a1.length) <|
  lt (at_ a1 y7) fun x12 =>
  grd (cy y7 a3.length) <|
  lt (at_ a3 y7) fun x16 =>
  bnd (lz F x12.1 x12.2.1 x12.2.2.1 x12.2.2.2 x16.1 x16.2.1 x16.2.2.1 x16.2.2.2) fun x19 =>
  bif !x19 then
    some false
  else
    grd (okI (y7 + 1)) <|
    rec8 (y7 + 1)
else
  fj
def dr (F : Nat) (a1 : List (Int × (List UInt8) × (List UInt8) × List ((List UInt8) × List UInt8))) (a3 : List (Int × (List UInt8) × (List UInt8) × List ((List UInt8) × List UInt8))) (n : Nat) : Int → Option Bool :=
  loop (fun rec x => dY F a1 a3 rec x) n
def gY (F : Nat) (a1 : List (Int × (List UInt8) × (List UInt8) × List ((List UInt8) × List UInt8))) (a3 : List (Int × (List UInt8) × (List UInt8) × List ((List UInt8) × List UInt8))) : Option Bool :=
bif !decide ((a1.length : Int) = (a3.length : Int)) then
  some false
else
  dr F a1 a3 F 0
def kv (F : Nat) (a1 : List (Int × (List UInt8) × (List UInt8) × List ((List UInt8) × List UInt8))) (a3 : List (Int × (List UInt8) × (List UInt8) × List ((List UInt8) × List UInt8))) : Option Bool :=
bnd (gY F a1 a3) fun x6 =>
some x6
def gn : Option Int :=
some (-1)
def iz (a1 : List UInt8) (a2 : UInt8) (rec6 : Int → Option Int) (y5 : Int) : Option Int :=
bif decide (0 ≤ y5) then
  grd (cy y5 a1.length) <|
  lt (at_ a1 y5) fun x10 =>
  bif decide (x10 = a2) then
    some y5
  else
    grd (okI (y5 - 1)) <|
    rec6 (y5 - 1)
else
  gn
def iy (a1 : List UInt8) (a2 : UInt8) (n : Nat) : Int → Option Int :=
  loop (fun rec x => iz a1 a2 rec x) n
def kU (F : Nat) (a1 : List UInt8) (a2 : UInt8) : Option Int :=
grd (okI ((a1.length : Int) - 1)) <|
iy a1 a2 F ((a1.length : Int) - 1)
def gc (F : Nat) (a1 : List UInt8) (a2 : UInt8) : Option Int :=
bnd (kU F a1 a2) fun x4 =>
some x4
def nz (F : Nat) (a1 : List UInt8) : Option ((List UInt8)) :=
bnd (gc F a1 58) fun x3 =>
grd (okI (x3 + 1)) <|
grd (iW (x3 + 1) a1.length) <|
lt (ez a1 (x3 + 1)) fun x7 =>
some x7
end Go.Pv
