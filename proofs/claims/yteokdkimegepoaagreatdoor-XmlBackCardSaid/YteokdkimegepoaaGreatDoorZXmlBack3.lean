/-
  Texts in one (only what XmlBack needs): NumW, AnyP, AnyW, EntBP, EntBW, XmlAP, XmlAW, XmlBP.
-/
import Derived.Test.YteokdkimegepoaaGreatDoorZXmlBack2
import Derived.Test.YteokdkimegepoaaGreatDoorShelf
import Derived.Lib.ItoaNum
import Derived.Lib.IndexLaws
import Derived.Test.YteokdkimegepoaaGreatDoorChecked
import Derived.Lib.IndexAny
import Derived.Below
set_option linter.unusedVariables false
set_option linter.unusedSimpArgs false
set_option linter.unusedSectionVars false
namespace Go.Proofs.YteokdkimegepoaaGreatDoor
open Go.RowKit Go.Av Go.Pv
theorem wE : ∀ (args : Array Value) (w : World), (callFunc 161 args).run Tryz.prog w = .ok (.enter 161 args) w := fun _ _ => by kernel_rfl
theorem wD : ∀ (args : Array Value) (w : World), (callFunc 162 args).run Tryz.prog w = .ok (.enter 162 args) w := fun _ _ => by kernel_rfl
theorem wC : ∀ (args : Array Value) (w : World), (callFunc 163 args).run Tryz.prog w = .ok (.enter 163 args) w := fun _ _ => by kernel_rfl
theorem fQ : ∀ (args : Array Value) (w : World), (callFunc 168 args).run Tryz.prog w = .ok (.enter 168 args) w := fun _ _ => by kernel_rfl
theorem wB : ∀ (args : Array Value) (w : World), (callFunc 169 args).run Tryz.prog w = .ok (.enter 169 args) w := fun _ _ => by kernel_rfl
set_option maxRecDepth 100000 in
set_option maxHeartbeats 1000000 in
theorem eZ (F : Nat) (a1 : UInt8) (r2 : UInt8) (H : eP F a1 = some r2) : ACalls Tryz.prog 168 [u8 a1] [] (Ret (u8 r2) []) := by
 unfold eP at H
 refine ay Tryz.func168 rfl rfl ?_;show AW _ _ 5 _ _ _;refine af <| aa ?_;show AR _ _ _ _ _ [0] _;refine za rfl <| ah <| af <| aa ?_;show AR _ _ _ _ _ [0, 1, 2] _;refine zm rfl <| zS rfl (g_or8 (a := a1) (b := 32) rfl rfl) <| za rfl <| ah <| aP ?_;obtain rfl := am H;exact And.intro rfl (Exists.intro _ (Exists.intro _ ⟨aF rfl (.refl _), aK [] rfl, rfl, rfl⟩))
set_option maxRecDepth 100000 in
set_option maxHeartbeats 1000000 in
theorem mK (F : Nat) (a1 : List UInt8) (r2 : Bool) (H : iQ F a1 = some r2) : ACalls Tryz.prog 169 [S a1] [] (Ret (B r2) []) := by
 unfold iQ at H
 refine ay Tryz.func169 rfl rfl ?_;show AW _ _ 94 _ _ _;refine af <| aa ?_;show AR _ _ _ _ _ [0] _;refine za rfl <| ah <| af <| aa ?_;show AR _ _ _ _ _ [0] _;refine za rfl <| ah <| af <| aa ?_;show AR _ _ _ _ _ [0] _;refine za rfl <| ah <| bw (X := (List UInt8)) (fun y15 => ⟨[(0, S y15), (3, .v (.int .i32 94)), (4, i64 0)], [], []⟩) (fun y15 => dF F y15 = some r2) ?_ ?_
 ·refine af ?_;obtain ⟨g4, H⟩ := cC H;obtain ⟨x5, e6, H⟩ := bB H;obtain ⟨g8, H⟩ := cC H;obtain ⟨x9, e10, H⟩ := bB H;refine aa ?_;show AR _ _ _ _ _ [0, 1, 2, 3, 4, 5, 6, 7, 8, 9, 10, 11, 12] _;refine zm rfl <| zS rfl (aZ ac rfl) <| zS rfl (eC rfl rfl) <| zm rfl <| bi (l := []) 18 (B ((decide (1 ≤ (a1.length : Int))) && ((decide (x5 = 45)) || (decide (x9 = 43))))) (fun K => ?_) ?_
  ·rcases ao (decide (1 ≤ (a1.length : Int))) with h3 | h3
   ·refine zM h3 rfl <| zU h3 rfl (br ac rfl rfl (g4 h3) e6) <| zU h3 rfl (jz (a := x5) (b := 45) rfl rfl) <| zM h3 rfl <| bi (l := [12]) 17 (B ((decide (x5 = 45)) || (decide (x9 = 43)))) (fun K => ?_) ?_
    ·rcases ao (decide (x5 = 45)) with h7 | h7
     ·refine zF h7 rfl <| zF h7 rfl <| zF h7 rfl <| zU h3 rfl (aL (av := .v _) rfl h7 rfl) ?_;exact K _ 3 _ (az (ky h7)) rfl rfl
     ·refine zM h7 rfl <| zU h7 rfl (br ac rfl rfl (g8 (ln h3 (nf h7))) e10) <| zU h7 rfl (jz (a := x9) (b := 43) rfl rfl) <| zU h3 rfl (aJ (av := .v _) rfl h7 rfl) ?_;exact K _ 3 _ (az (kz h7)) rfl rfl
    refine zS rfl (aL (av := .v _) rfl h3 rfl) ?_;exact K _ 5 _ (az (cQ h3)) rfl rfl
   ·refine zF h3 rfl <| zF h3 rfl <| zF h3 rfl <| zF h3 rfl <| gU rfl rfl rfl rfl rfl <| gU rfl rfl rfl rfl rfl <| gU rfl rfl rfl rfl rfl <| zF h3 rfl <| zS rfl (aJ (av := .v _) rfl h3 rfl) ?_;exact K _ 8 _ (az (cR h3)) rfl rfl
  refine ah <| ax rfl (fun c11 => ?_) (fun c11 => ?_)
  ·replace H := ba c11 H;obtain ⟨g12, H⟩ := aR H;obtain ⟨x13, e14, H⟩ := bB H;refine aa ?_;show AR _ _ _ _ _ [0, 1, 2] _;refine zm rfl <| zS rfl (eD ac rfl rfl g12 e14) <| za rfl <| ah ?_;exact Exists.intro x13 ⟨H, aW [] (.cons (.refl _) (.cons (.refl _) (.cons (.refl _) (.nil _)))) rfl⟩
  ·replace H := bb c11 H;refine aC ?_;exact Exists.intro a1 ⟨H, aW [] (.cons (.refl _) (.cons (.refl _) (.cons (.refl _) (.nil _)))) rfl⟩
 rintro y15 H;replace H : dF F y15 = some r2 := H
 unfold dF at H
 refine af <| aa ?_;show AR _ _ _ _ _ [0] _;refine za rfl <| ah <| bw (X := Int × Int × Bool) (fun (y45, y46, y47) => ⟨[(0, S y15), (3, .v (.int .i32 y45)), (4, i64 y46), (5, B y47)], [], []⟩) (fun (y45, y46, y47) => dG F y15 y45 y46 y47 = some r2) ?_ ?_
 ·refine af ?_;obtain ⟨g18, H⟩ := cC H;obtain ⟨x19, e20, H⟩ := bB H;obtain ⟨g22, H⟩ := cC H;obtain ⟨x23, e24, H⟩ := bB H;obtain ⟨x25, e26, H⟩ := eX H;obtain ⟨g28, H⟩ := cC H;obtain ⟨x29, e30, H⟩ := bB H;obtain ⟨x31, e32, H⟩ := eX H;obtain ⟨g34, H⟩ := cC H;obtain ⟨x35, e36, H⟩ := bB H;obtain ⟨x37, e38, H⟩ := eX H;refine aa ?_;show AR _ _ _ _ _ [0, 1, 2, 3, 4, 5, 6, 7, 8, 9, 10, 11, 12, 13, 14, 15, 16, 17, 18, 19, 20, 21, 22, 23, 24, 25] _;refine zm rfl <| zS rfl (aZ ac rfl) <| zS rfl (eC rfl rfl) <| zm rfl <| bi (l := [8, 9, 10, 11, 12, 13, 14, 15, 16, 17, 18, 19, 20, 21, 22, 23, 24, 25]) 28 (B ((decide (2 ≤ (y15.length : Int))) && (decide (x19 = 48)))) (fun K => ?_) ?_
  ·rcases ao (decide (2 ≤ (y15.length : Int))) with h17 | h17
   ·refine zM h17 rfl <| zU h17 rfl (br ac rfl rfl (g18 h17) e20) <| zU h17 rfl (jz (a := x19) (b := 48) rfl rfl) <| zS rfl (aL (av := .v _) rfl h17 rfl) ?_;exact K _ 3 _ (az (cQ h17)) rfl rfl
   ·refine zF h17 rfl <| zF h17 rfl <| zF h17 rfl <| zS rfl (aJ (av := .v _) rfl h17 rfl) ?_;exact K _ 3 _ (az (cR h17)) rfl rfl
  refine zm rfl <| bi (l := []) 46 (B (((decide (2 ≤ (y15.length : Int))) && (decide (x19 = 48))) && (((decide (x25 = 98)) || (decide (x31 = 111))) || (decide (x37 = 120))))) (fun K => ?_) ?_
  ·rcases ao ((decide (2 ≤ (y15.length : Int))) && (decide (x19 = 48))) with h21 | h21
   ·refine zM h21 rfl <| zU h21 rfl (br ac rfl rfl (g22 h21) e24) <| zT h21 rfl (aI rfl fQ rfl (eZ F x23 x25 (e26 h21)) ?_);refine zU h21 rfl (jz (a := x25) (b := 98) rfl rfl) <| zM h21 rfl <| bi (l := [19, 20, 21, 22, 23, 24, 25]) 39 (B ((decide (x25 = 98)) || (decide (x31 = 111)))) (fun K => ?_) ?_
    ·rcases ao (decide (x25 = 98)) with h27 | h27
     ·refine zF h27 rfl <| zF h27 rfl <| zF h27 rfl <| zF h27 rfl <| zU h21 rfl (aL (av := .v _) rfl h27 rfl) ?_;exact K _ 4 _ (az (ky h27)) rfl rfl
     ·refine zM h27 rfl <| zU h27 rfl (br ac rfl rfl (g28 (ln h21 (nf h27))) e30) <| zT h27 rfl (aI rfl fQ rfl (eZ F x29 x31 (e32 (ln h21 (nf h27)))) ?_);refine zU h27 rfl (jz (a := x31) (b := 111) rfl rfl) <| zU h21 rfl (aJ (av := .v _) rfl h27 rfl) ?_;exact K _ 4 _ (az (kz h27)) rfl rfl
    refine zM h21 rfl <| bi (l := [25]) 45 (B (((decide (x25 = 98)) || (decide (x31 = 111))) || (decide (x37 = 120)))) (fun K => ?_) ?_
    ·rcases ao ((decide (x25 = 98)) || (decide (x31 = 111))) with h33 | h33
     ·refine zF h33 rfl <| zF h33 rfl <| zF h33 rfl <| zF h33 rfl <| zU h21 rfl (aL (av := .v _) rfl h33 rfl) ?_;exact K _ 4 _ (az (ky h33)) rfl rfl
     ·refine zM h33 rfl <| zU h33 rfl (br ac rfl rfl (g34 (ln h21 (nf h33))) e36) <| zT h33 rfl (aI rfl fQ rfl (eZ F x35 x37 (e38 (ln h21 (nf h33)))) ?_);refine zU h33 rfl (jz (a := x37) (b := 120) rfl rfl) <| zU h21 rfl (aJ (av := .v _) rfl h33 rfl) ?_;exact K _ 4 _ (az (kz h33)) rfl rfl
    refine zS rfl (aL (av := .v _) rfl h21 rfl) ?_;exact K _ 8 _ (az (cQ h21)) rfl rfl
   ·refine zF h21 rfl <| zF h21 rfl <| zF h21 rfl <| zF h21 rfl <| zF h21 rfl <| gU rfl rfl rfl rfl rfl <| gU rfl rfl rfl rfl rfl <| gU rfl rfl rfl rfl rfl <| gU rfl rfl rfl rfl rfl <| zF h21 rfl <| zF h21 rfl <| gU rfl rfl rfl rfl rfl <| gU rfl rfl rfl rfl rfl <| gU rfl rfl rfl rfl rfl <| gU rfl rfl rfl rfl rfl <| zF h21 rfl <| zS rfl (aJ (av := .v _) rfl h21 rfl) ?_;exact K _ 16 _ (az (cR h21)) rfl rfl
  refine ah <| ax rfl (fun c39 => ?_) (fun c39 => ?_)
  ·replace H := ba c39 H;refine af <| aa ?_;show AR _ _ _ _ _ [0] _;refine za rfl <| ah <| af <| aa ?_;show AR _ _ _ _ _ [0] _;refine za rfl <| ah ?_;obtain ⟨g40, H⟩ := aR H;obtain ⟨x41, e42, H⟩ := bB H;obtain ⟨x43, e44, H⟩ := ep H;refine aa ?_;show AR _ _ _ _ _ [0, 1, 2, 3, 4] _;refine zm rfl <| zS rfl (br ac rfl rfl g40 e42) <| ap rfl rfl (aI rfl fQ rfl (eZ F x41 x43 e44) ?_);refine zS rfl (jz (a := x43) (b := 120) rfl rfl) <| za rfl <| ah ?_;exact Exists.intro (48, 2, decide (x43 = 120)) ⟨H, aW [] (.cons (.refl _) (.cons (.refl _) (.cons (.refl _) (.cons (.refl _) (.nil _))))) rfl⟩
  ·replace H := bb c39 H;refine aC ?_;exact Exists.intro (94, 0, false) ⟨H, aW [] (.cons (.refl _) (.cons (.refl _) (.cons (.refl _) (.cons (.refl _) (.nil _))))) rfl⟩
 rintro ⟨y45, y46, y47⟩ H;replace H : dG F y15 y45 y46 y47 = some r2 := H
 unfold dG at H
 refine bw (X := Int) (fun y84 => ⟨[(3, .v (.int .i32 y84))], [], []⟩) (fun y84 => eS y84 = some r2) ?_ ?_
 ·refine aQ <| cJ (X := Nat × Int × Int) (fun (n52, y49, y50) => ⟨[(0, S y15), (3, .v (.int .i32 y49)), (4, i64 y50), (5, B y47)], [], []⟩) (fun (n52, y49, y50) => dH F y15 y47 n52 (y49, y50) = some r2) (fun (n52, y49, y50) => n52) (F, y45, y46) H (aW [] (.cons (.refl _) (.cons (.refl _) (.cons (.refl _) (.cons (.refl _) (.nil _))))) rfl) ?_;rintro ⟨n52, y49, y50⟩ H;obtain ⟨n52, rfl, H⟩ := dz H;replace H : gm F y15 y47 (dH F y15 y47 n52) y49 y50 = some r2 := H
  unfold gm at H
  refine af <| af <| aa ?_;show AR _ _ _ _ _ [0, 1, 2, 3] _;refine zm rfl <| zm rfl <| zS rfl (aZ ac rfl) <| zS rfl (bQ rfl rfl) <| ah <| ax rfl (fun c53 => ?_) (fun c53 => ?_)
  ·replace H := ba c53 H;refine aC <| bw (X := Int) (fun y81 => ⟨[(0, S y15), (3, .v (.int .i32 y81)), (4, i64 y50), (5, B y47)], [], []⟩) (fun y81 => dc y50 (dH F y15 y47 n52) y81 = some r2) ?_ ?_
   ·refine aQ <| af <| af ?_;obtain ⟨g54, H⟩ := aR H;obtain ⟨x55, e56, H⟩ := bB H;obtain ⟨g58, H⟩ := cC H;obtain ⟨x59, e60, H⟩ := bB H;obtain ⟨g63, H⟩ := cC H;obtain ⟨x64, e65, H⟩ := bB H;obtain ⟨x66, e67, H⟩ := eX H;obtain ⟨g69, H⟩ := cC H;obtain ⟨x70, e71, H⟩ := bB H;obtain ⟨x72, e73, H⟩ := eX H;refine aa ?_;show AR _ _ _ _ _ [0, 1, 2, 3, 4, 5, 6, 7, 8, 9, 10, 11, 12, 13, 14, 15, 16, 17, 18, 19, 20, 21, 22, 23, 24, 25, 26] _;refine zm rfl <| zm rfl <| zS rfl (br ac rfl rfl g54 e56) <| zS rfl (fR rfl rfl) <| zm rfl <| bi (l := [10, 11, 12, 13, 14, 15, 16, 17, 18, 19, 20, 21, 22, 23, 24, 25, 26]) 66 (B ((decide (48 ≤ (x55.toNat : Int))) && (decide ((x59.toNat : Int) ≤ 57)))) (fun K => ?_) ?_
    ·rcases ao (decide (48 ≤ (x55.toNat : Int))) with h57 | h57
     ·refine zM h57 rfl <| zM h57 rfl <| zU h57 rfl (br ac rfl rfl (g58 h57) e60) <| zU h57 rfl (fR rfl rfl) <| zS rfl (aL (av := .v _) rfl h57 rfl) ?_;exact K _ 4 _ (az (cQ h57)) rfl rfl
     ·refine zF h57 rfl <| zF h57 rfl <| zF h57 rfl <| zF h57 rfl <| zS rfl (aJ (av := .v _) rfl h57 rfl) ?_;exact K _ 4 _ (az (cR h57)) rfl rfl
    refine zm rfl <| bi (l := []) 83 (B (((decide (48 ≤ (x55.toNat : Int))) && (decide ((x59.toNat : Int) ≤ 57))) || ((y47 && (decide (97 ≤ (x66.toNat : Int)))) && (decide ((x72.toNat : Int) ≤ 102))))) (fun K => ?_) ?_
    ·rcases ao ((decide (48 ≤ (x55.toNat : Int))) && (decide ((x59.toNat : Int) ≤ 57))) with h61 | h61
     ·refine zF h61 rfl <| zF h61 rfl <| gU rfl rfl rfl rfl rfl <| gU rfl rfl rfl rfl rfl <| gU rfl rfl rfl rfl rfl <| gU rfl rfl rfl rfl rfl <| gU rfl rfl rfl rfl rfl <| zF h61 rfl <| zF h61 rfl <| gU rfl rfl rfl rfl rfl <| gU rfl rfl rfl rfl rfl <| gU rfl rfl rfl rfl rfl <| gU rfl rfl rfl rfl rfl <| gU rfl rfl rfl rfl rfl <| zF h61 rfl <| zS rfl (aL (av := .v _) rfl h61 rfl) ?_;exact K _ 15 _ (az (ky h61)) rfl rfl
     ·refine zM h61 rfl <| zM h61 rfl <| bi (l := [19, 20, 21, 22, 23, 24, 25, 26]) 75 (B (y47 && (decide (97 ≤ (x66.toNat : Int))))) (fun K => ?_) ?_
      ·rcases ao y47 with h62 | h62
       ·refine zM h62 rfl <| zM h62 rfl <| zU h62 rfl (br ac rfl rfl (g63 (ln (nf h61) h62)) e65) <| zT h62 rfl (aI rfl fQ rfl (eZ F x64 x66 (e67 (ln (nf h61) h62))) ?_);refine zU h62 rfl (fR rfl rfl) <| zU h61 rfl (aL (av := .v _) rfl h62 rfl) ?_;exact K _ 5 _ (az (cQ h62)) rfl rfl
       ·refine zF h62 rfl <| zF h62 rfl <| zF h62 rfl <| zF h62 rfl <| zF h62 rfl <| zU h61 rfl (aJ (av := .v _) rfl h62 rfl) ?_;exact K _ 5 _ (az (cR h62)) rfl rfl
      refine zM h61 rfl <| bi (l := [26]) 82 (B ((y47 && (decide (97 ≤ (x66.toNat : Int)))) && (decide ((x72.toNat : Int) ≤ 102)))) (fun K => ?_) ?_
      ·rcases ao (y47 && (decide (97 ≤ (x66.toNat : Int)))) with h68 | h68
       ·refine zM h68 rfl <| zM h68 rfl <| zU h68 rfl (br ac rfl rfl (g69 (ln (nf h61) h68)) e71) <| zT h68 rfl (aI rfl fQ rfl (eZ F x70 x72 (e73 (ln (nf h61) h68))) ?_);refine zU h68 rfl (fR rfl rfl) <| zU h61 rfl (aL (av := .v _) rfl h68 rfl) ?_;exact K _ 5 _ (az (cQ h68)) rfl rfl
       ·refine zF h68 rfl <| zF h68 rfl <| zF h68 rfl <| zF h68 rfl <| zF h68 rfl <| zU h61 rfl (aJ (av := .v _) rfl h68 rfl) ?_;exact K _ 5 _ (az (cR h68)) rfl rfl
      refine zS rfl (aJ (av := .v _) rfl h61 rfl) ?_;exact K _ 5 _ (az (kz h61)) rfl rfl
    refine ah <| ax rfl (fun c74 => ?_) (fun c74 => ?_)
    ·replace H := ba c74 H;refine af <| aa ?_;show AR _ _ _ _ _ [0] _;refine za rfl <| ah <| cf ?_;exact Exists.intro 48 ⟨H, aW [] (.cons (.refl _) (.cons (.refl _) (.cons (.refl _) (.cons (.refl _) (.nil _))))) rfl⟩
    ·replace H := bb c74 H;refine aC <| af <| af ?_;obtain ⟨g75, H⟩ := aR H;obtain ⟨x76, e77, H⟩ := bB H;refine aa ?_;show AR _ _ _ _ _ [0, 1, 2, 3] _;refine zm rfl <| zm rfl <| zS rfl (br ac rfl rfl g75 e77) <| zS rfl (jz (a := x76) (b := 95) rfl rfl) <| ah <| ax rfl (fun c78 => ?_) (fun c78 => ?_)
     ·replace H := ba c78 H;refine af <| af <| aa ?_;show AR _ _ _ _ _ [0, 1] _;refine zm rfl <| zS rfl (dh rfl rfl) <| ah <| ax rfl (fun c79 => ?_) (fun c79 => ?_)
      ·replace H := ba c79 H;refine af <| aa ?_;show AR _ _ _ _ _ [0] _;refine za rfl <| ah <| aP ?_;obtain rfl := am H;exact And.intro rfl (Exists.intro _ (Exists.intro _ ⟨aF rfl (.refl _), aK [] rfl, rfl, rfl⟩))
      ·replace H := bb c79 H;refine aC <| af <| aa ?_;show AR _ _ _ _ _ [0] _;refine za rfl <| ah <| cf ?_;exact Exists.intro 95 ⟨H, aW [] (.cons (.refl _) (.cons (.refl _) (.cons (.refl _) (.cons (.refl _) (.nil _))))) rfl⟩
     ·replace H := bb c78 H;refine aC <| af <| af <| aa ?_;show AR _ _ _ _ _ [0, 1] _;refine zm rfl <| zS rfl (bR rfl rfl) <| ah <| ax rfl (fun c80 => ?_) (fun c80 => ?_)
      ·replace H := ba c80 H;refine af <| aa ?_;show AR _ _ _ _ _ [0] _;refine za rfl <| ah <| aP ?_;obtain rfl := am H;exact And.intro rfl (Exists.intro _ (Exists.intro _ ⟨aF rfl (.refl _), aK [] rfl, rfl, rfl⟩))
      ·replace H := bb c80 H;refine aC <| aa ?_;show AR _ _ _ _ _ [0] _;refine za rfl <| ah ?_;exact Exists.intro 33 ⟨H, aW [] (.cons (.refl _) (.cons (.refl _) (.cons (.refl _) (.cons (.refl _) (.nil _))))) rfl⟩
   rintro y81 H;replace H : dc y50 (dH F y15 y47 n52) y81 = some r2 := H
   unfold dc at H
   obtain ⟨g83, H⟩ := aR H;refine aa ?_;show AR _ _ _ _ _ [0, 1, 2] _;refine zm rfl <| zS rfl (cH rfl rfl g83) <| za rfl <| ah ?_;exact Exists.intro (n52, y81, y50 + 1) ⟨H, Nat.lt_succ_self _, aW [] (.cons (.refl _) (.cons (.refl _) (.cons (.refl _) (.cons (.refl _) (.nil _))))) rfl⟩
  ·replace H := bb c53 H;refine cf ?_;exact Exists.intro y49 ⟨H, aW [] (.cons (.refl _) (.nil _)) rfl⟩
 rintro y84 H;replace H : eS y84 = some r2 := H
 unfold eS at H
 refine af <| aa ?_;show AR _ _ _ _ _ [0, 1, 2] _;refine zm rfl <| zS rfl (dh rfl rfl) <| za rfl <| ah <| aP ?_;obtain rfl := am H;exact And.intro rfl (Exists.intro _ (Exists.intro _ ⟨aF rfl (.refl _), aK [] rfl, rfl, rfl⟩))
abbrev _root_.Go.Av.ca := @Tryz.underlying188
abbrev _root_.Go.Av.bA := @Tryz.underlying5
set_option maxRecDepth 100000 in
set_option maxHeartbeats 1000000 in
theorem pd (F : Nat) (a1 : List UInt8) (a2 : Int) (a3 : Int) (r4 : Int) (r5 : Int) (H : eY F a1 a2 a3 = some (r4, r5)) : ACalls Tryz.prog 163 [S a1, i64 a2, i64 a3] [] (Ret (.tup [.v (.int .u64 r4), ja 188 .i64 r5]) []) := by
 unfold eY at H
 refine ay Tryz.func163 rfl rfl ?_;show AW _ _ 172 _ _ _;refine af <| aa ?_;show AR _ _ _ _ _ [0, 1] _;refine za rfl <| za rfl <| ah <| af <| af <| aa ?_;show AR _ _ _ _ _ [0, 1] _;refine zm rfl <| zS rfl (fT rfl rfl) <| ah <| ax rfl (fun c6 => ?_) (fun c6 => ?_)
 ·replace H := ba c6 H;refine af <| aa ?_;show AR _ _ _ _ _ [0, 1, 2] _;refine zS rfl (bx (a := .v _) ca rfl rfl) <| za rfl <| zS rfl (aO (av := .ifc _ _) rfl) <| ah <| aP ?_;obtain ⟨rfl, rfl⟩ := fW H;exact And.intro rfl (Exists.intro _ (Exists.intro _ ⟨bC rfl (.refl _) (.refl _), aK [] rfl, rfl, rfl⟩))
 ·replace H := bb c6 H;refine aC <| af <| aa ?_;show AR _ _ _ _ _ [0, 1, 2] _;refine zm rfl <| zS rfl (bR rfl rfl) <| za rfl <| ah <| af <| aa ?_;show AR _ _ _ _ _ [0, 1] _;refine zm rfl <| za rfl <| ah <| bw (X := Unit) (fun _ => ⟨[(0, S a1), (1, i64 a2), (2, i64 a3), (8, B (decide (a2 = 0))), (9, S a1)], [], []⟩) (fun _ => dY F a1 a2 a3 = some (r4, r5)) ?_ ?_
  ·refine aQ <| af <| aa ?_;show AR _ _ _ _ _ [0, 1, 2, 3, 4, 5, 6] _;refine zm rfl <| zS rfl (fR rfl rfl) <| zm rfl <| bi (l := [6]) 31 (B ((decide (2 ≤ a2)) && (decide (a2 ≤ 36)))) (fun K => ?_) ?_
   ·rcases ao (decide (2 ≤ a2)) with h7 | h7
    ·refine zM h7 rfl <| zU h7 rfl (fR rfl rfl) <| zS rfl (aL (av := .v _) rfl h7 rfl) ?_;exact K _ 2 _ (az (cQ h7)) rfl rfl
    ·refine zF h7 rfl <| zF h7 rfl <| zS rfl (aJ (av := .v _) rfl h7 rfl) ?_;exact K _ 2 _ (az (cR h7)) rfl rfl
   refine za rfl <| ah ?_;obtain ⟨g9, H⟩ := aR H;refine ax rfl (fun _ => ?_) (fun hx => bq g9 hx);refine aC ?_;exact Exists.intro () ⟨H, aW [] (.cons (.refl _) (.cons (.refl _) (.cons (.refl _) (.cons (.refl _) (.cons (.refl _) (.nil _)))))) rfl⟩
  rintro _ H;replace H : dY F a1 a2 a3 = some (r4, r5) := H
  unfold dY at H
  refine bw (X := Unit) (fun _ => ⟨[(0, S a1), (1, i64 a2), (2, i64 64), (8, B (decide (a2 = 0))), (9, S a1)], [], []⟩) (fun _ => dZ F a1 a2 = some (r4, r5)) ?_ ?_
  ·refine af <| aa ?_;show AR _ _ _ _ _ [0, 1] _;refine zm rfl <| zS rfl (bR rfl rfl) <| ah ?_;obtain ⟨g12, H⟩ := aR H;refine ax rfl (fun _ => ?_) (fun hx => bq g12 hx);refine aa ?_;show AR _ _ _ _ _ [0] _;refine za rfl <| ah ?_;exact Exists.intro () ⟨H, aW [] (.cons (.refl _) (.cons (.refl _) (.cons (.refl _) (.cons (.refl _) (.cons (.refl _) (.nil _)))))) rfl⟩
  rintro _ H;replace H : dZ F a1 a2 = some (r4, r5) := H
  unfold dZ at H
  refine af <| aa ?_;show AR _ _ _ _ _ [0] _;refine za rfl <| ah <| bw (X := Int) (fun y17 => ⟨[(0, S a1), (1, i64 a2), (2, i64 64), (8, B (decide (a2 = 0))), (9, S a1), (10, .v (.int .u64 y17))], [], []⟩) (fun y17 => cV F a1 a2 y17 = some (r4, r5)) ?_ ?_
  ·refine af <| aa ?_;show AR _ _ _ _ _ [0] _;refine zm rfl <| ah <| aQ <| af <| aa ?_;show AR _ _ _ _ _ [0, 1] _;refine zS rfl (bR rfl rfl) <| za rfl <| ah <| ax rfl (fun c14 => ?_) (fun c14 => ?_)
   ·replace H := ba c14 H;refine aa ?_;show AR _ _ _ _ _ [0] _;refine za rfl <| ah ?_;exact Exists.intro 1844674407370955162 ⟨H, aW [] (.cons (.refl _) (.cons (.refl _) (.cons (.refl _) (.cons (.refl _) (.cons (.refl _) (.cons (.refl _) (.nil _))))))) rfl⟩
   ·replace H := bb c14 H;refine af <| aa ?_;show AR _ _ _ _ _ [0, 1] _;refine zS rfl (bR rfl rfl) <| za rfl <| ah <| ax rfl (fun c15 => ?_) (fun c15 => ?_)
    ·replace H := ba c15 H;refine aa ?_;show AR _ _ _ _ _ [0] _;refine za rfl <| ah ?_;exact Exists.intro 1152921504606846976 ⟨H, aW [] (.cons (.refl _) (.cons (.refl _) (.cons (.refl _) (.cons (.refl _) (.cons (.refl _) (.cons (.refl _) (.nil _))))))) rfl⟩
    ·replace H := bb c15 H;obtain ⟨g16, H⟩ := aR H;refine aa ?_;show AR _ _ _ _ _ [0, 1, 2, 3, 4] _;refine zm rfl <| zS rfl (ei (by kernel_rfl) Tryz.underlying189 rfl) <| zS rfl (tv rfl rfl (of_decide_eq_true g16)) <| zS rfl (nl rfl rfl) <| za rfl <| ah ?_;exact Exists.intro (IntKind.u64.wrap ((IntKind.u64.wrap (Int.tdiv 18446744073709551615 (IntKind.u64.wrap a2))) + 1)) ⟨H, aW [] (.cons (.refl _) (.cons (.refl _) (.cons (.refl _) (.cons (.refl _) (.cons (.refl _) (.cons (.refl _) (.nil _))))))) rfl⟩
  rintro y17 H;replace H : cV F a1 a2 y17 = some (r4, r5) := H
  unfold cV at H
  refine af ?_;obtain ⟨g19, H⟩ := aR H;refine aa ?_;show AR _ _ _ _ _ [0, 1, 2, 3, 4] _;refine zm rfl <| zS rfl (ei (by kernel_rfl) Tryz.underlying124 rfl) <| zS rfl (vl rfl rfl (of_decide_eq_true g19)) <| zS rfl (nk rfl rfl) <| za rfl <| ah <| af <| aa ?_;show AR _ _ _ _ _ [0] _;refine za rfl <| ah <| af <| aa ?_;show AR _ _ _ _ _ [0] _;refine za rfl <| ah <| bw (X := Bool × Int) (fun (y53, y54) => ⟨[(9, S a1), (12, B y53), (13, .v (.int .u64 y54))], [], []⟩) (fun (y53, y54) => eb F a1 y53 y54 = some (r4, r5)) ?_ ?_
  ·refine af ?_;obtain ⟨g20, H⟩ := aR H;refine aa ?_;show AR _ _ _ _ _ [0, 1, 2, 3] _;refine zm rfl <| zX rfl (dD (bytes := 1) ac aj bA rfl g20) ?_;rintro _ _ ⟨t21, rfl, rfl⟩;refine zS rfl (aV aj rfl) <| zm rfl <| ah <| aQ <| cJ (X := Nat × Bool × Int × Int) (fun (n26, y22, y23, y24) => ⟨[(1, i64 a2), (8, B (decide (a2 = 0))), (9, S a1), (10, .v (.int .u64 y17)), (11, .v (.int .u64 (IntKind.u64.wrap ((IntKind.u64.wrap (1 * 2 ^ min (Int.toNat (IntKind.u64.wrap 64)) IntKind.u64.bits)) - 1)))), (12, B y22), (13, .v (.int .u64 y23)), (99, slE Enc.byte a1 (some t21)), (100, i64 (a1.length : Int)), (101, i64 y24)], [], [.tok t21 5]⟩) (fun (n26, y22, y23, y24) => bW F a1 a2 y17 n26 (y22, y23, y24) = some (r4, r5)) (fun (n26, y22, y23, y24) => n26) (F, false, 0, 0) H (aW [0] (.cons (.refl _) (.cons (.refl _) (.cons (.refl _) (.cons (.refl _) (.cons (.refl _) (.cons (.refl _) (.cons (.refl _) (.cons (.refl _) (.cons (.refl _) (.cons (.refl _) (.nil _))))))))))) rfl) ?_;rintro ⟨n26, y22, y23, y24⟩ H;obtain ⟨n26, rfl, H⟩ := dz H;replace H : dt F a1 a2 y17 (bW F a1 a2 y17 n26) y22 y23 y24 = some (r4, r5) := H
   unfold dt at H
   refine af <| aa ?_;show AR _ _ _ _ _ [0] _;refine zS rfl (bQ rfl rfl) <| ah <| af <| ax rfl (fun c27 => ?_) (fun c27 => ?_)
   ·replace H := ba c27 H;refine aC <| bw (X := Bool × Int) (fun (y49, y50) => ⟨[(1, i64 a2), (8, B (decide (a2 = 0))), (9, S a1), (10, .v (.int .u64 y17)), (11, .v (.int .u64 (IntKind.u64.wrap ((IntKind.u64.wrap (1 * 2 ^ min (Int.toNat (IntKind.u64.wrap 64)) IntKind.u64.bits)) - 1)))), (12, B y49), (13, .v (.int .u64 y50)), (99, slE Enc.byte a1 (some t21)), (100, i64 (a1.length : Int)), (101, i64 y24)], [], [.tok t21 5]⟩) (fun (y49, y50) => dr y24 (bW F a1 a2 y17 n26) y49 y50 = some (r4, r5)) ?_ ?_
    ·refine aQ <| af ?_;obtain ⟨g28, H⟩ := aR H;obtain ⟨x29, e30, H⟩ := bB H;refine aa ?_;show AR _ _ _ _ _ [0, 1, 2] _;refine zS rfl (bj (E := Enc.byte) aj (by kernel_rfl) rfl rfl g28 e30) <| zS rfl (aA bA rfl rfl) <| za rfl <| ah <| af <| aa ?_;show AR _ _ _ _ _ [0] _;refine za rfl <| ah <| bw (X := UInt8) (fun y43 => ⟨[(1, i64 a2), (8, B (decide (a2 = 0))), (9, S a1), (10, .v (.int .u64 y17)), (11, .v (.int .u64 (IntKind.u64.wrap ((IntKind.u64.wrap (1 * 2 ^ min (Int.toNat (IntKind.u64.wrap 64)) IntKind.u64.bits)) - 1)))), (12, B y22), (13, .v (.int .u64 y23)), (16, u8 y43), (99, slE Enc.byte a1 (some t21)), (100, i64 (a1.length : Int)), (101, i64 y24)], [], [.tok t21 5]⟩) (fun y43 => cL a2 y17 y22 y23 y24 (bW F a1 a2 y17 n26) y43 = some (r4, r5)) ?_ ?_
     ·refine aQ <| af <| aa ?_;show AR _ _ _ _ _ [0, 1, 2, 3, 4, 5] _;refine zm rfl <| zS rfl (jz (a := x29) (b := 95) rfl rfl) <| zm rfl <| bi (l := [5]) 111 (B ((decide (x29 = 95)) && (decide (a2 = 0)))) (fun K => ?_) ?_
      ·rcases ao (decide (x29 = 95)) with h31 | h31
       ·refine zM h31 rfl <| zS rfl (aL (av := .v _) rfl h31 rfl) ?_;exact K _ 1 _ (az (cQ h31)) rfl rfl
       ·refine zF h31 rfl <| zS rfl (aJ (av := .v _) rfl h31 rfl) ?_;exact K _ 1 _ (az (cR h31)) rfl rfl
      refine za rfl <| ah <| ax rfl (fun c32 => ?_) (fun c32 => ?_)
      ·replace H := ba c32 H;refine af <| aa ?_;show AR _ _ _ _ _ [0] _;refine za rfl <| ah <| cf ?_;exact Exists.intro (true, y23) ⟨H, aW [0] (.cons (.refl _) (.cons (.refl _) (.cons (.refl _) (.cons (.refl _) (.cons (.refl _) (.cons (.refl _) (.cons (.refl _) (.cons (.refl _) (.cons (.refl _) (.cons (.refl _) (.nil _))))))))))) rfl⟩
      ·replace H := bb c32 H;refine af <| aa ?_;show AR _ _ _ _ _ [0, 1, 2, 3, 4, 5, 6] _;refine zm rfl <| zS rfl (fR rfl rfl) <| zm rfl <| bi (l := [6]) 118 (B ((decide (48 ≤ (x29.toNat : Int))) && (decide ((x29.toNat : Int) ≤ 57)))) (fun K => ?_) ?_
       ·rcases ao (decide (48 ≤ (x29.toNat : Int))) with h33 | h33
        ·refine zM h33 rfl <| zU h33 rfl (fR rfl rfl) <| zS rfl (aL (av := .v _) rfl h33 rfl) ?_;exact K _ 2 _ (az (cQ h33)) rfl rfl
        ·refine zF h33 rfl <| zF h33 rfl <| zS rfl (aJ (av := .v _) rfl h33 rfl) ?_;exact K _ 2 _ (az (cR h33)) rfl rfl
       refine za rfl <| ah <| ax rfl (fun c34 => ?_) (fun c34 => ?_)
       ·replace H := ba c34 H;refine aa ?_;show AR _ _ _ _ _ [0, 1, 2] _;refine zm rfl <| zS rfl (g_sub8 (a := x29) (b := 48) rfl rfl) <| za rfl <| ah ?_;exact Exists.intro (x29 - 48) ⟨H, aW [0] (.cons (.refl _) (.cons (.refl _) (.cons (.refl _) (.cons (.refl _) (.cons (.refl _) (.cons (.refl _) (.cons (.refl _) (.cons (.refl _) (.cons (.refl _) (.cons (.refl _) (.cons (.refl _) (.nil _)))))))))))) rfl⟩
       ·replace H := bb c34 H;refine af ?_;obtain ⟨x35, e36, H⟩ := ep H;obtain ⟨x38, e39, H⟩ := eX H;refine aa ?_;show AR _ _ _ _ _ [0, 1, 2, 3, 4, 5, 6, 7, 8] _;refine zm rfl <| ap rfl rfl (aI rfl fQ rfl (eZ F x29 x35 e36) ?_);refine zS rfl (fR rfl rfl) <| zm rfl <| bi (l := [8]) 129 (B ((decide (97 ≤ (x35.toNat : Int))) && (decide ((x38.toNat : Int) ≤ 122)))) (fun K => ?_) ?_
        ·rcases ao (decide (97 ≤ (x35.toNat : Int))) with h37 | h37
         ·refine zM h37 rfl <| zT h37 rfl (aI rfl fQ rfl (eZ F x29 x38 (e39 h37)) ?_);refine zU h37 rfl (fR rfl rfl) <| zS rfl (aL (av := .v _) rfl h37 rfl) ?_;exact K _ 3 _ (az (cQ h37)) rfl rfl
         ·refine zF h37 rfl <| zF h37 rfl <| zF h37 rfl <| zS rfl (aJ (av := .v _) rfl h37 rfl) ?_;exact K _ 3 _ (az (cR h37)) rfl rfl
        refine za rfl <| ah <| ax rfl (fun c40 => ?_) (fun c40 => ?_)
        ·replace H := ba c40 H;obtain ⟨x41, e42, H⟩ := ep H;refine aa ?_;show AR _ _ _ _ _ [0, 1, 2, 3, 4] _;refine zm rfl <| ap rfl rfl (aI rfl fQ rfl (eZ F x29 x41 e42) ?_);refine zS rfl (g_sub8 (a := x41) (b := 97) rfl rfl) <| zS rfl (g_add8 (a := x41 - 97) (b := 10) rfl rfl) <| za rfl <| ah ?_;exact Exists.intro ((x41 - 97) + 10) ⟨H, aW [0] (.cons (.refl _) (.cons (.refl _) (.cons (.refl _) (.cons (.refl _) (.cons (.refl _) (.cons (.refl _) (.cons (.refl _) (.cons (.refl _) (.cons (.refl _) (.cons (.refl _) (.cons (.refl _) (.nil _)))))))))))) rfl⟩
        ·replace H := bb c40 H;refine af <| aa ?_;show AR _ _ _ _ _ [0, 1, 2] _;refine zS rfl (bx (a := .v _) ca rfl rfl) <| za rfl <| zS rfl (aO (av := .ifc _ _) rfl) <| ah <| aP ?_;obtain ⟨rfl, rfl⟩ := fW H;exact And.intro rfl (Exists.intro _ (Exists.intro _ ⟨bC rfl (.refl _) (.refl _), aK [] rfl, rfl, rfl⟩))
     rintro y43 H;replace H : cL a2 y17 y22 y23 y24 (bW F a1 a2 y17 n26) y43 = some (r4, r5) := H
     unfold cL at H
     refine af <| af <| aa ?_;show AR _ _ _ _ _ [0, 1, 2, 3] _;refine zm rfl <| zm rfl <| zS rfl (pv (by kernel_rfl) bA rfl) <| zS rfl (eC rfl rfl) <| ah <| ax rfl (fun c45 => ?_) (fun c45 => ?_)
     ·replace H := ba c45 H;refine af <| aa ?_;show AR _ _ _ _ _ [0, 1, 2] _;refine zS rfl (bx (a := .v _) ca rfl rfl) <| za rfl <| zS rfl (aO (av := .ifc _ _) rfl) <| ah <| aP ?_;obtain ⟨rfl, rfl⟩ := fW H;exact And.intro rfl (Exists.intro _ (Exists.intro _ ⟨bC rfl (.refl _) (.refl _), aK [] rfl, rfl, rfl⟩))
     ·replace H := bb c45 H;refine aC <| af <| af <| aa ?_;show AR _ _ _ _ _ [0, 1, 2] _;refine zm rfl <| zm rfl <| zS rfl (eC rfl rfl) <| ah <| ax rfl (fun c46 => ?_) (fun c46 => ?_)
      ·replace H := ba c46 H;refine af <| aa ?_;show AR _ _ _ _ _ [0, 1, 2, 3] _;refine zm rfl <| zS rfl (bx (a := .v _) ca rfl rfl) <| za rfl <| zS rfl (aO (av := .ifc _ _) rfl) <| ah <| aP ?_;obtain ⟨rfl, rfl⟩ := fW H;exact And.intro rfl (Exists.intro _ (Exists.intro _ ⟨bC rfl (.refl _) (.refl _), aK [] rfl, rfl, rfl⟩))
      ·replace H := bb c46 H;refine aC <| af <| aa ?_;show AR _ _ _ _ _ [0, 1, 2, 3, 4] _;refine zm rfl <| zm rfl <| zS rfl (ei (by kernel_rfl) Tryz.underlying189 rfl) <| zS rfl (tw rfl rfl) <| za rfl <| ah <| af <| aa ?_;show AR _ _ _ _ _ [0, 1, 2, 3, 4] _;refine zm rfl <| zm rfl <| zS rfl (ei (k' := .u8) (n := (y43.toNat : Int)) (by kernel_rfl) Tryz.underlying189 rfl) <| zS rfl (nl rfl rfl) <| za rfl <| ah <| af <| af <| aa ?_;show AR _ _ _ _ _ [0, 1, 2, 3, 4, 5, 6, 7] _;refine zm rfl <| zm rfl <| zS rfl (bQ rfl rfl) <| zm rfl <| bi (l := []) 159 (B ((decide (IntKind.u64.wrap ((IntKind.u64.wrap (y23 * (IntKind.u64.wrap a2))) + (IntKind.u64.wrap (y43.toNat : Int))) < IntKind.u64.wrap (y23 * (IntKind.u64.wrap a2)))) || (decide (IntKind.u64.wrap ((IntKind.u64.wrap (1 * 2 ^ min (Int.toNat (IntKind.u64.wrap 64)) IntKind.u64.bits)) - 1) < IntKind.u64.wrap ((IntKind.u64.wrap (y23 * (IntKind.u64.wrap a2))) + (IntKind.u64.wrap (y43.toNat : Int))))))) (fun K => ?_) ?_
       ·rcases ao (decide (IntKind.u64.wrap ((IntKind.u64.wrap (y23 * (IntKind.u64.wrap a2))) + (IntKind.u64.wrap (y43.toNat : Int))) < IntKind.u64.wrap (y23 * (IntKind.u64.wrap a2)))) with h47 | h47
        ·refine zF h47 rfl <| zF h47 rfl <| zF h47 rfl <| zS rfl (aL (av := .v _) rfl h47 rfl) ?_;exact K _ 3 _ (az (ky h47)) rfl rfl
        ·refine zM h47 rfl <| zM h47 rfl <| zU h47 rfl (fw rfl rfl) <| zS rfl (aJ (av := .v _) rfl h47 rfl) ?_;exact K _ 3 _ (az (kz h47)) rfl rfl
       refine ah <| ax rfl (fun c48 => ?_) (fun c48 => ?_)
       ·replace H := ba c48 H;refine af <| aa ?_;show AR _ _ _ _ _ [0, 1, 2, 3] _;refine zm rfl <| zS rfl (bx (a := .v _) ca rfl rfl) <| za rfl <| zS rfl (aO (av := .ifc _ _) rfl) <| ah <| aP ?_;obtain ⟨rfl, rfl⟩ := fW H;exact And.intro rfl (Exists.intro _ (Exists.intro _ ⟨bC rfl (.refl _) (.refl _), aK [] rfl, rfl, rfl⟩))
       ·replace H := bb c48 H;refine aC <| aa ?_;show AR _ _ _ _ _ [0, 1] _;refine zm rfl <| za rfl <| ah ?_;exact Exists.intro (y22, IntKind.u64.wrap ((IntKind.u64.wrap (y23 * (IntKind.u64.wrap a2))) + (IntKind.u64.wrap (y43.toNat : Int)))) ⟨H, aW [0] (.cons (.refl _) (.cons (.refl _) (.cons (.refl _) (.cons (.refl _) (.cons (.refl _) (.cons (.refl _) (.cons (.refl _) (.cons (.refl _) (.cons (.refl _) (.cons (.refl _) (.nil _))))))))))) rfl⟩
    rintro ⟨y49, y50⟩ H;replace H : dr y24 (bW F a1 a2 y17 n26) y49 y50 = some (r4, r5) := H
    unfold dr at H
    obtain ⟨g52, H⟩ := aR H;refine aa ?_;show AR _ _ _ _ _ [0, 1] _;refine zS rfl (cH rfl rfl g52) <| zm rfl <| ah ?_;exact Exists.intro (n26, y49, y50, y24 + 1) ⟨H, Nat.lt_succ_self _, aW [0] (.cons (.refl _) (.cons (.refl _) (.cons (.refl _) (.cons (.refl _) (.cons (.refl _) (.cons (.refl _) (.cons (.refl _) (.cons (.refl _) (.cons (.refl _) (.cons (.refl _) (.nil _))))))))))) rfl⟩
   ·replace H := bb c27 H;refine cf ?_;exact Exists.intro (y22, y23) ⟨H, aW [] (.cons (.refl _) (.cons (.refl _) (.cons (.refl _) (.nil _)))) rfl⟩
  rintro ⟨y53, y54⟩ H;replace H : eb F a1 y53 y54 = some (r4, r5) := H
  unfold eb at H
  refine af <| af ?_;obtain ⟨x57, e58, H⟩ := eX H;refine aa ?_;show AR _ _ _ _ _ [0, 1, 2, 3, 4, 5] _;refine zm rfl <| zm rfl <| bi (l := []) 169 (B (y53 && (!x57))) (fun K => ?_) ?_
  ·rcases ao y53 with h56 | h56
   ·refine zM h56 rfl <| zT h56 rfl (aI rfl wB rfl (mK F a1 x57 (e58 h56)) ?_);refine zU h56 rfl (cd rfl) <| zS rfl (aL (av := .v _) rfl h56 rfl) ?_;exact K _ 3 _ (az (cQ h56)) rfl rfl
   ·refine zF h56 rfl <| zF h56 rfl <| zF h56 rfl <| zS rfl (aJ (av := .v _) rfl h56 rfl) ?_;exact K _ 3 _ (az (cR h56)) rfl rfl
  refine ah <| ax rfl (fun c59 => ?_) (fun c59 => ?_)
  ·replace H := ba c59 H;refine af <| aa ?_;show AR _ _ _ _ _ [0, 1, 2] _;refine zS rfl (bx (a := .v _) ca rfl rfl) <| za rfl <| zS rfl (aO (av := .ifc _ _) rfl) <| ah <| aP ?_;obtain ⟨rfl, rfl⟩ := fW H;exact And.intro rfl (Exists.intro _ (Exists.intro _ ⟨bC rfl (.refl _) (.refl _), aK [] rfl, rfl, rfl⟩))
  ·replace H := bb c59 H;refine aC <| af <| aa ?_;show AR _ _ _ _ _ [0, 1, 2] _;refine zm rfl <| za rfl <| za rfl <| ah <| aP ?_;obtain ⟨rfl, rfl⟩ := fW H;exact And.intro rfl (Exists.intro _ (Exists.intro _ ⟨bC rfl (.refl _) (.refl _), aK [] rfl, rfl, rfl⟩))
abbrev _root_.Go.Av.eg := @Tryz.underlying62
set_option maxRecDepth 100000 in
set_option maxHeartbeats 1000000 in
theorem qa (F : Nat) (a1 : List UInt8) (a2 : Int) (a3 : Int) (r4 : Int) (r5 : Int) (H : fy F a1 a2 a3 = some (r4, r5)) : ACalls Tryz.prog 161 [S a1, i64 a2, i64 a3] [] (Ret (.tup [i64 r4, ja 188 .i64 r5]) []) := by
 unfold fy at H
 refine ay Tryz.func161 rfl rfl ?_;show AW _ _ 73 _ _ _;refine af <| aa ?_;show AR _ _ _ _ _ [0, 1] _;refine za rfl <| za rfl <| ah <| af <| af <| aa ?_;show AR _ _ _ _ _ [0, 1] _;refine zm rfl <| zS rfl (fT rfl rfl) <| ah <| ax rfl (fun c6 => ?_) (fun c6 => ?_)
 ·replace H := ba c6 H;refine af <| aa ?_;show AR _ _ _ _ _ [0, 1, 2] _;refine zS rfl (bx (a := .v _) ca rfl rfl) <| za rfl <| zS rfl (aO (av := .ifc _ _) rfl) <| ah <| aP ?_;obtain ⟨rfl, rfl⟩ := fW H;exact And.intro rfl (Exists.intro _ (Exists.intro _ ⟨bC rfl (.refl _) (.refl _), aK [] rfl, rfl, rfl⟩))
 ·replace H := bb c6 H;refine aC <| af <| aa ?_;show AR _ _ _ _ _ [0] _;refine za rfl <| ah <| bw (X := (List UInt8) × Bool) (fun (y18, y19) => ⟨[(0, S y18), (1, i64 a2), (2, i64 a3), (8, B y19)], [], []⟩) (fun (y18, y19) => dm F a2 a3 y18 y19 = some (r4, r5)) ?_ ?_
  ·refine af ?_;obtain ⟨g7, H⟩ := aR H;obtain ⟨x8, e9, H⟩ := bB H;refine aa ?_;show AR _ _ _ _ _ [0, 1] _;refine zm rfl <| zS rfl (br ac rfl rfl g7 e9) <| ah <| aQ <| af <| aa ?_;show AR _ _ _ _ _ [0, 1] _;refine zS rfl (jz (a := x8) (b := 43) rfl rfl) <| za rfl <| ah <| ax rfl (fun c10 => ?_) (fun c10 => ?_)
   ·replace H := ba c10 H;obtain ⟨g11, H⟩ := aR H;obtain ⟨x12, e13, H⟩ := bB H;refine aa ?_;show AR _ _ _ _ _ [0, 1, 2] _;refine zm rfl <| zS rfl (eD ac rfl rfl g11 e13) <| za rfl <| ah ?_;exact Exists.intro (x12, false) ⟨H, aW [] (.cons (.refl _) (.cons (.refl _) (.cons (.refl _) (.cons (.refl _) (.nil _))))) rfl⟩
   ·replace H := bb c10 H;refine af <| aa ?_;show AR _ _ _ _ _ [0, 1] _;refine zS rfl (jz (a := x8) (b := 45) rfl rfl) <| za rfl <| ah <| ax rfl (fun c14 => ?_) (fun c14 => ?_)
    ·replace H := ba c14 H;refine af ?_;obtain ⟨g15, H⟩ := aR H;obtain ⟨x16, e17, H⟩ := bB H;refine aa ?_;show AR _ _ _ _ _ [0, 1, 2] _;refine zm rfl <| zS rfl (eD ac rfl rfl g15 e17) <| za rfl <| ah <| aa ?_;show AR _ _ _ _ _ [0] _;refine za rfl <| ah ?_;exact Exists.intro (x16, true) ⟨H, aW [] (.cons (.refl _) (.cons (.refl _) (.cons (.refl _) (.cons (.refl _) (.nil _))))) rfl⟩
    ·replace H := bb c14 H;refine aC ?_;exact Exists.intro (a1, false) ⟨H, aW [] (.cons (.refl _) (.cons (.refl _) (.cons (.refl _) (.cons (.refl _) (.nil _))))) rfl⟩
  rintro ⟨y18, y19⟩ H;replace H : dm F a2 a3 y18 y19 = some (r4, r5) := H
  unfold dm at H
  refine af <| aa ?_;show AR _ _ _ _ _ [0] _;refine za rfl <| ah <| af ?_;obtain ⟨x21, x22, e23, H⟩ := cU H;refine aa ?_;show AR _ _ _ _ _ [0, 1, 2, 3, 4, 5, 6, 7, 8] _;refine zm rfl <| zm rfl <| zm rfl <| ap rfl rfl (aI rfl wC rfl (pd F y18 a2 a3 x21 x22 e23) ?_);refine zS rfl (ai (av := .tup _) rfl) <| zS rfl (aM (av := .v _) rfl rfl) <| zS rfl (aM (av := ja _ _ _) rfl rfl) <| za rfl <| zS rfl (aO (av := ja _ _ _) rfl) <| ah <| af <| af <| aa ?_;show AR _ _ _ _ _ [0, 1, 2, 3, 4, 5, 6] _;refine zS rfl (ai (av := ja _ _ _) rfl) <| zS rfl (mH eg rfl rfl) <| zm rfl <| bi (l := []) 38 (B ((!decide (x22 = 0)) && (!decide (x22 = 1)))) (fun K => ?_) ?_
  ·rcases ao (!decide (x22 = 0)) with h24 | h24
   ·refine zU h24 rfl (ai (av := ja _ _ _) rfl) <| zU h24 rfl (bx (a := .v _) ca rfl rfl) <| zU h24 rfl (vR (m := 1) eg rfl ca (by kernel_rfl) (by decide) rfl rfl) <| zS rfl (aL (av := .v _) rfl h24 rfl) ?_;exact K _ 3 _ (az (cQ h24)) rfl rfl
   ·refine zF h24 rfl <| zF h24 rfl <| zF h24 rfl <| zS rfl (aJ (av := .v _) rfl h24 rfl) ?_;exact K _ 3 _ (az (cR h24)) rfl rfl
  refine ah <| ax rfl (fun c25 => ?_) (fun c25 => ?_)
  ·replace H := ba c25 H;refine af <| aa ?_;show AR _ _ _ _ _ [0, 1, 2] _;refine zS rfl (ai (av := ja _ _ _) rfl) <| za rfl <| zS rfl (aO (av := ja _ _ _) rfl) <| ah <| aP ?_;obtain ⟨rfl, rfl⟩ := fW H;exact And.intro rfl (Exists.intro _ (Exists.intro _ ⟨bC rfl (.refl _) (.refl _), aK [] rfl, rfl, rfl⟩))
  ·replace H := bb c25 H;refine aC <| bw (X := Unit) (fun _ => ⟨[(2, i64 64), (8, B y19), (9, .v (.int .u64 x21))], [], []⟩) (fun _ => eJ y19 x21 = some (r4, r5)) ?_ ?_
   ·refine af <| aa ?_;show AR _ _ _ _ _ [0, 1] _;refine zm rfl <| zS rfl (bR rfl rfl) <| ah ?_;obtain ⟨g27, H⟩ := aR H;refine ax rfl (fun _ => ?_) (fun hx => bq g27 hx);refine aa ?_;show AR _ _ _ _ _ [0] _;refine za rfl <| ah ?_;exact Exists.intro () ⟨H, aW [] (.cons (.refl _) (.cons (.refl _) (.cons (.refl _) (.nil _)))) rfl⟩
   rintro _ H;replace H : eJ y19 x21 = some (r4, r5) := H
   unfold eJ at H
   refine af ?_;obtain ⟨g29, H⟩ := aR H;refine aa ?_;show AR _ _ _ _ _ [0, 1, 2, 3, 4] _;refine zm rfl <| zS rfl (bc (av' := i64 63) (ld rfl rfl (by decide)) rfl) <| zS rfl (ei (by kernel_rfl) Tryz.underlying124 rfl) <| zS rfl (vl rfl rfl (of_decide_eq_true g29)) <| za rfl <| ah <| af <| af <| aa ?_;show AR _ _ _ _ _ [0, 1, 2, 3, 4, 5, 6] _;refine zm rfl <| zS rfl (cd rfl) <| zm rfl <| bi (l := []) 52 (B ((!y19) && (decide (IntKind.u64.wrap (1 * 2 ^ min (Int.toNat (IntKind.u64.wrap 63)) IntKind.u64.bits) ≤ x21)))) (fun K => ?_) ?_
   ·rcases ao (!y19) with h30 | h30
    ·refine zM h30 rfl <| zM h30 rfl <| zU h30 rfl (eC rfl rfl) <| zS rfl (aL (av := .v _) rfl h30 rfl) ?_;exact K _ 3 _ (az (cQ h30)) rfl rfl
    ·refine zF h30 rfl <| zF h30 rfl <| zF h30 rfl <| zS rfl (aJ (av := .v _) rfl h30 rfl) ?_;exact K _ 3 _ (az (cR h30)) rfl rfl
   refine ah <| ax rfl (fun c31 => ?_) (fun c31 => ?_)
   ·replace H := ba c31 H;refine af ?_;obtain ⟨g32, H⟩ := aR H;refine aa ?_;show AR _ _ _ _ _ [0, 1, 2, 3, 4, 5] _;refine zm rfl <| zS rfl (nk rfl rfl) <| zS rfl (nN (by kernel_rfl) Tryz.underlying2 rfl g32) <| zS rfl (bx (a := .v _) ca rfl rfl) <| za rfl <| zS rfl (aO (av := .ifc _ _) rfl) <| ah <| aP ?_;obtain ⟨rfl, rfl⟩ := fW H;exact And.intro rfl (Exists.intro _ (Exists.intro _ ⟨bC rfl (.refl _) (.refl _), aK [] rfl, rfl, rfl⟩))
   ·replace H := bb c31 H;refine aC <| af <| af <| aa ?_;show AR _ _ _ _ _ [0, 1, 2, 3, 4, 5] _;refine zm rfl <| zm rfl <| bi (l := []) 62 (B (y19 && (decide (IntKind.u64.wrap (1 * 2 ^ min (Int.toNat (IntKind.u64.wrap 63)) IntKind.u64.bits) < x21)))) (fun K => ?_) ?_
    ·rcases ao y19 with h33 | h33
     ·refine zM h33 rfl <| zM h33 rfl <| zU h33 rfl (fw rfl rfl) <| zS rfl (aL (av := .v _) rfl h33 rfl) ?_;exact K _ 3 _ (az (cQ h33)) rfl rfl
     ·refine zF h33 rfl <| zF h33 rfl <| zF h33 rfl <| zS rfl (aJ (av := .v _) rfl h33 rfl) ?_;exact K _ 3 _ (az (cR h33)) rfl rfl
    refine ah <| ax rfl (fun c34 => ?_) (fun c34 => ?_)
    ·replace H := ba c34 H;refine af ?_;obtain ⟨g35, H⟩ := aR H;obtain ⟨g36, H⟩ := aR H;refine aa ?_;show AR _ _ _ _ _ [0, 1, 2, 3, 4, 5] _;refine zm rfl <| zS rfl (nN (by kernel_rfl) Tryz.underlying2 rfl g35) <| zS rfl (g_neg rfl g36) <| zS rfl (bx (a := .v _) ca rfl rfl) <| za rfl <| zS rfl (aO (av := .ifc _ _) rfl) <| ah <| aP ?_;obtain ⟨rfl, rfl⟩ := fW H;exact And.intro rfl (Exists.intro _ (Exists.intro _ ⟨bC rfl (.refl _) (.refl _), aK [] rfl, rfl, rfl⟩))
    ·replace H := bb c34 H;refine aC <| af ?_;obtain ⟨g37, H⟩ := aR H;refine aa ?_;show AR _ _ _ _ _ [0, 1, 2] _;refine zm rfl <| zS rfl (nN (by kernel_rfl) Tryz.underlying2 rfl g37) <| za rfl <| ah <| bw (X := Int) (fun y40 => ⟨[(11, i64 y40)], [], []⟩) (fun y40 => dP y40 = some (r4, r5)) ?_ ?_
     ·refine af <| aa ?_;show AR _ _ _ _ _ [0] _;refine zm rfl <| ah <| ax rfl (fun c38 => ?_) (fun c38 => ?_)
      ·replace H := ba c38 H;obtain ⟨g39, H⟩ := aR H;refine aa ?_;show AR _ _ _ _ _ [0, 1, 2] _;refine zm rfl <| zS rfl (g_neg rfl g39) <| za rfl <| ah ?_;exact Exists.intro (0 - x21) ⟨H, aW [] (.cons (.refl _) (.nil _)) rfl⟩
      ·replace H := bb c38 H;refine aC ?_;exact Exists.intro x21 ⟨H, aW [] (.cons (.refl _) (.nil _)) rfl⟩
     rintro y40 H;replace H : dP y40 = some (r4, r5) := H
     unfold dP at H
     refine af <| aa ?_;show AR _ _ _ _ _ [0, 1, 2] _;refine zm rfl <| za rfl <| za rfl <| ah <| aP ?_;obtain ⟨rfl, rfl⟩ := fW H;exact And.intro rfl (Exists.intro _ (Exists.intro _ ⟨bC rfl (.refl _) (.refl _), aK [] rfl, rfl, rfl⟩))
set_option maxRecDepth 100000 in
set_option maxHeartbeats 1000000 in
theorem mt (F : Nat) (a1 : List UInt8) (a2 : Int) (a3 : Int) (r4 : Int) (r5 : Int) (H : dd F a1 a2 a3 = some (r4, r5)) : ACalls Tryz.prog 159 [S a1, i64 a2, i64 a3] [] (Ret (.tup [i64 r4, eAny 192 r5]) []) := by
 unfold dd at H
 refine ay Tryz.func159 rfl rfl ?_;show AW _ _ 25 _ _ _;refine af <| aa ?_;show AR _ _ _ _ _ [0, 1] _;refine za rfl <| za rfl <| ah <| af ?_;obtain ⟨x6, x7, e8, H⟩ := cU H;refine aa ?_;show AR _ _ _ _ _ [0, 1, 2, 3, 4, 5, 6, 7, 8] _;refine zm rfl <| zm rfl <| zm rfl <| ap rfl rfl (aI rfl wE rfl (qa F a1 a2 a3 x6 x7 e8) ?_);refine zS rfl (ai (av := .tup _) rfl) <| zS rfl (aM (av := .v _) rfl rfl) <| zS rfl (aM (av := ja _ _ _) rfl rfl) <| za rfl <| zS rfl (aO (av := ja _ _ _) rfl) <| ah <| af <| af <| aa ?_;show AR _ _ _ _ _ [0, 1] _;refine zS rfl (ai (av := ja _ _ _) rfl) <| zS rfl (mH eg rfl rfl) <| ah <| ax rfl (fun c9 => ?_) (fun c9 => ?_)
 ·replace H := ba c9 H;refine af ?_;obtain ⟨g10, H⟩ := aR H;obtain ⟨g11, H⟩ := aR H;refine aa ?_;show AR _ _ _ _ _ [0, 1, 2, 3, 4, 5, 6, 7] _;refine zm rfl <| zm rfl <| zm rfl <| zm rfl <| zS rfl (ai (av := ja _ _ _) rfl) <| ap rfl rfl (aI rfl wD rfl (sV _ _ _ _ x7 (mI g10) (of_decide_eq_true g11)) ?_);refine za rfl <| zS rfl (aO (av := .ifc _ _) rfl) <| ah <| aP ?_;obtain ⟨rfl, rfl⟩ := fW H;exact And.intro rfl (Exists.intro _ (Exists.intro _ ⟨bC rfl (.refl _) (.ifc _ _), aK [] rfl, rfl, rfl⟩))
 ·replace H := bb c9 H;refine aC <| af <| aa ?_;show AR _ _ _ _ _ [0, 1, 2] _;refine zm rfl <| za rfl <| za rfl <| ah <| aP ?_;obtain ⟨rfl, rfl⟩ := fW H;exact And.intro rfl (Exists.intro _ (Exists.intro _ ⟨bC rfl (.refl _) (.refl _), aK [] rfl, rfl, rfl⟩))
end Go.Proofs.YteokdkimegepoaaGreatDoor
namespace Go.Pv
def ik (F : Nat) (a1 : Int) : Option Bool :=
bif (decide (0 ≤ a1)) && (decide (a1 < 55296)) then
  some true
else
  bif (decide (57343 < a1)) && (decide (a1 ≤ 1114111)) then
    some true
  else
    some false
def kT : Option Int :=
some (-1)
def dT (a1 : List UInt8) (rec11 : Nat → Option Int) (y10 : Nat) : Option Int :=
bif decide (y10 < a1.length) then
  grd (!(decide (((ll a1 y10).1 : Int) = 65533))) <|
  rec11 (y10 + (ll a1 y10).2)
else
  kT
def gw (a1 : List UInt8) (n : Nat) : Nat → Option Int :=
  loop (fun rec x => dT a1 rec x) n
def ic : Option Int :=
some (-1)
def gx (a1 : List UInt8) (x20 : List UInt8) (rec23 : Unit → Option Int) : Option Int :=
bif decide ((x20.length : Int) - 1 < (a1.length : Int)) then
  grd (ce ((x20.length : Int) - 1) a1.length) <|
  lt (at_ a1 ((x20.length : Int) - 1)) fun x27 =>
  grd (ce ((x20.length : Int) - 1) x20.length) <|
  lt (at_ x20 ((x20.length : Int) - 1)) fun x30 =>
  grd (!decide (x27 = x30)) <|
  grd (okI (((x20.length : Int) - 1) + 1)) <|
  grd (kA (((x20.length : Int) - 1) + 1) a1.length) <|
  lt (dk a1 (((x20.length : Int) - 1) + 1)) fun x35 =>
  grd (ce ((x20.length : Int) - 1) x20.length) <|
  lt (at_ x20 ((x20.length : Int) - 1)) fun x38 =>
  lt (Go.Lib.indexByte x35 x38) fun x40 =>
  grd (decide (x40 < 0)) <|
  some (-1)
else
  ic
def jv (a1 : List UInt8) (x20 : List UInt8) (n : Nat) : Unit → Option Int :=
  loop (fun rec x => gx a1 x20 rec) n
def gE (F : Nat) (a1 : List UInt8) (a2 : Int) : Option Int :=
bif (decide (0 ≤ a2)) && (decide (a2 < 128)) then
  lt (Go.Lib.indexByte a1 (Go.Av.toB a2)) fun x6 =>
  some x6
else
  bif decide (a2 = 65533) then
    gw a1 F 0
  else
    bnd (ik F a2) fun x17 =>
    bif !x17 then
      some (-1)
    else
      lt (cA a2) fun x20 =>
      grd (okI ((x20.length : Int) - 1)) <|
      jv a1 x20 F ()
def pQ (F : Nat) (a1 : Int) : Option Bool :=
some (decide (8 < a1))
def gy (F : Nat) (a1 : List UInt8) (y11 : Int) : Option Int :=
bnd (gE F a1 y11) fun x13 =>
some x13
def ig : Option Int :=
some (-1)
def gA (F : Nat) (a1 : List UInt8) (a2 : List UInt8) (rec22 : Nat → Option Int) (y21 : Nat) : Option Int :=
bif decide (y21 < a1.length) then
  bnd (gE F a2 ((ll a1 y21).1 : Int)) fun x25 =>
  bif decide (0 ≤ x25) then
    some (y21 : Int)
  else
    rec22 (y21 + (ll a1 y21).2)
else
  ig
def gz (F : Nat) (a1 : List UInt8) (a2 : List UInt8) (n : Nat) : Nat → Option Int :=
  loop (fun rec x => gA F a1 a2 rec x) n
def ie (F : Nat) (a1 : List UInt8) (a2 : List UInt8) : Option Int :=
gz F a1 a2 F 0
def lk (F : Nat) (a1 : List UInt8) (a2 : List UInt8) : Option Int :=
bif decide (a2 = ([] : List UInt8)) then
  some (-1)
else
  bif decide ((a2.length : Int) = 1) then
    grd (ce 0 a2.length) <|
    lt (at_ a2 0) fun x7 =>
    grd (okJ (x7.toNat : Int)) <|
    bif decide (128 ≤ (x7.toNat : Int)) then
      gy F a1 65533
    else
      gy F a1 (x7.toNat : Int)
  else
    bnd (pQ F (a1.length : Int)) fun x15 =>
    grd (!x15) <|
    ie F a1 a2
def kC (F : Nat) (s chars : List UInt8) : Option Int := bif decide (8 < s.length) && decide (2 ≤ chars.length) then some (Go.Lib.indexAny s chars) else lk F s chars
def fG (F : Nat) (a1 : List UInt8) (a2 : List UInt8) : Option Bool :=
grd (gM a2) <|
grd (okS a1.length) <|
grd (okS a2.length) <|
bnd (kC F a1 a2) fun x7 =>
some (decide (0 ≤ x7))
end Go.Pv
namespace Go.Proofs.YteokdkimegepoaaGreatDoor
open Go.RowKit Go.Av Go.Pv
theorem tJ : ∀ (args : Array Value) (w : World), (callFunc 62 args).run Tryz.prog w = .ok (.enter 62 args) w := fun _ _ => by kernel_rfl
theorem rj : ∀ (args : Array Value) (w : World), (callFunc 105 args).run Tryz.prog w = .ok (.enter 105 args) w := fun _ _ => by kernel_rfl
theorem wN : ∀ (args : Array Value) (w : World), (callFunc 121 args).run Tryz.prog w = .ok (.enter 121 args) w := fun _ _ => by kernel_rfl
theorem wI : ∀ (args : Array Value) (w : World), (callFunc 133 args).run Tryz.prog w = .ok (.enter 133 args) w := fun _ _ => by kernel_rfl
theorem wF : ∀ (args : Array Value) (w : World), (callFunc 148 args).run Tryz.prog w = .ok (.enter 148 args) w := fun _ _ => by kernel_rfl
set_option maxRecDepth 100000 in
set_option maxHeartbeats 1000000 in
theorem sI (F : Nat) (a1 : Int) (r2 : Bool) (H : ik F a1 = some r2) : ACalls Tryz.prog 121 [.v (.int .i32 a1)] [] (Ret (B r2) []) := by
 unfold ik at H
 refine ay Tryz.func121 rfl rfl ?_;show AW _ _ 17 _ _ _;refine af <| aa ?_;show AR _ _ _ _ _ [0] _;refine za rfl <| ah <| af <| aQ <| af <| aa ?_;show AR _ _ _ _ _ [0, 1, 2, 3, 4, 5, 6] _;refine zm rfl <| zS rfl (fR rfl rfl) <| zm rfl <| bi (l := [6]) 9 (B ((decide (0 ≤ a1)) && (decide (a1 < 55296)))) (fun K => ?_) ?_
 ·rcases ao (decide (0 ≤ a1)) with h3 | h3
  ·refine zM h3 rfl <| zU h3 rfl (bQ rfl rfl) <| zS rfl (aL (av := .v _) rfl h3 rfl) ?_;exact K _ 2 _ (az (cQ h3)) rfl rfl
  ·refine zF h3 rfl <| zF h3 rfl <| zS rfl (aJ (av := .v _) rfl h3 rfl) ?_;exact K _ 2 _ (az (cR h3)) rfl rfl
 refine za rfl <| ah <| ax rfl (fun c4 => ?_) (fun c4 => ?_)
 ·replace H := ba c4 H;refine af <| aa ?_;show AR _ _ _ _ _ [0] _;refine za rfl <| ah <| aP ?_;obtain rfl := am H;exact And.intro rfl (Exists.intro _ (Exists.intro _ ⟨aF rfl (.refl _), aK [] rfl, rfl, rfl⟩))
 ·replace H := bb c4 H;refine af <| aa ?_;show AR _ _ _ _ _ [0, 1, 2, 3, 4, 5, 6] _;refine zm rfl <| zS rfl (bQ rfl rfl) <| zm rfl <| bi (l := [6]) 16 (B ((decide (57343 < a1)) && (decide (a1 ≤ 1114111)))) (fun K => ?_) ?_
  ·rcases ao (decide (57343 < a1)) with h5 | h5
   ·refine zM h5 rfl <| zU h5 rfl (fR rfl rfl) <| zS rfl (aL (av := .v _) rfl h5 rfl) ?_;exact K _ 2 _ (az (cQ h5)) rfl rfl
   ·refine zF h5 rfl <| zF h5 rfl <| zS rfl (aJ (av := .v _) rfl h5 rfl) ?_;exact K _ 2 _ (az (cR h5)) rfl rfl
  refine za rfl <| ah <| ax rfl (fun c6 => ?_) (fun c6 => ?_)
  ·replace H := ba c6 H;refine af <| aa ?_;show AR _ _ _ _ _ [0] _;refine za rfl <| ah <| aP ?_;obtain rfl := am H;exact And.intro rfl (Exists.intro _ (Exists.intro _ ⟨aF rfl (.refl _), aK [] rfl, rfl, rfl⟩))
  ·replace H := bb c6 H;refine aC <| af <| aa ?_;show AR _ _ _ _ _ [0] _;refine za rfl <| ah <| aP ?_;obtain rfl := am H;exact And.intro rfl (Exists.intro _ (Exists.intro _ ⟨aF rfl (.refl _), aK [] rfl, rfl, rfl⟩))
abbrev _root_.Go.Av.eh := @Tryz.underlying21
set_option maxRecDepth 100000 in
set_option maxHeartbeats 1000000 in
theorem qz (F : Nat) (a1 : List UInt8) (a2 : Int) (r3 : Int) (H : gE F a1 a2 = some r3) : ACalls Tryz.prog 105 [S a1, .v (.int .i32 a2)] [] (Ret (i64 r3) []) := by
 unfold gE at H
 refine ay Tryz.func105 rfl rfl ?_;show AW _ _ 187 _ _ _;refine af <| aa ?_;show AR _ _ _ _ _ [0] _;refine za rfl <| ah <| aQ <| af <| aa ?_;show AR _ _ _ _ _ [0, 1, 2, 3, 4, 5, 6] _;refine zm rfl <| zS rfl (fR rfl rfl) <| zm rfl <| bi (l := [6]) 166 (B ((decide (0 ≤ a2)) && (decide (a2 < 128)))) (fun K => ?_) ?_
 ·rcases ao (decide (0 ≤ a2)) with h4 | h4
  ·refine zM h4 rfl <| zU h4 rfl (bQ rfl rfl) <| zS rfl (aL (av := .v _) rfl h4 rfl) ?_;exact K _ 2 _ (az (cQ h4)) rfl rfl
  ·refine zF h4 rfl <| zF h4 rfl <| zS rfl (aJ (av := .v _) rfl h4 rfl) ?_;exact K _ 2 _ (az (cR h4)) rfl rfl
 refine za rfl <| ah <| ax rfl (fun c5 => ?_) (fun c5 => ?_)
 ·replace H := ba c5 H;refine af ?_;obtain ⟨x6, e7, H⟩ := bB H;refine aa ?_;show AR _ _ _ _ _ [0, 1, 2, 3, 4] _;refine zm rfl <| zm rfl <| zS rfl (pv (by kernel_rfl) bA rfl) <| ap rfl rfl (aI rfl tJ rfl (show ACalls _ _ _ [] (Ret (i64 x6) []) from by subst e7; exact eB a1 (Go.Av.toB a2)) ?_);refine za rfl <| ah <| aP ?_;obtain rfl := am H;exact And.intro rfl (Exists.intro _ (Exists.intro _ ⟨aF rfl (.refl _), aK [] rfl, rfl, rfl⟩))
 ·replace H := bb c5 H;refine af <| aa ?_;show AR _ _ _ _ _ [0, 1, 2] _;refine zm rfl <| zS rfl (bR rfl rfl) <| za rfl <| ah <| ax rfl (fun c8 => ?_) (fun c8 => ?_)
  ·replace H := ba c8 H;refine bw (X := Unit) (fun _ => ⟨[], [], []⟩) (fun _ => kT = some r3) ?_ ?_
   ·refine af <| aa ?_;show AR _ _ _ _ _ [0, 1] _;refine zm rfl <| zX rfl (mj ac rfl) ?_;rintro _ _ ⟨o9, rfl, rfl⟩;refine ah <| aQ <| cJ (X := Nat × Nat) (fun (n12, y10) => ⟨[(175, .pt o9 0)], [], [.iter o9 a1 y10]⟩) (fun (n12, y10) => gw a1 n12 y10 = some r3) (fun (n12, y10) => n12) (F, 0) H (aW [0] (.cons (.refl _) (.nil _)) rfl) ?_;rintro ⟨n12, y10⟩ H;obtain ⟨n12, rfl, H⟩ := dz H;replace H : dT a1 (gw a1 n12) y10 = some r3 := H
    unfold dT at H
    refine af ?_
    rcases ao (decide (y10 < a1.length)) with c13 | c13
    ·replace H := ba c13 H;refine aa ?_;show AR _ _ _ _ _ [0, 1] _;refine zR rfl (tF (i := 0) rfl rfl c13) <| zS rfl (aM (av := .v _) rfl rfl) <| ah <| af <| ax rfl (fun _ => ?_) (fun hx => bq rfl hx);refine aC <| aQ <| af <| aa ?_;show AR _ _ _ _ _ [0, 1, 2, 3] _;refine zS rfl (aM (av := .v _) rfl rfl) <| zS rfl (aM (av := .v _) rfl rfl) <| za rfl <| za rfl <| ah <| af <| aa ?_;show AR _ _ _ _ _ [0, 1] _;refine zm rfl <| zS rfl (bR rfl rfl) <| ah ?_;obtain ⟨g15, H⟩ := aR H;replace g15 := fn g15;refine ax rfl (fun hx => bq hx g15) (fun _ => ?_);refine aC ?_;exact Exists.intro (n12, y10 + (ll a1 y10).2) ⟨H, Nat.lt_succ_self _, aW [0] (.cons (.refl _) (.nil _)) rfl⟩
    ·replace H := bb c13 H;refine aa ?_;show AR _ _ _ _ _ [0, 1] _;refine zR rfl (tG (i := 0) rfl rfl c13) <| zS rfl (aM (av := .v _) rfl rfl) <| ah <| af <| ax rfl (fun hx => bq hx rfl) (fun _ => ?_);refine cf ?_;exact Exists.intro () ⟨H, aW [] (.nil _) rfl⟩
   rintro _ H;replace H : kT = some r3 := H
   unfold kT at H
   refine af <| aa ?_;show AR _ _ _ _ _ [0] _;refine za rfl <| ah <| aP ?_;obtain rfl := am H;exact And.intro rfl (Exists.intro _ (Exists.intro _ ⟨aF rfl (.refl _), aK [] rfl, rfl, rfl⟩))
  ·replace H := bb c8 H;refine af ?_;obtain ⟨x17, e18, H⟩ := ep H;refine aa ?_;show AR _ _ _ _ _ [0, 1, 2, 3] _;refine zm rfl <| ap rfl rfl (aI rfl wN rfl (sI F a2 x17 e18) ?_);refine zS rfl (cd rfl) <| za rfl <| ah <| ax rfl (fun c19 => ?_) (fun c19 => ?_)
   ·replace H := ba c19 H;refine af <| aa ?_;show AR _ _ _ _ _ [0] _;refine za rfl <| ah <| aP ?_;obtain rfl := am H;exact And.intro rfl (Exists.intro _ (Exists.intro _ ⟨aF rfl (.refl _), aK [] rfl, rfl, rfl⟩))
   ·replace H := bb c19 H;refine AW.scope <| af ?_;obtain ⟨x20, e21, H⟩ := bB H;refine aa ?_;show AR _ _ _ _ _ [0, 1, 2] _;refine zm rfl <| zS rfl (mG eh ac rfl e21) <| za rfl <| ah <| af ?_;obtain ⟨g22, H⟩ := aR H;refine aa ?_;show AR _ _ _ _ _ [0, 1, 2, 3] _;refine zm rfl <| zS rfl (aZ ac rfl) <| zS rfl (ld rfl rfl g22) <| za rfl <| ah <| af <| aa ?_;show AR _ _ _ _ _ [0, 1] _;refine zm rfl <| za rfl <| ah <| af <| aa ?_;show AR _ _ _ _ _ [0] _;refine za rfl <| ah <| bw (X := Unit) (fun _ => ⟨[], [], []⟩) (fun _ => ic = some r3) ?_ ?_
    ·refine aQ <| cJ (X := Nat) (fun n24 => ⟨[(0, S a1), (7, S x20), (8, i64 ((x20.length : Int) - 1)), (9, i64 ((x20.length : Int) - 1)), (10, i64 0)], [], []⟩) (fun n24 => jv a1 x20 n24 () = some r3) (fun n24 => n24) F H (aW [] (.cons (.refl _) (.cons (.refl _) (.cons (.refl _) (.cons (.refl _) (.cons (.refl _) (.nil _)))))) rfl) ?_;rintro n24 H;obtain ⟨n24, rfl, H⟩ := dz H;replace H : gx a1 x20 (jv a1 x20 n24) = some r3 := H
     unfold gx at H
     refine af <| af <| aa ?_;show AR _ _ _ _ _ [0, 1, 2, 3] _;refine zm rfl <| zm rfl <| zS rfl (aZ ac rfl) <| zS rfl (bQ rfl rfl) <| ah <| ax rfl (fun c25 => ?_) (fun c25 => ?_)
     ·replace H := ba c25 H;refine aC <| aQ <| AW.scope <| af <| af ?_;obtain ⟨g26, H⟩ := aR H;obtain ⟨x27, e28, H⟩ := bB H;obtain ⟨g29, H⟩ := aR H;obtain ⟨x30, e31, H⟩ := bB H;refine bI (by kernel_rfl) ?_;show AI _ _ _ _ _ 7 (Array.replicate 7 false) _;refine zk 0 rfl (mv rfl) ?_;show AI _ _ _ _ _ _ #[true, false, false, false, false, false, false] _;refine zk 1 rfl (mv rfl) ?_;show AI _ _ _ _ _ _ #[true, true, false, false, false, false, false] _;refine zk 2 rfl (br ac rfl rfl g26 e28) ?_;show AI _ _ _ _ _ _ #[true, true, true, false, false, false, false] _;refine zk 3 rfl (mv rfl) ?_;show AI _ _ _ _ _ _ #[true, true, true, true, false, false, false] _;refine zk 4 rfl (mv rfl) ?_;show AI _ _ _ _ _ _ #[true, true, true, true, true, false, false] _;refine zk 5 rfl (br ac rfl rfl g29 e31) ?_;show AI _ _ _ _ _ _ #[true, true, true, true, true, true, false] _;refine zk 6 rfl (g_ne8 (a := x27) (b := x30) rfl rfl) ?_;show AI _ _ _ _ _ _ #[true, true, true, true, true, true, true] _;refine cx rfl ?_;obtain ⟨g44, H⟩ := aR H;refine ax rfl (fun _ => ?_) (fun hx => bq g44 hx);refine af ?_;obtain ⟨g33, H⟩ := aR H;obtain ⟨g34, H⟩ := aR H;obtain ⟨x35, e36, H⟩ := bB H;obtain ⟨g37, H⟩ := aR H;obtain ⟨x38, e39, H⟩ := bB H;obtain ⟨x40, e41, H⟩ := bB H;refine bI (by kernel_rfl) ?_;show AI _ _ _ _ _ 9 (Array.replicate 9 false) _;refine zk 0 rfl (mv rfl) ?_;show AI _ _ _ _ _ _ #[true, false, false, false, false, false, false, false, false] _
      refine zk 1 rfl (mv rfl) ?_;show AI _ _ _ _ _ _ #[true, true, false, false, false, false, false, false, false] _;refine zk 2 rfl (cH rfl rfl g33) ?_;show AI _ _ _ _ _ _ #[true, true, true, false, false, false, false, false, false] _;refine zk 3 rfl (eD ac rfl rfl g34 e36) ?_;show AI _ _ _ _ _ _ #[true, true, true, true, false, false, false, false, false] _;refine zk 4 rfl (mv rfl) ?_;show AI _ _ _ _ _ _ #[true, true, true, true, true, false, false, false, false] _;refine zk 5 rfl (mv rfl) ?_;show AI _ _ _ _ _ _ #[true, true, true, true, true, true, false, false, false] _;refine zk 6 rfl (br ac rfl rfl g37 e39) ?_;show AI _ _ _ _ _ _ #[true, true, true, true, true, true, true, false, false] _;refine bP (i := 7) (by kernel_rfl) rfl rfl <| AIO.callp rfl tJ rfl (show ACalls _ _ _ [] (Ret (i64 x40) []) from by subst e41; exact eB x35 x38) ?_;show AI _ _ _ _ _ _ #[true, true, true, true, true, true, true, true, false] _;refine zk 8 rfl (asg rfl) ?_;show AI _ _ _ _ _ _ #[true, true, true, true, true, true, true, true, true] _;refine cx rfl <| af <| af <| aa ?_;show AR _ _ _ _ _ [0, 1] _;refine zm rfl <| zS rfl (bQ rfl rfl) <| ah ?_;obtain ⟨g43, H⟩ := aR H;refine ax rfl (fun _ => ?_) (fun hx => bq g43 hx);refine af <| aa ?_;show AR _ _ _ _ _ [0] _;refine za rfl <| ah <| aP ?_;obtain rfl := am H;exact And.intro rfl (Exists.intro _ (Exists.intro _ ⟨aF rfl (.refl _), aK [] rfl, rfl, rfl⟩))
     ·replace H := bb c25 H;refine cf ?_;exact Exists.intro () ⟨H, aW [] (.nil _) rfl⟩
    rintro _ H;replace H : ic = some r3 := H
    unfold ic at H
    refine af <| af <| aa ?_;show AR _ _ _ _ _ [0] _;refine za rfl <| ah <| aP ?_;obtain rfl := am H;exact And.intro rfl (Exists.intro _ (Exists.intro _ ⟨aF rfl (.refl _), aK [] rfl, rfl, rfl⟩))
set_option maxRecDepth 100000 in
set_option maxHeartbeats 1000000 in
theorem w_useSet (F : Nat) (a1 : Int) (r2 : Bool) (H : pQ F a1 = some r2) : ACalls Tryz.prog 148 [i64 a1] [] (Ret (B r2) []) := by
 unfold pQ at H
 refine ay Tryz.func148 rfl rfl ?_;show AW _ _ 5 _ _ _;refine af <| aa ?_;show AR _ _ _ _ _ [0] _;refine za rfl <| ah <| af <| aa ?_;show AR _ _ _ _ _ [0, 1, 2] _;refine zm rfl <| zS rfl (fw rfl rfl) <| za rfl <| ah <| aP ?_;obtain rfl := am H;exact And.intro rfl (Exists.intro _ (Exists.intro _ ⟨aF rfl (.refl _), aK [] rfl, rfl, rfl⟩))
set_option maxRecDepth 100000 in
set_option maxHeartbeats 1000000 in
theorem vG (F : Nat) (a1 : List UInt8) (a2 : List UInt8) (r3 : Int) (H : lk F a1 a2 = some r3) : ACalls Tryz.prog 133 [S a1, S a2] [] (Ret (i64 r3) []) := by
 unfold lk at H
 refine ay Tryz.func133 rfl rfl ?_;show AW _ _ 55 _ _ _;refine af <| aa ?_;show AR _ _ _ _ _ [0] _;refine za rfl <| ah <| af <| af <| aa ?_;show AR _ _ _ _ _ [0, 1] _;refine zm rfl <| zS rfl (fT rfl rfl) <| ah <| ax rfl (fun c4 => ?_) (fun c4 => ?_)
 ·replace H := ba c4 H;refine af <| aa ?_;show AR _ _ _ _ _ [0] _;refine za rfl <| ah <| aP ?_;obtain rfl := am H;exact And.intro rfl (Exists.intro _ (Exists.intro _ ⟨aF rfl (.refl _), aK [] rfl, rfl, rfl⟩))
 ·replace H := bb c4 H;refine aC <| af <| af <| aa ?_;show AR _ _ _ _ _ [0, 1, 2] _;refine zm rfl <| zS rfl (aZ ac rfl) <| zS rfl (bR rfl rfl) <| ah <| ax rfl (fun c5 => ?_) (fun c5 => ?_)
  ·replace H := ba c5 H;refine af ?_;obtain ⟨g6, H⟩ := aR H;obtain ⟨x7, e8, H⟩ := bB H;obtain ⟨g9, H⟩ := aR H;refine aa ?_;show AR _ _ _ _ _ [0, 1, 2, 3] _;refine zm rfl <| zS rfl (br ac rfl rfl g6 e8) <| zS rfl (qO (by kernel_rfl) eh rfl g9) <| za rfl <| ah <| bw (X := Int) (fun y11 => ⟨[(0, S a1), (5, .v (.int .i32 y11))], [], []⟩) (fun y11 => gy F a1 y11 = some r3) ?_ ?_
   ·refine af <| aa ?_;show AR _ _ _ _ _ [0, 1] _;refine zm rfl <| zS rfl (eC rfl rfl) <| ah <| ax rfl (fun c10 => ?_) (fun c10 => ?_)
    ·replace H := ba c10 H;refine aa ?_;show AR _ _ _ _ _ [0] _;refine za rfl <| ah ?_;exact Exists.intro 65533 ⟨H, aW [] (.cons (.refl _) (.cons (.refl _) (.nil _))) rfl⟩
    ·replace H := bb c10 H;refine aC ?_;exact Exists.intro (x7.toNat : Int) ⟨H, aW [] (.cons (.refl _) (.cons (.refl _) (.nil _))) rfl⟩
   rintro y11 H;replace H : gy F a1 y11 = some r3 := H
   unfold gy at H
   refine af ?_;obtain ⟨x13, e14, H⟩ := ep H;refine aa ?_;show AR _ _ _ _ _ [0, 1, 2, 3] _;refine zm rfl <| zm rfl <| ap rfl rfl (aI rfl rj rfl (qz F a1 y11 x13 e14) ?_);refine za rfl <| ah <| aP ?_;obtain rfl := am H;exact And.intro rfl (Exists.intro _ (Exists.intro _ ⟨aF rfl (.refl _), aK [] rfl, rfl, rfl⟩))
  ·replace H := bb c5 H;refine aC <| bw (X := Unit) (fun _ => ⟨[(0, S a1), (1, S a2)], [], []⟩) (fun _ => ie F a1 a2 = some r3) ?_ ?_
   ·refine af ?_;obtain ⟨x15, e16, H⟩ := ep H;refine aa ?_;show AR _ _ _ _ _ [0, 1, 2] _;refine zm rfl <| zS rfl (aZ ac rfl) <| ap rfl rfl (aI rfl wF rfl (w_useSet F (a1.length : Int) x15 e16) ?_);refine ah ?_;obtain ⟨g18, H⟩ := aR H;replace g18 := fn g18;refine ax rfl (fun hx => bq hx g18) (fun _ => ?_);refine aC ?_;exact Exists.intro () ⟨H, aW [] (.cons (.refl _) (.cons (.refl _) (.nil _))) rfl⟩
   rintro _ H;replace H : ie F a1 a2 = some r3 := H
   unfold ie at H
   refine bw (X := Unit) (fun _ => ⟨[], [], []⟩) (fun _ => ig = some r3) ?_ ?_
   ·refine af <| aa ?_;show AR _ _ _ _ _ [0, 1] _;refine zm rfl <| zX rfl (mj ac rfl) ?_;rintro _ _ ⟨o20, rfl, rfl⟩;refine ah <| aQ <| cJ (X := Nat × Nat) (fun (n23, y21) => ⟨[(1, S a2), (45, .pt o20 0)], [], [.iter o20 a1 y21]⟩) (fun (n23, y21) => gz F a1 a2 n23 y21 = some r3) (fun (n23, y21) => n23) (F, 0) H (aW [0] (.cons (.refl _) (.cons (.refl _) (.nil _))) rfl) ?_;rintro ⟨n23, y21⟩ H;obtain ⟨n23, rfl, H⟩ := dz H;replace H : gA F a1 a2 (gz F a1 a2 n23) y21 = some r3 := H
    unfold gA at H
    refine af ?_
    rcases ao (decide (y21 < a1.length)) with c24 | c24
    ·replace H := ba c24 H;refine aa ?_;show AR _ _ _ _ _ [0, 1] _;refine zR rfl (tF (i := 0) rfl rfl c24) <| zS rfl (aM (av := .v _) rfl rfl) <| ah <| af <| ax rfl (fun _ => ?_) (fun hx => bq rfl hx);refine aC <| aQ <| af <| aa ?_;show AR _ _ _ _ _ [0, 1, 2, 3] _;refine zS rfl (aM (av := .v _) rfl rfl) <| zS rfl (aM (av := .v _) rfl rfl) <| za rfl <| za rfl <| ah <| af ?_;obtain ⟨x25, e26, H⟩ := ep H;refine aa ?_;show AR _ _ _ _ _ [0, 1, 2, 3] _;refine zm rfl <| zm rfl <| ap rfl rfl (aI rfl rj rfl (qz F a2 ((ll a1 y21).1 : Int) x25 e26) ?_);refine zS rfl (eC rfl rfl) <| ah <| ax rfl (fun c27 => ?_) (fun c27 => ?_)
     ·replace H := ba c27 H;refine af <| aa ?_;show AR _ _ _ _ _ [0, 1] _;refine zm rfl <| za rfl <| ah <| aP ?_;obtain rfl := am H;exact And.intro rfl (Exists.intro _ (Exists.intro _ ⟨aF rfl (.refl _), aK [] rfl, rfl, rfl⟩))
     ·replace H := bb c27 H;refine aC ?_;exact Exists.intro (n23, y21 + (ll a1 y21).2) ⟨H, Nat.lt_succ_self _, aW [0] (.cons (.refl _) (.cons (.refl _) (.nil _))) rfl⟩
    ·replace H := bb c24 H;refine aa ?_;show AR _ _ _ _ _ [0, 1] _;refine zR rfl (tG (i := 0) rfl rfl c24) <| zS rfl (aM (av := .v _) rfl rfl) <| ah <| af <| ax rfl (fun hx => bq hx rfl) (fun _ => ?_);refine cf ?_;exact Exists.intro () ⟨H, aW [] (.nil _) rfl⟩
   rintro _ H;replace H : ig = some r3 := H
   unfold ig at H
   refine af <| aa ?_;show AR _ _ _ _ _ [0] _;refine za rfl <| ah <| aP ?_;obtain rfl := am H;exact And.intro rfl (Exists.intro _ (Exists.intro _ ⟨aF rfl (.refl _), aK [] rfl, rfl, rfl⟩))
theorem mW (F : Nat) (s chars : List UInt8) (x : Int) (h1 : gM chars = true) (h2 : okS s.length = true) (h3 : okS chars.length = true) (H : kC F s chars = some x) : ACalls Tryz.prog 133 [S s, S chars] [] (Ret (i64 x) []) := by
 unfold kC at H
 cases hb : (decide (8 < s.length) && decide (2 ≤ chars.length)) with
 | true =>
  rw [hb] at H
  obtain rfl := am H
  simp only [Bool.and_eq_true, decide_eq_true_eq] at hb
  refine ed fun I A w vs hI hv => ?_
  obtain ⟨v1, r1, rfl, e1, hv⟩ := hv.out_cons;obtain ⟨v2, r2, rfl, e2, hv⟩ := hv.out_cons
  rw [hv.out_nil, hP e1, hP e2]
  refine (Tryz.strings_IndexAny_long (fun _ => by kernel_rfl) ⟨s.toArray⟩ ⟨chars.toArray⟩ w (by simpa [ByteArray.size] using hb.2) (by simpa [ByteArray.size] using hb.1) (by simpa [ByteArray.size] using mI h2) (by simpa [ByteArray.size] using mI h3) (fun j b hj => pN h1 j b (by simpa using hj))).mono fun e w' ⟨he, hw⟩ => ⟨by simpa using he, ?_⟩
  subst hw;exact ((Below.refl _ _).alloc (Nat.le_refl _) _).alloc (by simp) _
 | false => rw [hb] at H; exact vG F s chars x H
set_option maxRecDepth 100000 in
set_option maxHeartbeats 1000000 in
theorem qc (F : Nat) (a1 : List UInt8) (a2 : List UInt8) (r3 : Bool) (H : fG F a1 a2 = some r3) : ACalls Tryz.prog 158 [S a1, S a2] [] (Ret (B r3) []) := by
 unfold fG at H
 refine ay Tryz.func158 rfl rfl ?_;show AW _ _ 9 _ _ _;refine af <| aa ?_;show AR _ _ _ _ _ [0] _;refine za rfl <| ah <| af ?_;obtain ⟨g4, H⟩ := aR H;obtain ⟨g5, H⟩ := aR H;obtain ⟨g6, H⟩ := aR H;obtain ⟨x7, e8, H⟩ := ep H;refine aa ?_;show AR _ _ _ _ _ [0, 1, 2, 3, 4] _;refine zm rfl <| zm rfl <| ap rfl rfl (aI rfl wI rfl (mW F a1 a2 x7 g4 g5 g6 e8) ?_);refine zS rfl (eC rfl rfl) <| za rfl <| ah <| aP ?_;obtain rfl := am H;exact And.intro rfl (Exists.intro _ (Exists.intro _ ⟨aF rfl (.refl _), aK [] rfl, rfl, rfl⟩))
end Go.Proofs.YteokdkimegepoaaGreatDoor
namespace Go.Pv
def hC (F : Nat) (a1 : Int) : Option ((List UInt8) × Bool) :=
jE (!(((decide (a1 = 9)) || (decide (a1 = 10))) || (decide (a1 = 13)))) (kD F a1 32 55295) fun x7 =>
jE ((!(((decide (a1 = 9)) || (decide (a1 = 10))) || (decide (a1 = 13)))) && (!x7)) (kD F a1 57344 65533) fun x10 =>
jE (((!(((decide (a1 = 9)) || (decide (a1 = 10))) || (decide (a1 = 13)))) && (!x7)) && (!x10)) (kD F a1 65536 1114111) fun x13 =>
bif (((!(((decide (a1 = 9)) || (decide (a1 = 10))) || (decide (a1 = 13)))) && (!x7)) && (!x10)) && (!x13) then
  some (([] : List UInt8), false)
else
  grd (okJ a1) <|
  lt (cA a1) fun x17 =>
  some (x17, true)
def jp (F : Nat) : Option ((List (List UInt8 × Int))) :=
some ([(([97, 109, 112] : List UInt8), 38), (([108, 116] : List UInt8), 60), (([103, 116] : List UInt8), 62), (([113, 117, 111, 116] : List UInt8), 34), (([97, 112, 111, 115] : List UInt8), 39)] : List (List UInt8 × Int))
def du (F : Nat) (a1 : List UInt8) (a2 : Int) : Option ((List UInt8) × Bool) :=
eK (!(decide (a1 = ([] : List UInt8)))) (ce 0 a1.length) <|
lt (at_ a1 0) fun x7 =>
eK (!((decide (a1 = ([] : List UInt8))) || (decide (x7 = 43)))) (ce 0 a1.length) <|
lt (at_ a1 0) fun x11 =>
eK (!(((decide (a1 = ([] : List UInt8))) || (decide (x7 = 43))) || (decide (x11 = 45)))) (ce 0 a1.length) <|
lt (at_ a1 0) fun x15 =>
jE (!((((decide (a1 = ([] : List UInt8))) || (decide (x7 = 43))) || (decide (x11 = 45))) || (decide (x15 = 95)))) (fG F a1 ([95] : List UInt8)) fun x18 =>
bif ((((decide (a1 = ([] : List UInt8))) || (decide (x7 = 43))) || (decide (x11 = 45))) || (decide (x15 = 95))) || x18 then
  some (([] : List UInt8), false)
else
  gY (dd F a1 a2 0) fun x21 x22 =>
  bif !decide (x22 = 0) then
    some (([] : List UInt8), false)
  else
    gY (hC F x21) fun x25 x26 =>
    some (x25, x26)
def gr (F : Nat) (a1 : List UInt8) : Option ((List UInt8) × Bool) :=
bnd (jp F) fun x4 =>
bif Go.Av.mhas x4 a1 then
  lt (cA (Go.Av.mget x4 a1)) fun x7 =>
  some (x7, true)
else
  lt (Go.Lib.trimPrefix a1 ([35, 120] : List UInt8), Go.Lib.hasPrefix a1 ([35, 120] : List UInt8)) fun x9 =>
  bif x9.2 then
    gY (du F x9.1 16) fun x12 x13 =>
    some (x12, x13)
  else
    lt (Go.Lib.trimPrefix a1 ([35] : List UInt8), Go.Lib.hasPrefix a1 ([35] : List UInt8)) fun x15 =>
    bif x15.2 then
      gY (du F x15.1 10) fun x18 x19 =>
      some (x18, x19)
    else
      some (([] : List UInt8), false)
def ij (F : Nat) (a1 : List UInt8) : Option ((List UInt8) × Int) :=
grd (kA 1 a1.length) <|
lt (dk a1 1) fun x5 =>
grd (gM ([38, 59] : List UInt8)) <|
grd (okS x5.length) <|
grd (okS ([38, 59] : List UInt8).length) <|
bnd (kC F x5 ([38, 59] : List UInt8)) fun x10 =>
bnd (kD F x10 1 10) fun x12 =>
eK (!(!x12)) (okI (x10 + 1)) <|
eK (!(!x12)) (ce (x10 + 1) a1.length) <|
lt (at_ a1 (x10 + 1)) fun x17 =>
bif (!x12) || (decide (x17 = 38)) then
  some (([] : List UInt8), 0)
else
  grd (okI (x10 + 1)) <|
  grd (rY 1 (x10 + 1) a1.length) <|
  lt (sub a1 1 (x10 + 1)) fun x22 =>
  gY (gr F x22) fun x24 x25 =>
  bif !x25 then
    some (([] : List UInt8), 0)
  else
    grd (okI (x10 + 2)) <|
    some (x24, x10 + 2)
def fC (rec11 : ((List UInt8) × Bool × (List UInt8)) → Option ((List UInt8) × Bool)) (x25 : List UInt8) (x29 : List UInt8) (y35 : Bool) (y36 : List UInt8) (y37 : Int) : Option ((List UInt8) × Bool) :=
grd (okW x25 y36) <|
lt (x25 ++ y36) fun x40 =>
grd (kA y37 x29.length) <|
lt (dk x29 y37) fun x44 =>
rec11 (x44, y35, x40)
def fD (F : Nat) (rec11 : ((List UInt8) × Bool × (List UInt8)) → Option ((List UInt8) × Bool)) (y6 : List UInt8) (y7 : Bool) (y9 : List UInt8) : Option ((List UInt8) × Bool) :=
lt (Go.Lib.indexByte y6 38) fun x13 =>
bif decide (x13 < 0) then
  grd (okW y9 y6) <|
  lt (y9 ++ y6) fun x17 =>
  grd (okW x17 []) <|
  some (x17, y7)
else
  grd (kA x13 y6.length) <|
  lt (to_ y6 x13) fun x22 =>
  grd (okW y9 x22) <|
  lt (y9 ++ x22) fun x25 =>
  grd (kA x13 y6.length) <|
  lt (dk y6 x13) fun x29 =>
  gY (ij F x29) fun x31 x32 =>
  bif decide (x32 = 0) then
    fC rec11 x25 x29 false ([38] : List UInt8) 1
  else
    fC rec11 x25 x29 y7 x31 x32
def eo (F : Nat) (n : Nat) : ((List UInt8) × Bool × (List UInt8)) → Option ((List UInt8) × Bool) :=
  loop (fun rec x => fD F rec x.1 x.2.1 x.2.2) n
def lH (F : Nat) (a1 : List UInt8) : Option ((List UInt8) × Bool) :=
eo F F (a1, true, [])
def jw (F : Nat) (a1 : List UInt8) : Option ((List UInt8) × Int) :=
gY (lH F a1) fun x4 x5 =>
bif !x5 then
  some (([] : List UInt8), 2)
else
  some (x4, 0)
end Go.Pv
namespace Go.Proofs.YteokdkimegepoaaGreatDoor
open Go.RowKit Go.Av Go.Pv
theorem nS : ∀ (args : Array Value) (w : World), (callFunc 28 args).run Tryz.prog w = .ok (.enter 28 args) w := fun _ _ => by kernel_rfl
theorem wu : ∀ (args : Array Value) (w : World), (callFunc 30 args).run Tryz.prog w = .ok (.enter 30 args) w := fun _ _ => by kernel_rfl
theorem wk : ∀ (args : Array Value) (w : World), (callFunc 62 args).run Tryz.prog w = .ok (.enter 62 args) w := fun _ _ => by kernel_rfl
theorem qT : ∀ (args : Array Value) (w : World), (callFunc 93 args).run Tryz.prog w = .ok (.enter 93 args) w := fun _ _ => by kernel_rfl
theorem uJ : ∀ (args : Array Value) (w : World), (callFunc 108 args).run Tryz.prog w = .ok (.enter 108 args) w := fun _ _ => by kernel_rfl
theorem uI : ∀ (args : Array Value) (w : World), (callFunc 122 args).run Tryz.prog w = .ok (.enter 122 args) w := fun _ _ => by kernel_rfl
theorem uH : ∀ (args : Array Value) (w : World), (callFunc 133 args).run Tryz.prog w = .ok (.enter 133 args) w := fun _ _ => by kernel_rfl
theorem kW : ∀ (args : Array Value) (w : World), (callFunc 134 args).run Tryz.prog w = .ok (.enter 134 args) w := fun _ _ => by kernel_rfl
theorem uG : ∀ (args : Array Value) (w : World), (callFunc 135 args).run Tryz.prog w = .ok (.enter 135 args) w := fun _ _ => by kernel_rfl
theorem uF : ∀ (args : Array Value) (w : World), (callFunc 149 args).run Tryz.prog w = .ok (.enter 149 args) w := fun _ _ => by kernel_rfl
theorem py : ∀ (args : Array Value) (w : World), (callFunc 150 args).run Tryz.prog w = .ok (.enter 150 args) w := fun _ _ => by kernel_rfl
theorem uE : ∀ (args : Array Value) (w : World), (callFunc 158 args).run Tryz.prog w = .ok (.enter 158 args) w := fun _ _ => by kernel_rfl
theorem uD : ∀ (args : Array Value) (w : World), (callFunc 159 args).run Tryz.prog w = .ok (.enter 159 args) w := fun _ _ => by kernel_rfl
theorem uC : ∀ (args : Array Value) (w : World), (callFunc 160 args).run Tryz.prog w = .ok (.enter 160 args) w := fun _ _ => by kernel_rfl
set_option maxRecDepth 100000 in
set_option maxHeartbeats 1000000 in
theorem ue (F : Nat) (a1 : Int) (r2 : List UInt8) (r3 : Bool) (H : hC F a1 = some (r2, r3)) : ACalls Tryz.prog 160 [i64 a1] [] (Ret (.tup [S r2, B r3]) []) := by
 unfold hC at H
 refine ay Tryz.func160 rfl rfl ?_;show AW _ _ 35 _ _ _;refine af <| aa ?_;show AR _ _ _ _ _ [0, 1] _;refine za rfl <| za rfl <| ah <| af <| aa ?_;show AR _ _ _ _ _ [0, 1, 2, 3, 4, 5, 6, 7, 8, 9, 10] _;refine zm rfl <| zS rfl (bR rfl rfl) <| zm rfl <| bi (l := [6, 7, 8, 9, 10]) 10 (B ((decide (a1 = 9)) || (decide (a1 = 10)))) (fun K => ?_) ?_
 ·rcases ao (decide (a1 = 9)) with h4 | h4
  ·refine zF h4 rfl <| zF h4 rfl <| zS rfl (aL (av := .v _) rfl h4 rfl) ?_;exact K _ 2 _ (az (ky h4)) rfl rfl
  ·refine zM h4 rfl <| zU h4 rfl (bR rfl rfl) <| zS rfl (aJ (av := .v _) rfl h4 rfl) ?_;exact K _ 2 _ (az (kz h4)) rfl rfl
 refine zm rfl <| bi (l := [10]) 14 (B (((decide (a1 = 9)) || (decide (a1 = 10))) || (decide (a1 = 13)))) (fun K => ?_) ?_
 ·rcases ao ((decide (a1 = 9)) || (decide (a1 = 10))) with h5 | h5
  ·refine zF h5 rfl <| zF h5 rfl <| zS rfl (aL (av := .v _) rfl h5 rfl) ?_;exact K _ 2 _ (az (ky h5)) rfl rfl
  ·refine zM h5 rfl <| zU h5 rfl (bR rfl rfl) <| zS rfl (aJ (av := .v _) rfl h5 rfl) ?_;exact K _ 2 _ (az (kz h5)) rfl rfl
 refine za rfl <| ah <| af <| af ?_;obtain ⟨x7, e8, H⟩ := eX H;obtain ⟨x10, e11, H⟩ := eX H;obtain ⟨x13, e14, H⟩ := eX H;refine aa ?_;show AR _ _ _ _ _ [0, 1, 2, 3, 4, 5, 6, 7, 8, 9, 10, 11, 12, 13, 14, 15, 16] _;refine zm rfl <| zS rfl (cd rfl) <| zm rfl <| bi (l := [7, 8, 9, 10, 11, 12, 13, 14, 15, 16]) 21 (B ((!(((decide (a1 = 9)) || (decide (a1 = 10))) || (decide (a1 = 13)))) && (!x7))) (fun K => ?_) ?_
 ·rcases ao (!(((decide (a1 = 9)) || (decide (a1 = 10))) || (decide (a1 = 13)))) with h6 | h6
  ·refine zM h6 rfl <| zT h6 rfl (aI rfl kW rfl (nh F a1 32 55295 x7 (e8 h6)) ?_);refine zU h6 rfl (cd rfl) <| zS rfl (aL (av := .v _) rfl h6 rfl) ?_;exact K _ 3 _ (az (cQ h6)) rfl rfl
  ·refine zF h6 rfl <| zF h6 rfl <| zF h6 rfl <| zS rfl (aJ (av := .v _) rfl h6 rfl) ?_;exact K _ 3 _ (az (cR h6)) rfl rfl
 refine zm rfl <| bi (l := [12, 13, 14, 15, 16]) 26 (B (((!(((decide (a1 = 9)) || (decide (a1 = 10))) || (decide (a1 = 13)))) && (!x7)) && (!x10))) (fun K => ?_) ?_
 ·rcases ao ((!(((decide (a1 = 9)) || (decide (a1 = 10))) || (decide (a1 = 13)))) && (!x7)) with h9 | h9
  ·refine zM h9 rfl <| zT h9 rfl (aI rfl kW rfl (nh F a1 57344 65533 x10 (e11 h9)) ?_);refine zU h9 rfl (cd rfl) <| zS rfl (aL (av := .v _) rfl h9 rfl) ?_;exact K _ 3 _ (az (cQ h9)) rfl rfl
  ·refine zF h9 rfl <| zF h9 rfl <| zF h9 rfl <| zS rfl (aJ (av := .v _) rfl h9 rfl) ?_;exact K _ 3 _ (az (cR h9)) rfl rfl
 refine zm rfl <| bi (l := []) 31 (B ((((!(((decide (a1 = 9)) || (decide (a1 = 10))) || (decide (a1 = 13)))) && (!x7)) && (!x10)) && (!x13))) (fun K => ?_) ?_
 ·rcases ao (((!(((decide (a1 = 9)) || (decide (a1 = 10))) || (decide (a1 = 13)))) && (!x7)) && (!x10)) with h12 | h12
  ·refine zM h12 rfl <| zT h12 rfl (aI rfl kW rfl (nh F a1 65536 1114111 x13 (e14 h12)) ?_);refine zU h12 rfl (cd rfl) <| zS rfl (aL (av := .v _) rfl h12 rfl) ?_;exact K _ 3 _ (az (cQ h12)) rfl rfl
  ·refine zF h12 rfl <| zF h12 rfl <| zF h12 rfl <| zS rfl (aJ (av := .v _) rfl h12 rfl) ?_;exact K _ 3 _ (az (cR h12)) rfl rfl
 refine ah <| ax rfl (fun c15 => ?_) (fun c15 => ?_)
 ·replace H := ba c15 H;refine af <| aa ?_;show AR _ _ _ _ _ [0, 1] _;refine za rfl <| za rfl <| ah <| aP ?_;obtain ⟨rfl, rfl⟩ := fW H;exact And.intro rfl (Exists.intro _ (Exists.intro _ ⟨bC rfl (.refl _) (.refl _), aK [] rfl, rfl, rfl⟩))
 ·replace H := bb c15 H;refine aC <| af ?_;obtain ⟨g16, H⟩ := aR H;obtain ⟨x17, e18, H⟩ := bB H;refine aa ?_;show AR _ _ _ _ _ [0, 1, 2, 3, 4] _;refine zm rfl <| zS rfl (qO (by kernel_rfl) eh rfl g16) <| zS rfl (mG eh ac rfl e18) <| za rfl <| za rfl <| ah <| aP ?_;obtain ⟨rfl, rfl⟩ := fW H;exact And.intro rfl (Exists.intro _ (Exists.intro _ ⟨bC rfl (.refl _) (.refl _), aK [] rfl, rfl, rfl⟩))
abbrev _root_.Go.Av.dQ := @Tryz.underlying181
set_option maxRecDepth 100000 in
set_option maxHeartbeats 1000000 in
theorem sE (F : Nat) (r1 : List (List UInt8 × Int)) (H : jp F = some r1) : ACalls Tryz.prog 149 [] [] (Ret (mpI .i32 r1) []) := by
 unfold jp at H
 refine ay Tryz.func149 rfl rfl ?_;show AW _ _ 3 _ _ _;refine af <| aa ?_;show AR _ _ _ _ _ [0] _;refine za rfl <| ah <| af <| aa ?_;show AR _ _ _ _ _ [0, 1, 2, 3, 4, 5, 6, 7] _;refine AM.make (k := .i32) rfl rfl <| AM.insert (s := ([97, 109, 112] : List UInt8)) rfl dQ ac rfl (by decide) <| AM.insert (s := ([108, 116] : List UInt8)) rfl dQ ac rfl (by decide) <| AM.insert (s := ([103, 116] : List UInt8)) rfl dQ ac rfl (by decide) <| AM.insert (s := ([113, 117, 111, 116] : List UInt8)) rfl dQ ac rfl (by decide) <| AM.insert (s := ([97, 112, 111, 115] : List UInt8)) rfl dQ ac rfl (by decide) <| AM.done (es := ([(([97, 109, 112] : List UInt8), 38), (([108, 116] : List UInt8), 60), (([103, 116] : List UInt8), 62), (([113, 117, 111, 116] : List UInt8), 34), (([97, 112, 111, 115] : List UInt8), 39)] : List (List UInt8 × Int))) <| zS rfl (ai (av := mpI _ _) rfl) <| zS rfl (aO (av := mpI _ _) rfl) <| ah <| aP ?_;obtain rfl := am H;exact And.intro rfl (Exists.intro _ (Exists.intro _ ⟨aF rfl (.refl _), aK [] rfl, rfl, rfl⟩))
set_option maxRecDepth 100000 in
set_option maxHeartbeats 1000000 in
theorem mR (F : Nat) (a1 : List UInt8) (a2 : Int) (r3 : List UInt8) (r4 : Bool) (H : du F a1 a2 = some (r3, r4)) : ACalls Tryz.prog 150 [S a1, i64 a2] [] (Ret (.tup [S r3, B r4]) []) := by
 unfold du at H
 refine ay Tryz.func150 rfl rfl ?_;show AW _ _ 41 _ _ _;refine af <| aa ?_;show AR _ _ _ _ _ [0, 1] _;refine za rfl <| za rfl <| ah <| af <| af ?_;obtain ⟨g6, H⟩ := cC H;obtain ⟨x7, e8, H⟩ := bB H;obtain ⟨g10, H⟩ := cC H;obtain ⟨x11, e12, H⟩ := bB H;obtain ⟨g14, H⟩ := cC H;obtain ⟨x15, e16, H⟩ := bB H;obtain ⟨x18, e19, H⟩ := eX H;refine aa ?_;show AR _ _ _ _ _ [0, 1, 2, 3, 4, 5, 6, 7, 8, 9, 10, 11, 12, 13, 14, 15, 16, 17, 18, 19, 20] _;refine zm rfl <| zS rfl (fT rfl rfl) <| zm rfl <| bi (l := [7, 8, 9, 10, 11, 12, 13, 14, 15, 16, 17, 18, 19, 20]) 14 (B ((decide (a1 = ([] : List UInt8))) || (decide (x7 = 43)))) (fun K => ?_) ?_
 ·rcases ao (decide (a1 = ([] : List UInt8))) with h5 | h5
  ·refine zF h5 rfl <| zF h5 rfl <| zF h5 rfl <| zS rfl (aL (av := .v _) rfl h5 rfl) ?_;exact K _ 3 _ (az (ky h5)) rfl rfl
  ·refine zM h5 rfl <| zU h5 rfl (br ac rfl rfl (g6 (nf h5)) e8) <| zU h5 rfl (jz (a := x7) (b := 43) rfl rfl) <| zS rfl (aJ (av := .v _) rfl h5 rfl) ?_;exact K _ 3 _ (az (kz h5)) rfl rfl
 refine zm rfl <| bi (l := [12, 13, 14, 15, 16, 17, 18, 19, 20]) 19 (B (((decide (a1 = ([] : List UInt8))) || (decide (x7 = 43))) || (decide (x11 = 45)))) (fun K => ?_) ?_
 ·rcases ao ((decide (a1 = ([] : List UInt8))) || (decide (x7 = 43))) with h9 | h9
  ·refine zF h9 rfl <| zF h9 rfl <| zF h9 rfl <| zS rfl (aL (av := .v _) rfl h9 rfl) ?_;exact K _ 3 _ (az (ky h9)) rfl rfl
  ·refine zM h9 rfl <| zU h9 rfl (br ac rfl rfl (g10 (nf h9)) e12) <| zU h9 rfl (jz (a := x11) (b := 45) rfl rfl) <| zS rfl (aJ (av := .v _) rfl h9 rfl) ?_;exact K _ 3 _ (az (kz h9)) rfl rfl
 refine zm rfl <| bi (l := [17, 18, 19, 20]) 24 (B ((((decide (a1 = ([] : List UInt8))) || (decide (x7 = 43))) || (decide (x11 = 45))) || (decide (x15 = 95)))) (fun K => ?_) ?_
 ·rcases ao (((decide (a1 = ([] : List UInt8))) || (decide (x7 = 43))) || (decide (x11 = 45))) with h13 | h13
  ·refine zF h13 rfl <| zF h13 rfl <| zF h13 rfl <| zS rfl (aL (av := .v _) rfl h13 rfl) ?_;exact K _ 3 _ (az (ky h13)) rfl rfl
  ·refine zM h13 rfl <| zU h13 rfl (br ac rfl rfl (g14 (nf h13)) e16) <| zU h13 rfl (jz (a := x15) (b := 95) rfl rfl) <| zS rfl (aJ (av := .v _) rfl h13 rfl) ?_;exact K _ 3 _ (az (kz h13)) rfl rfl
 refine zm rfl <| bi (l := []) 28 (B (((((decide (a1 = ([] : List UInt8))) || (decide (x7 = 43))) || (decide (x11 = 45))) || (decide (x15 = 95))) || x18)) (fun K => ?_) ?_
 ·rcases ao ((((decide (a1 = ([] : List UInt8))) || (decide (x7 = 43))) || (decide (x11 = 45))) || (decide (x15 = 95))) with h17 | h17
  ·refine zF h17 rfl <| zF h17 rfl <| zS rfl (aL (av := .v _) rfl h17 rfl) ?_;exact K _ 2 _ (az (ky h17)) rfl rfl
  ·refine zM h17 rfl <| zT h17 rfl (aI rfl uE rfl (qc F a1 ([95] : List UInt8) x18 (e19 (nf h17))) ?_);refine zS rfl (aJ (av := .v _) rfl h17 rfl) ?_;exact K _ 2 _ (az (kz h17)) rfl rfl
 refine ah <| ax rfl (fun c20 => ?_) (fun c20 => ?_)
 ·replace H := ba c20 H;refine af <| aa ?_;show AR _ _ _ _ _ [0, 1] _;refine za rfl <| za rfl <| ah <| aP ?_;obtain ⟨rfl, rfl⟩ := fW H;exact And.intro rfl (Exists.intro _ (Exists.intro _ ⟨bC rfl (.refl _) (.refl _), aK [] rfl, rfl, rfl⟩))
 ·replace H := bb c20 H;refine aC <| af ?_;obtain ⟨x21, x22, e23, H⟩ := cU H;refine aa ?_;show AR _ _ _ _ _ [0, 1, 2, 3, 4, 5, 6, 7] _;refine zm rfl <| zm rfl <| ap rfl rfl (aI rfl uD rfl (mt F a1 a2 0 x21 x22 e23) ?_);refine zS rfl (ai (av := .tup _) rfl) <| zS rfl (aM (av := .v _) rfl rfl) <| zS rfl (aM (av := eAny _ _) rfl rfl) <| za rfl <| zS rfl (aO (av := eAny _ _) rfl) <| ah <| af <| af <| aa ?_;show AR _ _ _ _ _ [0, 1] _;refine zS rfl (ai (av := eAny _ _) rfl) <| zS rfl (uv eg rfl rfl) <| ah <| ax rfl (fun c24 => ?_) (fun c24 => ?_)
  ·replace H := ba c24 H;refine af <| aa ?_;show AR _ _ _ _ _ [0, 1] _;refine za rfl <| za rfl <| ah <| aP ?_;obtain ⟨rfl, rfl⟩ := fW H;exact And.intro rfl (Exists.intro _ (Exists.intro _ ⟨bC rfl (.refl _) (.refl _), aK [] rfl, rfl, rfl⟩))
  ·replace H := bb c24 H;refine aC <| af ?_;obtain ⟨x25, x26, e27, H⟩ := cU H;refine aa ?_;show AR _ _ _ _ _ [0, 1, 2, 3, 4, 5] _;refine zm rfl <| ap rfl rfl (aI rfl uC rfl (ue F x21 x25 x26 e27) ?_);refine zS rfl (aM (av := .v _) rfl rfl) <| zS rfl (aM (av := .v _) rfl rfl) <| za rfl <| za rfl <| ah <| aP ?_;obtain ⟨rfl, rfl⟩ := fW H;exact And.intro rfl (Exists.intro _ (Exists.intro _ ⟨bC rfl (.refl _) (.refl _), aK [] rfl, rfl, rfl⟩))
set_option maxRecDepth 100000 in
set_option maxHeartbeats 1000000 in
theorem uc (F : Nat) (a1 : List UInt8) (r2 : List UInt8) (r3 : Bool) (H : gr F a1 = some (r2, r3)) : ACalls Tryz.prog 135 [S a1] [] (Ret (.tup [S r2, B r3]) []) := by
 unfold gr at H
 refine ay Tryz.func135 rfl rfl ?_;show AW _ _ 39 _ _ _;refine af <| aa ?_;show AR _ _ _ _ _ [0, 1] _;refine za rfl <| za rfl <| ah <| af <| af ?_;obtain ⟨x4, e5, H⟩ := ep H;refine aa ?_;show AR _ _ _ _ _ [0, 1, 2, 3, 4, 5, 6, 7] _;refine ap rfl rfl (aI rfl uF rfl (sE F x4 e5) ?_);refine zm rfl <| zS rfl (vS dQ ac (fun _ => by kernel_rfl) rfl rfl) <| zS rfl (ai (av := .tup _) rfl) <| zS rfl (aM (av := .v _) rfl rfl) <| zS rfl (aM (av := .v _) rfl rfl) <| za rfl <| za rfl <| ah <| af <| aa ?_;show AR _ _ _ _ _ [0] _;refine zm rfl <| ah <| ax rfl (fun c6 => ?_) (fun c6 => ?_)
 ·replace H := ba c6 H;refine af ?_;obtain ⟨x7, e8, H⟩ := bB H;refine aa ?_;show AR _ _ _ _ _ [0, 1, 2, 3] _;refine zm rfl <| zS rfl (mG eh ac rfl e8) <| za rfl <| za rfl <| ah <| aP ?_;obtain ⟨rfl, rfl⟩ := fW H;exact And.intro rfl (Exists.intro _ (Exists.intro _ ⟨bC rfl (.refl _) (.refl _), aK [] rfl, rfl, rfl⟩))
 ·replace H := bb c6 H;refine aC <| af <| af ?_;obtain ⟨x9, e10, H⟩ := bB H;refine aa ?_;show AR _ _ _ _ _ [0, 1, 2, 3, 4, 5, 6] _;refine zm rfl <| ap rfl rfl (aI rfl qT rfl (show ACalls _ _ _ [] (Ret (.tup [S x9.1, B x9.2]) []) from by subst e10; exact kh a1 ([35, 120] : List UInt8)) ?_);refine zS rfl (ai (av := .tup _) rfl) <| zS rfl (aM (av := .v _) rfl rfl) <| zS rfl (aM (av := .v _) rfl rfl) <| za rfl <| za rfl <| ah <| af <| aa ?_;show AR _ _ _ _ _ [0] _;refine zm rfl <| ah <| ax rfl (fun c11 => ?_) (fun c11 => ?_)
  ·replace H := ba c11 H;refine af ?_;obtain ⟨x12, x13, e14, H⟩ := cU H;refine aa ?_;show AR _ _ _ _ _ [0, 1, 2, 3, 4, 5] _;refine zm rfl <| ap rfl rfl (aI rfl py rfl (mR F x9.1 16 x12 x13 e14) ?_);refine zS rfl (aM (av := .v _) rfl rfl) <| zS rfl (aM (av := .v _) rfl rfl) <| za rfl <| za rfl <| ah <| aP ?_;obtain ⟨rfl, rfl⟩ := fW H;exact And.intro rfl (Exists.intro _ (Exists.intro _ ⟨bC rfl (.refl _) (.refl _), aK [] rfl, rfl, rfl⟩))
  ·replace H := bb c11 H;refine aC <| af <| af ?_;obtain ⟨x15, e16, H⟩ := bB H;refine aa ?_;show AR _ _ _ _ _ [0, 1, 2, 3, 4, 5, 6] _;refine zm rfl <| ap rfl rfl (aI rfl qT rfl (show ACalls _ _ _ [] (Ret (.tup [S x15.1, B x15.2]) []) from by subst e16; exact kh a1 ([35] : List UInt8)) ?_);refine zS rfl (ai (av := .tup _) rfl) <| zS rfl (aM (av := .v _) rfl rfl) <| zS rfl (aM (av := .v _) rfl rfl) <| za rfl <| za rfl <| ah <| af <| aa ?_;show AR _ _ _ _ _ [0] _;refine zm rfl <| ah <| ax rfl (fun c17 => ?_) (fun c17 => ?_)
   ·replace H := ba c17 H;refine af ?_;obtain ⟨x18, x19, e20, H⟩ := cU H;refine aa ?_;show AR _ _ _ _ _ [0, 1, 2, 3, 4, 5] _;refine zm rfl <| ap rfl rfl (aI rfl py rfl (mR F x15.1 10 x18 x19 e20) ?_);refine zS rfl (aM (av := .v _) rfl rfl) <| zS rfl (aM (av := .v _) rfl rfl) <| za rfl <| za rfl <| ah <| aP ?_;obtain ⟨rfl, rfl⟩ := fW H;exact And.intro rfl (Exists.intro _ (Exists.intro _ ⟨bC rfl (.refl _) (.refl _), aK [] rfl, rfl, rfl⟩))
   ·replace H := bb c17 H;refine aC <| af <| aa ?_;show AR _ _ _ _ _ [0, 1] _;refine za rfl <| za rfl <| ah <| aP ?_;obtain ⟨rfl, rfl⟩ := fW H;exact And.intro rfl (Exists.intro _ (Exists.intro _ ⟨bC rfl (.refl _) (.refl _), aK [] rfl, rfl, rfl⟩))
set_option maxRecDepth 100000 in
set_option maxHeartbeats 1000000 in
theorem sF (F : Nat) (a1 : List UInt8) (r2 : List UInt8) (r3 : Int) (H : ij F a1 = some (r2, r3)) : ACalls Tryz.prog 122 [S a1] [] (Ret (.tup [S r2, i64 r3]) []) := by
 unfold ij at H
 refine ay Tryz.func122 rfl rfl ?_;show AW _ _ 33 _ _ _;refine af <| aa ?_;show AR _ _ _ _ _ [0, 1] _;refine za rfl <| za rfl <| ah <| af ?_;obtain ⟨g4, H⟩ := aR H;obtain ⟨x5, e6, H⟩ := bB H;obtain ⟨g7, H⟩ := aR H;obtain ⟨g8, H⟩ := aR H;obtain ⟨g9, H⟩ := aR H;obtain ⟨x10, e11, H⟩ := ep H;refine aa ?_;show AR _ _ _ _ _ [0, 1, 2, 3] _;refine zm rfl <| zS rfl (eD ac rfl rfl g4 e6) <| ap rfl rfl (aI rfl uH rfl (mW F x5 ([38, 59] : List UInt8) x10 g7 g8 g9 e11) ?_);refine za rfl <| ah <| af <| af ?_;obtain ⟨x12, e13, H⟩ := ep H;obtain ⟨g15, H⟩ := cC H;obtain ⟨g16, H⟩ := cC H;obtain ⟨x17, e18, H⟩ := bB H;refine aa ?_;show AR _ _ _ _ _ [0, 1, 2, 3, 4, 5, 6, 7, 8, 9] _;refine zm rfl <| ap rfl rfl (aI rfl kW rfl (nh F x10 1 10 x12 e13) ?_);refine zS rfl (cd rfl) <| zm rfl <| bi (l := []) 19 (B ((!x12) || (decide (x17 = 38)))) (fun K => ?_) ?_
 ·rcases ao (!x12) with h14 | h14
  ·refine zF h14 rfl <| zF h14 rfl <| zF h14 rfl <| zF h14 rfl <| zF h14 rfl <| zS rfl (aL (av := .v _) rfl h14 rfl) ?_;exact K _ 5 _ (az (ky h14)) rfl rfl
  ·refine zM h14 rfl <| zM h14 rfl <| zU h14 rfl (cH rfl rfl (g15 (nf h14))) <| zU h14 rfl (br ac rfl rfl (g16 (nf h14)) e18) <| zU h14 rfl (jz (a := x17) (b := 38) rfl rfl) <| zS rfl (aJ (av := .v _) rfl h14 rfl) ?_;exact K _ 5 _ (az (kz h14)) rfl rfl
 refine ah <| ax rfl (fun c19 => ?_) (fun c19 => ?_)
 ·replace H := ba c19 H;refine af <| aa ?_;show AR _ _ _ _ _ [0, 1] _;refine za rfl <| za rfl <| ah <| aP ?_;obtain ⟨rfl, rfl⟩ := fW H;exact And.intro rfl (Exists.intro _ (Exists.intro _ ⟨bC rfl (.refl _) (.refl _), aK [] rfl, rfl, rfl⟩))
 ·replace H := bb c19 H;refine aC <| af ?_;obtain ⟨g20, H⟩ := aR H;obtain ⟨g21, H⟩ := aR H;obtain ⟨x22, e23, H⟩ := bB H;obtain ⟨x24, x25, e26, H⟩ := cU H;refine aa ?_;show AR _ _ _ _ _ [0, 1, 2, 3, 4, 5, 6, 7, 8, 9] _;refine zm rfl <| zm rfl <| zS rfl (cH rfl rfl g20) <| zS rfl (oq ac rfl rfl rfl g21 e23) <| ap rfl rfl (aI rfl uG rfl (uc F x22 x24 x25 e26) ?_);refine zS rfl (ai (av := .tup _) rfl) <| zS rfl (aM (av := .v _) rfl rfl) <| zS rfl (aM (av := .v _) rfl rfl) <| za rfl <| za rfl <| ah <| af <| af <| aa ?_;show AR _ _ _ _ _ [0, 1] _;refine zm rfl <| zS rfl (cd rfl) <| ah <| ax rfl (fun c27 => ?_) (fun c27 => ?_)
  ·replace H := ba c27 H;refine af <| aa ?_;show AR _ _ _ _ _ [0, 1] _;refine za rfl <| za rfl <| ah <| aP ?_;obtain ⟨rfl, rfl⟩ := fW H;exact And.intro rfl (Exists.intro _ (Exists.intro _ ⟨bC rfl (.refl _) (.refl _), aK [] rfl, rfl, rfl⟩))
  ·replace H := bb c27 H;refine aC <| af ?_;obtain ⟨g28, H⟩ := aR H;refine aa ?_;show AR _ _ _ _ _ [0, 1, 2, 3, 4] _;refine zm rfl <| zm rfl <| zS rfl (cH rfl rfl g28) <| za rfl <| za rfl <| ah <| aP ?_;obtain ⟨rfl, rfl⟩ := fW H;exact And.intro rfl (Exists.intro _ (Exists.intro _ ⟨bC rfl (.refl _) (.refl _), aK [] rfl, rfl, rfl⟩))
set_option maxRecDepth 100000 in
set_option maxHeartbeats 1000000 in
theorem ud (F : Nat) (a1 : List UInt8) (r2 : List UInt8) (r3 : Bool) (H : lH F a1 = some (r2, r3)) : ACalls Tryz.prog 108 [S a1] [] (Ret (.tup [S r2, B r3]) []) := by
 unfold lH at H
 refine ay Tryz.func108 rfl rfl ?_;show AW _ _ 36 _ _ _;refine af <| aa ?_;show AR _ _ _ _ _ [0, 1] _;refine za rfl <| za rfl <| ah <| af <| aa ?_;show AR _ _ _ _ _ [0] _;refine zX rfl (mE (zs := [(.pointer none), .slice none 0 0]) (by kernel_rfl)) ?_;rintro _ _ ⟨o4, rfl, rfl⟩;refine ah ?_
 refine jj 0 1 1 5 rfl rfl fun t5 => ?_
 show AW _ _ _ _ _ ⟨_, _, [.tok t5 5, .obj o4 [.v (.pointer none), slE Enc.byte [] (some t5)], .ty o4 60]⟩;refine af <| aa ?_;show AR _ _ _ _ _ [0] _;refine za rfl <| ah <| aQ <| cJ (X := Nat × (List UInt8) × Bool × AV × (List UInt8) × Nat) (fun (n12, y6, y7, t8, y9, t10) => ⟨[(0, S y6), (4, .pt o4 0), (5, B y7)], [], [.obj o4 [t8, slE Enc.byte y9 (some t10)], .ty o4 60, .tok t10 5]⟩) (fun (n12, y6, y7, t8, y9, t10) => eo F n12 (y6, y7, y9) = some (r2, r3) ∧ (t8 = .v (.pointer none) ∨ t8 = .pt o4 0)) (fun (n12, y6, y7, t8, y9, t10) => n12) (F, a1, true, (.v (.pointer none)), [], t5) ⟨H, .inl rfl⟩ (aW [1, 1, 0] (.cons (.refl _) (.cons (.refl _) (.cons (.refl _) (.nil _)))) rfl) ?_;rintro ⟨n12, y6, y7, t8, y9, t10⟩ ⟨H, ht8⟩;obtain ⟨n12, rfl, H⟩ := dz H;replace H : fD F (eo F n12) y6 y7 y9 = some (r2, r3) := H
 unfold fD at H
 refine aQ <| af ?_;obtain ⟨x13, e14, H⟩ := bB H;refine aa ?_;show AR _ _ _ _ _ [0, 1, 2] _;refine zm rfl <| ap rfl rfl (aI rfl wk rfl (show ACalls _ _ _ [] (Ret (i64 x13) []) from by subst e14; exact eB y6 38) ?_);refine za rfl <| ah <| af <| af <| aa ?_;show AR _ _ _ _ _ [0, 1] _;refine zm rfl <| zS rfl (bQ rfl rfl) <| ah <| ax rfl (fun c15 => ?_) (fun c15 => ?_)
 ·replace H := ba c15 H;refine af ?_;obtain ⟨g16, H⟩ := aR H;obtain ⟨x17, e18, H⟩ := bB H;refine aa ?_;show AR _ _ _ _ _ [0, 1] _;refine zm rfl <| ap rfl rfl (be [0, 0, 0] rfl nS rfl (bG  o4 (t8) ht8 y9 y6 t10 (nJ g16)) rfl (fun c A' h => by cases h.1) ?_)
  rintro av A' ⟨h, t19, rfl⟩; cases h
  rw [e18]
  refine ah <| af ?_;obtain ⟨g20, H⟩ := aR H;refine aa ?_;show AR _ _ _ _ _ [0, 1, 2, 3] _;refine ap rfl rfl (be [0, 1] rfl wu rfl (iY  o4 (.pt o4 0) x17 t19 (okW0_s g20)) rfl (fun c A' h => by cases h.1) ?_)
  rintro av A' ⟨h, rfl⟩; cases h
  refine zm rfl <| za rfl <| za rfl <| ah <| aP ?_;obtain ⟨rfl, rfl⟩ := fW H;exact And.intro rfl (Exists.intro _ (Exists.intro _ ⟨bC rfl (.refl _) (.refl _), aK [] rfl, rfl, rfl⟩))
 ·replace H := bb c15 H;refine aC <| af ?_;obtain ⟨g21, H⟩ := aR H;obtain ⟨x22, e23, H⟩ := bB H;obtain ⟨g24, H⟩ := aR H;obtain ⟨x25, e26, H⟩ := bB H;refine aa ?_;show AR _ _ _ _ _ [0, 1, 2, 3] _;refine zm rfl <| zm rfl <| zS rfl (np ac rfl rfl g21 e23) <| ap rfl rfl (be [0, 0, 0] rfl nS rfl (bG  o4 (t8) ht8 y9 x22 t10 (nJ g24)) rfl (fun c A' h => by cases h.1) ?_)
  rintro av A' ⟨h, t27, rfl⟩; cases h
  rw [e26]
  refine ah <| af ?_;obtain ⟨g28, H⟩ := aR H;obtain ⟨x29, e30, H⟩ := bB H;refine aa ?_;show AR _ _ _ _ _ [0, 1, 2, 3] _;refine zm rfl <| zm rfl <| zS rfl (eD ac rfl rfl g28 e30) <| za rfl <| ah <| af ?_;obtain ⟨x31, x32, e33, H⟩ := cU H;refine aa ?_;show AR _ _ _ _ _ [0, 1, 2, 3, 4, 5, 6] _;refine zm rfl <| ap rfl rfl (aI rfl uI rfl (sF F x29 x31 x32 e33) ?_);refine zS rfl (ai (av := .tup _) rfl) <| zS rfl (aM (av := .v _) rfl rfl) <| zS rfl (aM (av := .v _) rfl rfl) <| za rfl <| za rfl <| ah <| bw (X := Bool × (List UInt8) × Int) (fun (y35, y36, y37) => ⟨[(0, S x29), (4, .pt o4 0), (5, B y35), (7, S y36), (8, i64 y37)], [], [.obj o4 [.pt o4 0, slE Enc.byte x25 (some t27)], .ty o4 60, .tok t27 5]⟩) (fun (y35, y36, y37) => fC (eo F n12) x25 x29 y35 y36 y37 = some (r2, r3)) ?_ ?_
  ·refine af <| aa ?_;show AR _ _ _ _ _ [0, 1] _;refine zm rfl <| zS rfl (bR rfl rfl) <| ah <| ax rfl (fun c34 => ?_) (fun c34 => ?_)
   ·replace H := ba c34 H;refine aa ?_;show AR _ _ _ _ _ [0, 1, 2] _;refine za rfl <| za rfl <| za rfl <| ah ?_;exact Exists.intro (false, ([38] : List UInt8), 1) ⟨H, aW [0, 0, 0] (.cons (.refl _) (.cons (.refl _) (.cons (.refl _) (.cons (.refl _) (.cons (.refl _) (.nil _)))))) rfl⟩
   ·replace H := bb c34 H;refine aC ?_;exact Exists.intro (y7, x31, x32) ⟨H, aW [0, 0, 0] (.cons (.refl _) (.cons (.refl _) (.cons (.refl _) (.cons (.refl _) (.cons (.refl _) (.nil _)))))) rfl⟩
  rintro ⟨y35, y36, y37⟩ H;replace H : fC (eo F n12) x25 x29 y35 y36 y37 = some (r2, r3) := H
  unfold fC at H
  refine af ?_;obtain ⟨g39, H⟩ := aR H;obtain ⟨x40, e41, H⟩ := bB H;refine aa ?_;show AR _ _ _ _ _ [0, 1] _;refine zm rfl <| ap rfl rfl (be [0, 0, 0] rfl nS rfl (bG  o4 (.pt o4 0) (.inr rfl) x25 y36 t27 (nJ g39)) rfl (fun c A' h => by cases h.1) ?_)
  rintro av A' ⟨h, t42, rfl⟩; cases h
  rw [e41]
  refine ah ?_;obtain ⟨g43, H⟩ := aR H;obtain ⟨x44, e45, H⟩ := bB H;refine aa ?_;show AR _ _ _ _ _ [0, 1, 2, 3] _;refine zm rfl <| zm rfl <| zS rfl (eD ac rfl rfl g43 e45) <| za rfl <| ah ?_;exact Exists.intro (n12, x44, y35, (.pt o4 0), x40, t42) ⟨⟨H, .inr rfl⟩, Nat.lt_succ_self _, aW [0, 0, 0] (.cons (.refl _) (.cons (.refl _) (.cons (.refl _) (.nil _)))) rfl⟩
set_option maxRecDepth 100000 in
set_option maxHeartbeats 1000000 in
theorem rI (F : Nat) (a1 : List UInt8) (r2 : List UInt8) (r3 : Int) (H : jw F a1 = some (r2, r3)) : ACalls Tryz.prog 90 [S a1] [] (Ret (.tup [S r2, i64 r3]) []) := by
 unfold jw at H
 refine ay Tryz.func90 rfl rfl ?_;show AW _ _ 14 _ _ _;refine af <| aa ?_;show AR _ _ _ _ _ [0, 1] _;refine za rfl <| za rfl <| ah <| af ?_;obtain ⟨x4, x5, e6, H⟩ := cU H;refine aa ?_;show AR _ _ _ _ _ [0, 1, 2, 3, 4, 5, 6] _;refine zm rfl <| ap rfl rfl (aI rfl uJ rfl (ud F a1 x4 x5 e6) ?_);refine zS rfl (ai (av := .tup _) rfl) <| zS rfl (aM (av := .v _) rfl rfl) <| zS rfl (aM (av := .v _) rfl rfl) <| za rfl <| za rfl <| ah <| af <| af <| aa ?_;show AR _ _ _ _ _ [0, 1] _;refine zm rfl <| zS rfl (cd rfl) <| ah <| ax rfl (fun c7 => ?_) (fun c7 => ?_)
 ·replace H := ba c7 H;refine af <| aa ?_;show AR _ _ _ _ _ [0, 1] _;refine za rfl <| za rfl <| ah <| aP ?_;obtain ⟨rfl, rfl⟩ := fW H;exact And.intro rfl (Exists.intro _ (Exists.intro _ ⟨bC rfl (.refl _) (.refl _), aK [] rfl, rfl, rfl⟩))
 ·replace H := bb c7 H;refine aC <| af <| aa ?_;show AR _ _ _ _ _ [0, 1, 2] _;refine zm rfl <| za rfl <| za rfl <| ah <| aP ?_;obtain ⟨rfl, rfl⟩ := fW H;exact And.intro rfl (Exists.intro _ (Exists.intro _ ⟨bC rfl (.refl _) (.refl _), aK [] rfl, rfl, rfl⟩))
end Go.Proofs.YteokdkimegepoaaGreatDoor
namespace Go.Pv
def xmla_k1 : List UInt8 := [65, 66, 67, 68, 69, 70, 71, 72, 73, 74, 75, 76, 77, 78, 79, 80, 81, 82, 83, 84, 85, 86, 87, 88, 89, 90, 97, 98, 99, 100, 101, 102, 103, 104, 105, 106, 107, 108, 109, 110, 111, 112, 113, 114, 115, 116, 117, 118, 119, 120, 121, 122, 95, 48, 49, 50, 51, 52, 53, 54, 55, 56, 57, 45, 46, 58]
def xmla_k2 : List UInt8 := [65, 66, 67, 68, 69, 70, 71, 72, 73, 74, 75, 76, 77, 78, 79, 80, 81, 82, 83, 84, 85, 86, 87, 88, 89, 90, 97, 98, 99, 100, 101, 102, 103, 104, 105, 106, 107, 108, 109, 110, 111, 112, 113, 114, 115, 116, 117, 118, 119, 120, 121, 122, 95]
def jG : Option Bool :=
some true
def iA (a1 : List UInt8) (rec4 : Int → Option Bool) (y3 : Int) : Option Bool :=
bif decide (y3 < (a1.length : Int)) then
  grd (ce y3 a1.length) <|
  lt (at_ a1 y3) fun x8 =>
  lt (Go.Lib.indexByte xmla_k1 x8) fun x10 =>
  bif decide (x10 < 0) then
    some false
  else
    grd (okI (y3 + 1)) <|
    rec4 (y3 + 1)
else
  jG
def iz (a1 : List UInt8) (n : Nat) : Int → Option Bool :=
  loop (fun rec x => iA a1 rec x) n
def nc (F : Nat) (a1 : List UInt8) : Option Bool :=
iz a1 F 0
def lX (F : Nat) (a1 : List UInt8) : Option Bool :=
eK ((!decide (a1 = ([] : List UInt8))) && (decide ((a1.length : Int) ≤ 60))) (kA 1 a1.length) <|
lt (to_ a1 1) fun x6 =>
eK ((!decide (a1 = ([] : List UInt8))) && (decide ((a1.length : Int) ≤ 60))) (okS xmla_k2.length) <|
lt (Go.Lib.contains xmla_k2 x6) fun x9 =>
eK (((!decide (a1 = ([] : List UInt8))) && (decide ((a1.length : Int) ≤ 60))) && x9) (okS a1.length) <|
eK (((!decide (a1 = ([] : List UInt8))) && (decide ((a1.length : Int) ≤ 60))) && x9) (okS xmla_k1.length) <|
eK (((!decide (a1 = ([] : List UInt8))) && (decide ((a1.length : Int) ≤ 60))) && x9) (gM xmla_k1) <|
lt (Go.Lib.trimS a1 xmla_k1) fun x15 =>
jE ((((!decide (a1 = ([] : List UInt8))) && (decide ((a1.length : Int) ≤ 60))) && x9) && (decide (x15 = ([] : List UInt8)))) (nc F a1) fun x18 =>
some (((((!decide (a1 = ([] : List UInt8))) && (decide ((a1.length : Int) ≤ 60))) && x9) && (decide (x15 = ([] : List UInt8)))) && x18)
def cB (F : Nat) (a1 : Bool) : Option (Res Unit) :=
bif !a1 then
  some (Res.pan 2)
else
  some (Res.ok ())
def eE (F : Nat) (a2 : List UInt8) (a3 : List (List UInt8)) (a5 : Int) (a6 : List (Int × (List UInt8) × (List UInt8) × List ((List UInt8) × List UInt8))) (a8 : List UInt8) : Option (Bool × (List UInt8)) :=
lt (Go.Lib.trimPrefix a2 a8, Go.Lib.hasPrefix a2 a8) fun x11 =>
some (x11.2, x11.1)
def gB (F : Nat) (a2 : List UInt8) (a3 : List (List UInt8)) (a5 : Int) (a6 : List (Int × (List UInt8) × (List UInt8) × List ((List UInt8) × List UInt8))) (a8 : List UInt8) : Option (Res ((List UInt8) × (List UInt8))) :=
grd (okS a2.length) <|
lt (Go.Lib.cut a2 a8) fun x12 =>
fq (cB F x12.2.2) fun x14 =>
some (Res.ok (x12.1, x12.2.1))
def jl (F : Nat) (a2 : List UInt8) (a3 : List (List UInt8)) (a5 : Int) (a6 : List (Int × (List UInt8) × (List UInt8) × List ((List UInt8) × List UInt8))) : Option (Bool × (List UInt8)) :=
grd (okS ([9, 10, 13, 32] : List UInt8).length) <|
grd (gM ([9, 10, 13, 32] : List UInt8)) <|
lt (Go.Lib.trimLeftS a2 ([9, 10, 13, 32] : List UInt8)) fun x12 =>
some (decide ((x12.length : Int) < (a2.length : Int)), x12)
def hZ (F : Nat) (a2 : List UInt8) (y21 : Int) : Option (Res ((List UInt8) × (List UInt8))) :=
grd (kA y21 a2.length) <|
lt (to_ a2 y21) fun x24 =>
bnd (lX F x24) fun x26 =>
fq (cB F x26) fun x28 =>
grd (kA y21 a2.length) <|
lt (dk a2 y21) fun x32 =>
some (Res.ok (x24, x32))
def jt (F : Nat) (a2 : List UInt8) (rec11 : Int → Option (Res ((List UInt8) × (List UInt8)))) (y10 : Int) : Option (Res ((List UInt8) × (List UInt8))) :=
eK (decide (y10 < (a2.length : Int))) (ce y10 a2.length) <|
lt (at_ a2 y10) fun x15 =>
lt (Go.Lib.indexByte xmla_k1 x15) fun x17 =>
bif (decide (y10 < (a2.length : Int))) && (decide (0 ≤ x17)) then
  grd (okI (y10 + 1)) <|
  rec11 (y10 + 1)
else
  hZ F a2 y10
def js (F : Nat) (a2 : List UInt8) (n : Nat) : Int → Option (Res ((List UInt8) × (List UInt8))) :=
  loop (fun rec x => jt F a2 rec x) n
def km (F : Nat) (a2 : List UInt8) (a3 : List (List UInt8)) (a5 : Int) (a6 : List (Int × (List UInt8) × (List UInt8) × List ((List UInt8) × List UInt8))) : Option (Res ((List UInt8) × (List UInt8))) :=
js F a2 F 0
def gJ (F : Nat) (a1 : List UInt8) : Option (Res ((List UInt8))) :=
gY (jw F a1) fun x3 x4 =>
fq (cB F (decide (x4 = 0))) fun x6 =>
some (Res.ok x3)
def lW (F : Nat) (a2 : List UInt8) (a3 : List (List UInt8)) (a5 : Int) (a6 : List (Int × (List UInt8) × (List UInt8) × List ((List UInt8) × List UInt8))) (a8 : List UInt8) : Option ((List (Int × (List UInt8) × (List UInt8) × List ((List UInt8) × List UInt8)))) :=
bif !decide (a8 = ([] : List UInt8)) then
  grd (dV (a6.length + ([(2, ([] : List UInt8), a8, ([] : List ((List UInt8) × List UInt8)))] : List (Int × (List UInt8) × (List UInt8) × List ((List UInt8) × List UInt8))).length)) <|
  lt (a6 ++ ([(2, ([] : List UInt8), a8, ([] : List ((List UInt8) × List UInt8)))] : List (Int × (List UInt8) × (List UInt8) × List ((List UInt8) × List UInt8)))) fun x14 =>
  some x14
else
  some a6
def kj (F : Nat) (a2 : List UInt8) (a3 : List (List UInt8)) (a5 : Int) (a6 : List (Int × (List UInt8) × (List UInt8) × List ((List UInt8) × List UInt8))) (a8 : List UInt8) : Option (Res ((List (Int × (List UInt8) × (List UInt8) × List ((List UInt8) × List UInt8))) × (List (List UInt8)))) :=
grd (okI ((a3.length : Int) - 1)) <|
eK (decide (0 ≤ (a3.length : Int) - 1)) (ce ((a3.length : Int) - 1) a3.length) <|
eK (decide (0 ≤ (a3.length : Int) - 1)) (ce ((a3.length : Int) - 1) a3.length) <|
lt (at_ a3 ((a3.length : Int) - 1)) fun x17 =>
fq (cB F ((decide (0 ≤ (a3.length : Int) - 1)) && (decide (x17 = a8)))) fun x19 =>
grd (kA ((a3.length : Int) - 1) a3.length) <|
lt (to_ a3 ((a3.length : Int) - 1)) fun x23 =>
grd (dV (a6.length + ([(1, a8, ([] : List UInt8), ([] : List ((List UInt8) × List UInt8)))] : List (Int × (List UInt8) × (List UInt8) × List ((List UInt8) × List UInt8))).length)) <|
lt (a6 ++ ([(1, a8, ([] : List UInt8), ([] : List ((List UInt8) × List UInt8)))] : List (Int × (List UInt8) × (List UInt8) × List ((List UInt8) × List UInt8)))) fun x27 =>
some (Res.ok (x27, x23))
def eU (F : Nat) (a2 : List UInt8) (a3 : List (List UInt8)) (a5 : Int) (a6 : List (Int × (List UInt8) × (List UInt8) × List ((List UInt8) × List UInt8))) (y15 : Int) : Option (Res (Bool × (List UInt8) × (List (Int × (List UInt8) × (List UInt8) × List ((List UInt8) × List UInt8))))) :=
bif decide (y15 = 0) then
  some (Res.ok (false, a2, a6))
else
  grd (kA y15 a2.length) <|
  lt (to_ a2 y15) fun x19 =>
  grd (kA y15 a2.length) <|
  lt (dk a2 y15) fun x22 =>
  fq (gJ F x19) fun x24 =>
  bif decide ((a3.length : Int) = 0) then
    bnd (lI F x19) fun x28 =>
    fq (cB F (decide (x28 = ([] : List UInt8)))) fun x30 =>
    some (Res.ok (true, x22, a6))
  else
    bnd (lW F x22 a3 a5 a6 x24) fun x33 =>
    some (Res.ok (true, x22, x33))
def gZ (F : Nat) (a2 : List UInt8) (a3 : List (List UInt8)) (a5 : Int) (a6 : List (Int × (List UInt8) × (List UInt8) × List ((List UInt8) × List UInt8))) : Option (Res (Bool × (List UInt8) × (List (Int × (List UInt8) × (List UInt8) × List ((List UInt8) × List UInt8))))) :=
lt (Go.Lib.indexByte a2 60) fun x12 =>
bif decide (x12 < 0) then
  eU F a2 a3 a5 a6 (a2.length : Int)
else
  eU F a2 a3 a5 a6 x12
def ia (F : Nat) (a2 : List UInt8) (a3 : List (List UInt8)) (a5 : Int) (a6 : List (Int × (List UInt8) × (List UInt8) × List ((List UInt8) × List UInt8))) : Option (Res (Bool × (List UInt8))) :=
gY (eE F a2 a3 a5 a6 ([60, 33, 45, 45] : List UInt8)) fun x10 x11 =>
bif !x10 then
  some (Res.ok (false, x11))
else
  fq (gB F x11 a3 a5 a6 ([45, 45, 62] : List UInt8)) fun x14 =>
  some (Res.ok (true, x14.2))
def oB (F : Nat) (a2 : List UInt8) (a3 : List (List UInt8)) (a5 : Int) (a6 : List (Int × (List UInt8) × (List UInt8) × List ((List UInt8) × List UInt8))) : Option (Res (Bool × (List UInt8))) :=
gY (eE F a2 a3 a5 a6 ([60, 63] : List UInt8)) fun x10 x11 =>
bif !x10 then
  some (Res.ok (false, x11))
else
  fq (gB F x11 a3 a5 a6 ([63, 62] : List UInt8)) fun x14 =>
  some (Res.ok (true, x14.2))
def kn (F : Nat) (a2 : List UInt8) (a3 : List (List UInt8)) (a5 : Int) (a6 : List (Int × (List UInt8) × (List UInt8) × List ((List UInt8) × List UInt8))) : Option (Res (Bool × (List UInt8) × (List (Int × (List UInt8) × (List UInt8) × List ((List UInt8) × List UInt8))))) :=
gY (eE F a2 a3 a5 a6 ([60, 33, 91, 67, 68, 65, 84, 65, 91] : List UInt8)) fun x12 x13 =>
bif !x12 then
  some (Res.ok (false, x13, a6))
else
  fq (gB F x13 a3 a5 a6 ([93, 93, 62] : List UInt8)) fun x16 =>
  fq (cB F (decide (0 < (a3.length : Int)))) fun x19 =>
  bnd (lW F x16.2 a3 a5 a6 x16.1) fun x22 =>
  some (Res.ok (true, x16.2, x22))
def oA (F : Nat) (a2 : List UInt8) (a3 : List (List UInt8)) (a5 : Int) (a6 : List (Int × (List UInt8) × (List UInt8) × List ((List UInt8) × List UInt8))) : Option (Res (Bool × (List UInt8))) :=
gY (eE F a2 a3 a5 a6 ([60, 33] : List UInt8)) fun x10 x11 =>
bif !x10 then
  some (Res.ok (false, x11))
else
  fq (gB F x11 a3 a5 a6 ([62] : List UInt8)) fun x14 =>
  some (Res.ok (true, x14.2))
def gI (F : Nat) (a2 : List UInt8) (a3 : List (List UInt8)) (a5 : Int) (a6 : List (Int × (List UInt8) × (List UInt8) × List ((List UInt8) × List UInt8))) : Option (Res (Bool × (List UInt8) × (List (Int × (List UInt8) × (List UInt8) × List ((List UInt8) × List UInt8))) × (List (List UInt8)))) :=
gY (eE F a2 a3 a5 a6 ([60, 47] : List UInt8)) fun x14 x15 =>
bif !x14 then
  some (Res.ok (false, x15, a6, a3))
else
  fq (km F x15 a3 a5 a6) fun x18 =>
  gY (jl F x18.2 a3 a5 a6) fun x21 x22 =>
  gY (eE F x22 a3 a5 a6 ([62] : List UInt8)) fun x24 x25 =>
  fq (cB F x24) fun x27 =>
  fq (kj F x25 a3 a5 a6 x18.1) fun x30 =>
  some (Res.ok (true, x25, x30.1, x30.2))
def gu (F : Nat) (a3 : List (List UInt8)) (a5 : Int) (a6 : List (Int × (List UInt8) × (List UInt8) × List ((List UInt8) × List UInt8))) (x12 : (List UInt8) × (List UInt8)) (y26 : List UInt8) (y27 : List UInt8) : Option (Res ((List UInt8) × (List UInt8) × (List UInt8))) :=
fq (gB F y27 a3 a5 a6 y26) fun x29 =>
grd (okS x29.1.length) <|
lt (Go.Lib.contains x29.1 ([60] : List UInt8)) fun x33 =>
fq (cB F (!x33)) fun x35 =>
fq (gJ F x29.1) fun x38 =>
some (Res.ok (x12.1, x38, x29.2))
def lh (F : Nat) (a2 : List UInt8) (a3 : List (List UInt8)) (a5 : Int) (a6 : List (Int × (List UInt8) × (List UInt8) × List ((List UInt8) × List UInt8))) : Option (Res ((List UInt8) × (List UInt8) × (List UInt8))) :=
fq (km F a2 a3 a5 a6) fun x12 =>
gY (eE F x12.2 a3 a5 a6 ([61, 34] : List UInt8)) fun x16 x17 =>
bif !x16 then
  gY (eE F x17 a3 a5 a6 ([61, 39] : List UInt8)) fun x20 x21 =>
  fq (cB F x20) fun x23 =>
  gu F a3 a5 a6 x12 ([39] : List UInt8) x21
else
  gu F a3 a5 a6 x12 ([34] : List UInt8) x17
def nd (F : Nat) (a1 : List UInt8) (a2 : List UInt8) (a4 : List UInt8) (a5 : List UInt8) : Option Bool :=
some (decide (a4 = a1))
def gj : Option Int :=
some (-1)
def fe (F : Nat) (a1 : List ((List UInt8) × List UInt8)) (a4 : List UInt8) (a5 : List UInt8) (rec8 : Int → Option Int) (y7 : Int) : Option Int :=
bif decide (y7 < (a1.length : Int)) then
  grd (ce y7 a1.length) <|
  lt (at_ a1 y7) fun x12 =>
  bnd (nd F x12.1 x12.2 a4 a5) fun x14 =>
  bif x14 then
    some y7
  else
    grd (okI (y7 + 1)) <|
    rec8 (y7 + 1)
else
  gj
def dW (F : Nat) (a1 : List ((List UInt8) × List UInt8)) (a4 : List UInt8) (a5 : List UInt8) (n : Nat) : Int → Option Int :=
  loop (fun rec x => fe F a1 a4 a5 rec x) n
def jc (F : Nat) (a1 : List ((List UInt8) × List UInt8)) (a4 : List UInt8) (a5 : List UInt8) : Option Int :=
dW F a1 a4 a5 F 0
def fg (F : Nat) (a1 : List ((List UInt8) × List UInt8)) (a4 : List UInt8) (a5 : List UInt8) : Option Bool :=
bnd (jc F a1 a4 a5) fun x7 =>
some (decide (0 ≤ x7))
def fj (y57 : List UInt8) (y66 : Int) (y97 : List (List UInt8)) (y98 : List (Int × (List UInt8) × (List UInt8) × List ((List UInt8) × List UInt8))) : Option (Res (Bool × (List UInt8) × Int × (List (Int × (List UInt8) × (List UInt8) × List ((List UInt8) × List UInt8))) × (List (List UInt8)))) :=
some (Res.ok (true, y57, y66, y98, y97))
def fZ (F : Nat) (x19 : (List UInt8) × (List UInt8)) (y56 : Bool) (y57 : List UInt8) (y66 : Int) (y79 : List (List UInt8)) (y87 : List (Int × (List UInt8) × (List UInt8) × List ((List UInt8) × List UInt8))) : Option (Res (Bool × (List UInt8) × Int × (List (Int × (List UInt8) × (List UInt8) × List ((List UInt8) × List UInt8))) × (List (List UInt8)))) :=
bif y56 then
  fq (kj F y57 y79 y66 y87 x19.1) fun x91 =>
  fj y57 y66 x91.2 x91.1
else
  fj y57 y66 y79 y87
def fY (F : Nat) (a6 : List (Int × (List UInt8) × (List UInt8) × List ((List UInt8) × List UInt8))) (x19 : (List UInt8) × (List UInt8)) (y56 : Bool) (y57 : List UInt8) (y58 : List ((List UInt8) × List UInt8)) (y66 : Int) (y79 : List (List UInt8)) : Option (Res (Bool × (List UInt8) × Int × (List (Int × (List UInt8) × (List UInt8) × List ((List UInt8) × List UInt8))) × (List (List UInt8)))) :=
grd (dV (a6.length + ([(0, x19.1, ([] : List UInt8), y58)] : List (Int × (List UInt8) × (List UInt8) × List ((List UInt8) × List UInt8))).length)) <|
lt (a6 ++ ([(0, x19.1, ([] : List UInt8), y58)] : List (Int × (List UInt8) × (List UInt8) × List ((List UInt8) × List UInt8)))) fun x83 =>
fZ F x19 y56 y57 y66 y79 x83
def fX (F : Nat) (a6 : List (Int × (List UInt8) × (List UInt8) × List ((List UInt8) × List UInt8))) (x19 : (List UInt8) × (List UInt8)) (y56 : Bool) (y57 : List UInt8) (y58 : List ((List UInt8) × List UInt8)) (y66 : Int) (y75 : List (List UInt8)) : Option (Res (Bool × (List UInt8) × Int × (List (Int × (List UInt8) × (List UInt8) × List ((List UInt8) × List UInt8))) × (List (List UInt8)))) :=
bif decide (20 < (y75.length : Int)) then
  some (Res.pan 5)
else
  fY F a6 x19 y56 y57 y58 y66 y75
def eu (F : Nat) (a3 : List (List UInt8)) (a6 : List (Int × (List UInt8) × (List UInt8) × List ((List UInt8) × List UInt8))) (x19 : (List UInt8) × (List UInt8)) (y56 : Bool) (y57 : List UInt8) (y58 : List ((List UInt8) × List UInt8)) (y66 : Int) : Option (Res (Bool × (List UInt8) × Int × (List (Int × (List UInt8) × (List UInt8) × List ((List UInt8) × List UInt8))) × (List (List UInt8)))) :=
grd (dV (a3.length + ([x19.1] : List (List UInt8)).length)) <|
lt (a3 ++ ([x19.1] : List (List UInt8))) fun x69 =>
fX F a6 x19 y56 y57 y58 y66 x69
def er (F : Nat) (a3 : List (List UInt8)) (a5 : Int) (a6 : List (Int × (List UInt8) × (List UInt8) × List ((List UInt8) × List UInt8))) (x19 : (List UInt8) × (List UInt8)) (y56 : Bool) (y57 : List UInt8) (y58 : List ((List UInt8) × List UInt8)) : Option (Res (Bool × (List UInt8) × Int × (List (Int × (List UInt8) × (List UInt8) × List ((List UInt8) × List UInt8))) × (List (List UInt8)))) :=
bif decide ((a3.length : Int) = 0) then
  grd (okI (a5 + 1)) <|
  fq (cB F (decide (a5 + 1 = 1))) fun x63 =>
  eu F a3 a6 x19 y56 y57 y58 (a5 + 1)
else
  eu F a3 a6 x19 y56 y57 y58 a5
def gb (F : Nat) (a3 : List (List UInt8)) (a5 : Int) (a6 : List (Int × (List UInt8) × (List UInt8) × List ((List UInt8) × List UInt8))) (x19 : (List UInt8) × (List UInt8)) (rec27 : ((List ((List UInt8) × List UInt8)) × (List UInt8)) → Option (Res (Bool × (List UInt8) × Int × (List (Int × (List UInt8) × (List UInt8) × List ((List UInt8) × List UInt8))) × (List (List UInt8))))) (y24 : List ((List UInt8) × List UInt8)) (y26 : List UInt8) : Option (Res (Bool × (List UInt8) × Int × (List (Int × (List UInt8) × (List UInt8) × List ((List UInt8) × List UInt8))) × (List (List UInt8)))) :=
gY (jl F y26 a3 a5 a6) fun x29 x30 =>
gY (eE F x30 a3 a5 a6 ([62] : List UInt8)) fun x32 x33 =>
bif x32 then
  er F a3 a5 a6 x19 false x33 y24
else
  gY (eE F x33 a3 a5 a6 ([47, 62] : List UInt8)) fun x36 x37 =>
  bif x36 then
    er F a3 a5 a6 x19 true x37 y24
  else
    fq (cB F x29) fun x40 =>
    fq (lh F x37 a3 a5 a6) fun x43 =>
    bnd (fg F y24 x43.1 x43.2.1) fun x47 =>
    fq (cB F (!x47)) fun x49 =>
    grd (dV (y24.length + ([(x43.1, x43.2.1)] : List ((List UInt8) × List UInt8)).length)) <|
    lt (y24 ++ ([(x43.1, x43.2.1)] : List ((List UInt8) × List UInt8))) fun x54 =>
    rec27 (x54, x43.2.2)
def ga (F : Nat) (a3 : List (List UInt8)) (a5 : Int) (a6 : List (Int × (List UInt8) × (List UInt8) × List ((List UInt8) × List UInt8))) (x19 : (List UInt8) × (List UInt8)) (n : Nat) : ((List ((List UInt8) × List UInt8)) × (List UInt8)) → Option (Res (Bool × (List UInt8) × Int × (List (Int × (List UInt8) × (List UInt8) × List ((List UInt8) × List UInt8))) × (List (List UInt8)))) :=
  loop (fun rec x => gb F a3 a5 a6 x19 rec x.1 x.2) n
def gt (F : Nat) (a2 : List UInt8) (a3 : List (List UInt8)) (a5 : Int) (a6 : List (Int × (List UInt8) × (List UInt8) × List ((List UInt8) × List UInt8))) : Option (Res (Bool × (List UInt8) × Int × (List (Int × (List UInt8) × (List UInt8) × List ((List UInt8) × List UInt8))) × (List (List UInt8)))) :=
gY (eE F a2 a3 a5 a6 ([60] : List UInt8)) fun x15 x16 =>
bif !x15 then
  some (Res.ok (false, x16, a5, a6, a3))
else
  fq (km F x16 a3 a5 a6) fun x19 =>
  ga F a3 a5 a6 x19 F ([], x19.2)
def lg (F : Nat) (a2 : List UInt8) (a3 : List (List UInt8)) (a5 : Int) (a6 : List (Int × (List UInt8) × (List UInt8) × List ((List UInt8) × List UInt8))) : Option (Res ((List UInt8) × Int × (List (Int × (List UInt8) × (List UInt8) × List ((List UInt8) × List UInt8))) × (List (List UInt8)))) :=
fq (gZ F a2 a3 a5 a6) fun x14 =>
bif x14.1 then
  some (Res.ok (x14.2.1, a5, x14.2.2, a3))
else
  fq (ia F x14.2.1 a3 a5 x14.2.2) fun x19 =>
  bif x19.1 then
    some (Res.ok (x19.2, a5, x14.2.2, a3))
  else
    fq (oB F x19.2 a3 a5 x14.2.2) fun x23 =>
    bif x23.1 then
      some (Res.ok (x23.2, a5, x14.2.2, a3))
    else
      fq (kn F x23.2 a3 a5 x14.2.2) fun x27 =>
      bif x27.1 then
        some (Res.ok (x27.2.1, a5, x27.2.2, a3))
      else
        fq (oA F x27.2.1 a3 a5 x27.2.2) fun x32 =>
        bif x32.1 then
          some (Res.ok (x32.2, a5, x27.2.2, a3))
        else
          fq (gI F x32.2 a3 a5 x27.2.2) fun x36 =>
          bif x36.1 then
            some (Res.ok (x36.2.1, a5, x36.2.2.1, x36.2.2.2))
          else
            fq (gt F x36.2.1 x36.2.2.2 a5 x36.2.2.1) fun x42 =>
            bif x42.1 then
              some (Res.ok (x42.2.1, x42.2.2.1, x42.2.2.2.1, x42.2.2.2.2))
            else
              some (Res.ok (x42.2.1, x42.2.2.1, x42.2.2.2.1, x42.2.2.2.2))
def gP (F : Nat) (y26 : List UInt8) (y28 : List (List UInt8)) (y29 : Int) (y30 : List (Int × (List UInt8) × (List UInt8) × List ((List UInt8) × List UInt8))) : Option ((List (Int × (List UInt8) × (List UInt8) × List ((List UInt8) × List UInt8))) × Int) :=
bndk (cB F ((decide ((y28.length : Int) = 0)) && (decide (0 < y29)))) (fun p36 =>
  some ([], p36)) fun x34 =>
some (y30, 0)
def gR (F : Nat) (rec17 : ((List UInt8) × (List (List UInt8)) × Int × (List (Int × (List UInt8) × (List UInt8) × List ((List UInt8) × List UInt8)))) → Option ((List (Int × (List UInt8) × (List UInt8) × List ((List UInt8) × List UInt8))) × Int)) (y11 : List UInt8) (y13 : List (List UInt8)) (y14 : Int) (y15 : List (Int × (List UInt8) × (List UInt8) × List ((List UInt8) × List UInt8))) : Option ((List (Int × (List UInt8) × (List UInt8) × List ((List UInt8) × List UInt8))) × Int) :=
bif !decide (y11 = ([] : List UInt8)) then
  bndk (lg F y11 y13 y14 y15) (fun p22 =>
    some ([], p22)) fun x20 =>
  rec17 (x20.1, x20.2.2.2, x20.2.1, x20.2.2.1)
else
  gP F y11 y13 y14 y15
def gQ (F : Nat) (n : Nat) : ((List UInt8) × (List (List UInt8)) × Int × (List (Int × (List UInt8) × (List UInt8) × List ((List UInt8) × List UInt8)))) → Option ((List (Int × (List UInt8) × (List UInt8) × List ((List UInt8) × List UInt8))) × Int) :=
  loop (fun rec x => gR F rec x.1 x.2.1 x.2.2.1 x.2.2.2) n
def eM (F : Nat) (a1 : List UInt8) : Option ((List (Int × (List UInt8) × (List UInt8) × List ((List UInt8) × List UInt8))) × Int) :=
bif decide (100000 < (a1.length : Int)) then
  some ([], 4)
else
  gQ F F (a1, ([] : List (List UInt8)), 0, [])
end Go.Pv
namespace Go.Proofs.YteokdkimegepoaaGreatDoor
open Go.RowKit Go.Av Go.Pv
theorem ri : ∀ (args : Array Value) (w : World), (callFunc 18 args).run Tryz.prog w = .ok (.enter 18 args) w := fun _ _ => by kernel_rfl
theorem nT : ∀ (args : Array Value) (w : World), (callFunc 21 args).run Tryz.prog w = .ok (.enter 21 args) w := fun _ _ => by kernel_rfl
theorem rh : ∀ (args : Array Value) (w : World), (callFunc 22 args).run Tryz.prog w = .ok (.enter 22 args) w := fun _ _ => by kernel_rfl
theorem bS : ∀ (args : Array Value) (w : World), (callFunc 23 args).run Tryz.prog w = .ok (.enter 23 args) w := fun _ _ => by kernel_rfl
theorem nR : ∀ (args : Array Value) (w : World), (callFunc 33 args).run Tryz.prog w = .ok (.enter 33 args) w := fun _ _ => by kernel_rfl
theorem wp : ∀ (args : Array Value) (w : World), (callFunc 34 args).run Tryz.prog w = .ok (.enter 34 args) w := fun _ _ => by kernel_rfl
theorem wo : ∀ (args : Array Value) (w : World), (callFunc 35 args).run Tryz.prog w = .ok (.enter 35 args) w := fun _ _ => by kernel_rfl
theorem rf : ∀ (args : Array Value) (w : World), (callFunc 37 args).run Tryz.prog w = .ok (.enter 37 args) w := fun _ _ => by kernel_rfl
theorem re : ∀ (args : Array Value) (w : World), (callFunc 38 args).run Tryz.prog w = .ok (.enter 38 args) w := fun _ _ => by kernel_rfl
theorem rd : ∀ (args : Array Value) (w : World), (callFunc 39 args).run Tryz.prog w = .ok (.enter 39 args) w := fun _ _ => by kernel_rfl
theorem rc : ∀ (args : Array Value) (w : World), (callFunc 40 args).run Tryz.prog w = .ok (.enter 40 args) w := fun _ _ => by kernel_rfl
theorem rb : ∀ (args : Array Value) (w : World), (callFunc 41 args).run Tryz.prog w = .ok (.enter 41 args) w := fun _ _ => by kernel_rfl
theorem ra : ∀ (args : Array Value) (w : World), (callFunc 42 args).run Tryz.prog w = .ok (.enter 42 args) w := fun _ _ => by kernel_rfl
theorem qZ : ∀ (args : Array Value) (w : World), (callFunc 43 args).run Tryz.prog w = .ok (.enter 43 args) w := fun _ _ => by kernel_rfl
theorem nQ : ∀ (args : Array Value) (w : World), (callFunc 62 args).run Tryz.prog w = .ok (.enter 62 args) w := fun _ _ => by kernel_rfl
theorem lQ : ∀ (args : Array Value) (w : World), (callFunc 64 args).run Tryz.prog w = .ok (.enter 64 args) w := fun _ _ => by kernel_rfl
theorem qY : ∀ (args : Array Value) (w : World), (callFunc 65 args).run Tryz.prog w = .ok (.enter 65 args) w := fun _ _ => by kernel_rfl
theorem qX : ∀ (args : Array Value) (w : World), (callFunc 66 args).run Tryz.prog w = .ok (.enter 66 args) w := fun _ _ => by kernel_rfl
theorem dN : ∀ (args : Array Value) (w : World), (callFunc 67 args).run Tryz.prog w = .ok (.enter 67 args) w := fun _ _ => by kernel_rfl
theorem ft : ∀ (args : Array Value) (w : World), (callFunc 68 args).run Tryz.prog w = .ok (.enter 68 args) w := fun _ _ => by kernel_rfl
theorem jq : ∀ (args : Array Value) (w : World), (callFunc 69 args).run Tryz.prog w = .ok (.enter 69 args) w := fun _ _ => by kernel_rfl
theorem qW : ∀ (args : Array Value) (w : World), (callFunc 70 args).run Tryz.prog w = .ok (.enter 70 args) w := fun _ _ => by kernel_rfl
theorem lP : ∀ (args : Array Value) (w : World), (callFunc 71 args).run Tryz.prog w = .ok (.enter 71 args) w := fun _ _ => by kernel_rfl
theorem qV : ∀ (args : Array Value) (w : World), (callFunc 72 args).run Tryz.prog w = .ok (.enter 72 args) w := fun _ _ => by kernel_rfl
theorem qU : ∀ (args : Array Value) (w : World), (callFunc 73 args).run Tryz.prog w = .ok (.enter 73 args) w := fun _ _ => by kernel_rfl
theorem wi : ∀ (args : Array Value) (w : World), (callFunc 74 args).run Tryz.prog w = .ok (.enter 74 args) w := fun _ _ => by kernel_rfl
theorem wh : ∀ (args : Array Value) (w : World), (callFunc 90 args).run Tryz.prog w = .ok (.enter 90 args) w := fun _ _ => by kernel_rfl
theorem wa : ∀ (args : Array Value) (w : World), (callFunc 93 args).run Tryz.prog w = .ok (.enter 93 args) w := fun _ _ => by kernel_rfl
theorem vZ : ∀ (args : Array Value) (w : World), (callFunc 94 args).run Tryz.prog w = .ok (.enter 94 args) w := fun _ _ => by kernel_rfl
theorem vY : ∀ (args : Array Value) (w : World), (callFunc 95 args).run Tryz.prog w = .ok (.enter 95 args) w := fun _ _ => by kernel_rfl
theorem vX : ∀ (args : Array Value) (w : World), (callFunc 96 args).run Tryz.prog w = .ok (.enter 96 args) w := fun _ _ => by kernel_rfl
set_option maxRecDepth 100000 in
set_option maxHeartbeats 1000000 in
theorem tV (F : Nat) (a1 : List UInt8) (r2 : Bool) (H : nc F a1 = some r2) : ACalls Tryz.prog 35 [S a1] [] (Ret (B r2) []) := by
 unfold nc at H
 refine ay Tryz.func35 rfl rfl ?_;show AW _ _ 15 _ _ _;refine af <| aa ?_;show AR _ _ _ _ _ [0] _;refine za rfl <| ah <| bw (X := Unit) (fun _ => ⟨[], [], []⟩) (fun _ => jG = some r2) ?_ ?_
 ·refine af <| aa ?_;show AR _ _ _ _ _ [0, 1, 2] _;refine zm rfl <| zS rfl (aZ ac rfl) <| zm rfl <| ah <| aQ <| cJ (X := Nat × Int) (fun (n5, y3) => ⟨[(0, S a1), (5, i64 (a1.length : Int)), (6, i64 y3)], [], []⟩) (fun (n5, y3) => iz a1 n5 y3 = some r2) (fun (n5, y3) => n5) (F, 0) H (aW [] (.cons (.refl _) (.cons (.refl _) (.cons (.refl _) (.nil _)))) rfl) ?_;rintro ⟨n5, y3⟩ H;obtain ⟨n5, rfl, H⟩ := dz H;replace H : iA a1 (iz a1 n5) y3 = some r2 := H
  unfold iA at H
  refine af <| aa ?_;show AR _ _ _ _ _ [0] _;refine zS rfl (bQ rfl rfl) <| ah <| af <| ax rfl (fun c6 => ?_) (fun c6 => ?_)
  ·replace H := ba c6 H;refine aC <| af <| aQ <| af <| aa ?_;show AR _ _ _ _ _ [0, 1] _;refine zm rfl <| za rfl <| ah <| af ?_;obtain ⟨g7, H⟩ := aR H;obtain ⟨x8, e9, H⟩ := bB H;obtain ⟨x10, e11, H⟩ := bB H;refine aa ?_;show AR _ _ _ _ _ [0, 1, 2, 3, 4] _;refine zm rfl <| zm rfl <| zS rfl (br ac rfl rfl g7 e9) <| ap rfl rfl (aI rfl nQ rfl (show ACalls _ _ _ [] (Ret (i64 x10) []) from by subst e11; exact eB xmla_k1 x8) ?_);refine zS rfl (bQ rfl rfl) <| ah <| ax rfl (fun c12 => ?_) (fun c12 => ?_)
   ·replace H := ba c12 H;refine af <| aa ?_;show AR _ _ _ _ _ [0] _;refine za rfl <| ah <| aP ?_;obtain rfl := am H;exact And.intro rfl (Exists.intro _ (Exists.intro _ ⟨aF rfl (.refl _), aK [] rfl, rfl, rfl⟩))
   ·replace H := bb c12 H;refine aC ?_;obtain ⟨g13, H⟩ := aR H;refine aa ?_;show AR _ _ _ _ _ [0, 1] _;refine zS rfl (cH rfl rfl g13) <| zm rfl <| ah ?_;exact Exists.intro (n5, y3 + 1) ⟨H, Nat.lt_succ_self _, aW [] (.cons (.refl _) (.cons (.refl _) (.cons (.refl _) (.nil _)))) rfl⟩
  ·replace H := bb c6 H;refine cf ?_;exact Exists.intro () ⟨H, aW [] (.nil _) rfl⟩
 rintro _ H;replace H : jG = some r2 := H
 unfold jG at H
 refine af <| aa ?_;show AR _ _ _ _ _ [0] _;refine za rfl <| ah <| aP ?_;obtain rfl := am H;exact And.intro rfl (Exists.intro _ (Exists.intro _ ⟨aF rfl (.refl _), aK [] rfl, rfl, rfl⟩))
set_option maxRecDepth 100000 in
set_option maxHeartbeats 1000000 in
theorem nK (F : Nat) (a1 : List UInt8) (r2 : Bool) (H : lX F a1 = some r2) : ACalls Tryz.prog 18 [S a1] [] (Ret (B r2) []) := by
 unfold lX at H
 refine ay Tryz.func18 rfl rfl ?_;show AW _ _ 24 _ _ _;refine af <| aa ?_;show AR _ _ _ _ _ [0] _;refine za rfl <| ah <| af ?_;obtain ⟨g5, H⟩ := cC H;obtain ⟨x6, e7, H⟩ := bB H;obtain ⟨g8, H⟩ := cC H;obtain ⟨x9, e10, H⟩ := bB H;obtain ⟨g12, H⟩ := cC H;obtain ⟨g13, H⟩ := cC H;obtain ⟨g14, H⟩ := cC H;obtain ⟨x15, e16, H⟩ := bB H;obtain ⟨x18, e19, H⟩ := eX H;refine aa ?_;show AR _ _ _ _ _ [0, 1, 2, 3, 4, 5, 6, 7, 8, 9, 10, 11, 12, 13, 14, 15, 16, 17, 18, 19, 20, 21] _;refine zm rfl <| zS rfl (nx rfl rfl) <| zm rfl <| bi (l := [7, 8, 9, 10, 11, 12, 13, 14, 15, 16, 17, 18, 19, 20, 21]) 9 (B ((!decide (a1 = ([] : List UInt8))) && (decide ((a1.length : Int) ≤ 60)))) (fun K => ?_) ?_
 ·rcases ao (!decide (a1 = ([] : List UInt8))) with h3 | h3
  ·refine zM h3 rfl <| zU h3 rfl (aZ ac rfl) <| zU h3 rfl (fR rfl rfl) <| zS rfl (aL (av := .v _) rfl h3 rfl) ?_;exact K _ 3 _ (az (cQ h3)) rfl rfl
  ·refine zF h3 rfl <| zF h3 rfl <| zF h3 rfl <| zS rfl (aJ (av := .v _) rfl h3 rfl) ?_;exact K _ 3 _ (az (cR h3)) rfl rfl
 refine zm rfl <| bi (l := [12, 13, 14, 15, 16, 17, 18, 19, 20, 21]) 14 (B (((!decide (a1 = ([] : List UInt8))) && (decide ((a1.length : Int) ≤ 60))) && x9)) (fun K => ?_) ?_
 ·rcases ao ((!decide (a1 = ([] : List UInt8))) && (decide ((a1.length : Int) ≤ 60))) with h4 | h4
  ·refine zM h4 rfl <| zU h4 rfl (np ac rfl rfl (g5 h4) e7) <| zT h4 rfl (aI rfl nR rfl (show ACalls _ _ _ [] (Ret (B x9) []) from by subst e10; exact kR xmla_k2 x6 (mI (g8 h4))) ?_);refine zS rfl (aL (av := .v _) rfl h4 rfl) ?_;exact K _ 3 _ (az (cQ h4)) rfl rfl
  ·refine zF h4 rfl <| zF h4 rfl <| zF h4 rfl <| zS rfl (aJ (av := .v _) rfl h4 rfl) ?_;exact K _ 3 _ (az (cR h4)) rfl rfl
 refine zm rfl <| bi (l := [17, 18, 19, 20, 21]) 19 (B ((((!decide (a1 = ([] : List UInt8))) && (decide ((a1.length : Int) ≤ 60))) && x9) && (decide (x15 = ([] : List UInt8))))) (fun K => ?_) ?_
 ·rcases ao (((!decide (a1 = ([] : List UInt8))) && (decide ((a1.length : Int) ≤ 60))) && x9) with h11 | h11
  ·refine zM h11 rfl <| zT h11 rfl (aI rfl wp rfl (show ACalls _ _ _ [] (Ret (S x15) []) from by subst e16; exact lib_Trim a1 xmla_k1 (mI (g12 h11)) (mI (g13 h11)) (g14 h11)) ?_);refine zU h11 rfl (fT rfl rfl) <| zS rfl (aL (av := .v _) rfl h11 rfl) ?_;exact K _ 3 _ (az (cQ h11)) rfl rfl
  ·refine zF h11 rfl <| zF h11 rfl <| zF h11 rfl <| zS rfl (aJ (av := .v _) rfl h11 rfl) ?_;exact K _ 3 _ (az (cR h11)) rfl rfl
 refine zm rfl <| bi (l := [21]) 23 (B (((((!decide (a1 = ([] : List UInt8))) && (decide ((a1.length : Int) ≤ 60))) && x9) && (decide (x15 = ([] : List UInt8)))) && x18)) (fun K => ?_) ?_
 ·rcases ao ((((!decide (a1 = ([] : List UInt8))) && (decide ((a1.length : Int) ≤ 60))) && x9) && (decide (x15 = ([] : List UInt8)))) with h17 | h17
  ·refine zM h17 rfl <| zT h17 rfl (aI rfl wo rfl (tV F a1 x18 (e19 h17)) ?_);refine zS rfl (aL (av := .v _) rfl h17 rfl) ?_;exact K _ 2 _ (az (cQ h17)) rfl rfl
  ·refine zF h17 rfl <| zF h17 rfl <| zS rfl (aJ (av := .v _) rfl h17 rfl) ?_;exact K _ 2 _ (az (cR h17)) rfl rfl
 refine za rfl <| ah <| aP ?_;obtain rfl := am H;exact And.intro rfl (Exists.intro _ (Exists.intro _ ⟨aF rfl (.refl _), aK [] rfl, rfl, rfl⟩))
set_option maxRecDepth 100000 in
set_option maxHeartbeats 1000000 in
theorem nX (F : Nat) (a1 : Bool) (rv : Res Unit) (H : cB F a1 = some rv) : ACalls Tryz.prog 23 [B a1] [] (kE (fun (r : Unit) => (Ret (.tup []) [])) (fun e => cX (.iface 46 (.agg #[.int .i64 e]))) rv) := by
 unfold cB at H
 refine ay Tryz.func23 rfl rfl ?_;show AW _ _ 6 _ _ _;refine af <| aa ?_;show AR _ _ _ _ _ [0, 1] _;refine zm rfl <| zS rfl (cd rfl) <| ah <| ax rfl (fun c2 => ?_) (fun c2 => ?_)
 ·replace H := ba c2 H;obtain rfl := am H;refine aa ?_;show AR _ _ _ _ _ [0, 1, 2] _;refine zS rfl (fi (zs := [.int .i64 0]) (ps := [(0, 1)]) (cs := [i64 2]) (by kernel_rfl) rfl rfl) <| zS rfl (bx (a := .agg _) Tryz.underlying46 rfl rfl) <| ap rfl rfl (AO.panicT (c := cX (.iface 46 (.agg #[.int .i64 2]))) rfl rfl ?_);exact And.intro rfl (Exists.intro [] ⟨bf _, rfl, rfl⟩)
 ·replace H := bb c2 H;refine aC ?_;obtain rfl := am H;exact And.intro rfl (Exists.intro _ (Exists.intro _ ⟨bD rfl, aK [] rfl, rfl, rfl⟩))
theorem cc (F : Nat) (a1 : Bool) (H : cB F a1 = some (Res.ok ())) : ACalls Tryz.prog 23 [B a1] [] (Ret (.tup []) []) := nX F a1 _ H
theorem bV (F : Nat) (a1 : Bool) (e : Int) (H : cB F a1 = some (Res.pan e)) : ACalls Tryz.prog 23 [B a1] [] (fun ae A' => ae = .pan ((fun e => cX (.iface 46 (.agg #[.int .i64 e]))) e) ∧ A' = []) := nX F a1 _ H
set_option maxRecDepth 100000 in
set_option maxHeartbeats 1000000 in
theorem dK (F : Nat) (o1 : Nat) (a2 : List UInt8) (a3 : List (List UInt8)) (t4 : Nat) (a5 : Int) (a6 : List (Int × (List UInt8) × (List UInt8) × List ((List UInt8) × List UInt8))) (t7 : Nat) (a8 : List UInt8) (r9 : Bool) (r10 : List UInt8) (H : eE F a2 a3 a5 a6 a8 = some (r9, r10)) : ACalls Tryz.prog 67 [.pt o1 0, S a8] [.obj o1 [S a2, .sk t4 a3.length, i64 a5, slE (Enc.prod Enc.int (Enc.prod Enc.str (Enc.prod Enc.str (Enc.sl (Enc.prod Enc.str Enc.str))))) a6 (some t7)], .stk t4 (Enc.str.fl a3), .tok t7 33] (fun e A' => e = .ret (B r9) ∧ A' = [.obj o1 [S r10, .sk t4 a3.length, i64 a5, slE (Enc.prod Enc.int (Enc.prod Enc.str (Enc.prod Enc.str (Enc.sl (Enc.prod Enc.str Enc.str))))) a6 (some t7)], .stk t4 (Enc.str.fl a3), .tok t7 33]) := by
 unfold eE at H
 refine ay Tryz.func67 rfl rfl ?_;show AW _ _ 21 _ _ _;refine af <| aa ?_;show AR _ _ _ _ _ [0] _;refine za rfl <| ah <| af ?_;obtain ⟨x11, e12, H⟩ := bB H;refine aa ?_;show AR _ _ _ _ _ [0, 1, 2, 3, 4, 5, 6, 7, 8, 9, 10] _;refine zS rfl (ai (av := .pt _ _) rfl) <| zS rfl (ar rfl) <| zS rfl (ak (n := 0) (by kernel_rfl) rfl) <| zR rfl (aq (i := 0) ac rfl rfl rfl rfl) <| zm rfl <| ap rfl rfl (aI rfl wa rfl (show ACalls _ _ _ [] (Ret (.tup [S x11.1, B x11.2]) []) from by subst e12; exact kh a2 a8) ?_);refine zS rfl (ai (av := .tup _) rfl) <| zS rfl (aM (av := .v _) rfl rfl) <| zS rfl (aM (av := .v _) rfl rfl) <| za rfl <| za rfl <| ah <| af <| aa ?_;show AR _ _ _ _ _ [0, 1, 2, 3, 4] _;refine zS rfl (ai (av := .pt _ _) rfl) <| zm rfl <| zS rfl (ar rfl) <| zS rfl (ak (n := 0) (by kernel_rfl) rfl) <| s0 rfl rfl (aB (i := 0) (c := .v _) (by kernel_rfl) rfl rfl rfl rfl (ag rfl)) <| ah <| af <| aa ?_;show AR _ _ _ _ _ [0, 1] _;refine zm rfl <| za rfl <| ah <| aP ?_;obtain ⟨rfl, rfl⟩ := fW H;exact And.intro rfl (Exists.intro _ (Exists.intro _ ⟨aF rfl (.refl _), aK [0, 0, 0] rfl, rfl, rfl⟩))
set_option maxRecDepth 100000 in
set_option maxHeartbeats 1000000 in
theorem qr (F : Nat) (o1 : Nat) (a2 : List UInt8) (a3 : List (List UInt8)) (t4 : Nat) (a5 : Int) (a6 : List (Int × (List UInt8) × (List UInt8) × List ((List UInt8) × List UInt8))) (t7 : Nat) (a8 : List UInt8) (rv : Res ((List UInt8) × (List UInt8))) (H : gB F a2 a3 a5 a6 a8 = some rv) : ACalls Tryz.prog 68 [.pt o1 0, S a8] [.obj o1 [S a2, .sk t4 a3.length, i64 a5, slE (Enc.prod Enc.int (Enc.prod Enc.str (Enc.prod Enc.str (Enc.sl (Enc.prod Enc.str Enc.str))))) a6 (some t7)], .stk t4 (Enc.str.fl a3), .tok t7 33] (kE (fun (r : (List UInt8) × (List UInt8)) => (fun e A' => e = .ret (S r.1) ∧ A' = [.obj o1 [S r.2, .sk t4 a3.length, i64 a5, slE (Enc.prod Enc.int (Enc.prod Enc.str (Enc.prod Enc.str (Enc.sl (Enc.prod Enc.str Enc.str))))) a6 (some t7)], .stk t4 (Enc.str.fl a3), .tok t7 33])) (fun e => cX (.iface 46 (.agg #[.int .i64 e]))) rv) := by
 unfold gB at H
 refine ay Tryz.func68 rfl rfl ?_;show AW _ _ 25 _ _ _;refine af <| aa ?_;show AR _ _ _ _ _ [0] _;refine za rfl <| ah <| af ?_;obtain ⟨g11, H⟩ := aR H;obtain ⟨x12, e13, H⟩ := bB H;refine aa ?_;show AR _ _ _ _ _ [0, 1, 2, 3, 4, 5, 6, 7, 8, 9, 10, 11, 12] _;refine zS rfl (ai (av := .pt _ _) rfl) <| zS rfl (ar rfl) <| zS rfl (ak (n := 0) (by kernel_rfl) rfl) <| zR rfl (aq (i := 0) ac rfl rfl rfl rfl) <| zm rfl <| ap rfl rfl (aI rfl vZ rfl (show ACalls _ _ _ [] (Ret (.tup [S x12.1, S x12.2.1, B x12.2.2]) []) from by subst e13; exact lib_Cut a2 a8 (mI g11)) ?_);refine zS rfl (ai (av := .tup _) rfl) <| zS rfl (aM (av := .v _) rfl rfl) <| zS rfl (aM (av := .v _) rfl rfl) <| zS rfl (aM (av := .v _) rfl rfl) <| za rfl <| za rfl <| za rfl <| ah <| af ?_
 rcases Or.symm (cN H) with ⟨p16, e15, H⟩ | ⟨x14, e15, H⟩
 ·subst H;refine aa ?_;show AR _ _ _ _ _ [0, 1] _;refine zm rfl <| ap rfl rfl (bE (c := cX (.iface 46 (.agg #[.int .i64 p16]))) [] rfl bS rfl (bV F x12.2.2 p16 e15) rfl ?_);exact And.intro rfl (Exists.intro [] ⟨bf _, rfl, rfl⟩)
 refine aa ?_;show AR _ _ _ _ _ [0, 1] _;refine zm rfl <| ap rfl rfl (aI rfl bS rfl (cc F x12.2.2 e15) ?_);refine ah <| af <| aa ?_;show AR _ _ _ _ _ [0, 1, 2, 3, 4] _;refine zS rfl (ai (av := .pt _ _) rfl) <| zm rfl <| zS rfl (ar rfl) <| zS rfl (ak (n := 0) (by kernel_rfl) rfl) <| s0 rfl rfl (aB (i := 0) (c := .v _) (by kernel_rfl) rfl rfl rfl rfl (ag rfl)) <| ah <| af <| aa ?_;show AR _ _ _ _ _ [0, 1] _;refine zm rfl <| za rfl <| ah <| aP ?_;obtain rfl := am H;exact And.intro rfl (Exists.intro _ (Exists.intro _ ⟨aF rfl (.refl _), aK [0, 0, 0] rfl, rfl, rfl⟩))
theorem gS (F : Nat) (o1 : Nat) (a2 : List UInt8) (a3 : List (List UInt8)) (t4 : Nat) (a5 : Int) (a6 : List (Int × (List UInt8) × (List UInt8) × List ((List UInt8) × List UInt8))) (t7 : Nat) (a8 : List UInt8) (r9 : List UInt8) (r10 : List UInt8) (H : gB F a2 a3 a5 a6 a8 = some (Res.ok (r9, r10))) : ACalls Tryz.prog 68 [.pt o1 0, S a8] [.obj o1 [S a2, .sk t4 a3.length, i64 a5, slE (Enc.prod Enc.int (Enc.prod Enc.str (Enc.prod Enc.str (Enc.sl (Enc.prod Enc.str Enc.str))))) a6 (some t7)], .stk t4 (Enc.str.fl a3), .tok t7 33] (fun e A' => e = .ret (S r9) ∧ A' = [.obj o1 [S r10, .sk t4 a3.length, i64 a5, slE (Enc.prod Enc.int (Enc.prod Enc.str (Enc.prod Enc.str (Enc.sl (Enc.prod Enc.str Enc.str))))) a6 (some t7)], .stk t4 (Enc.str.fl a3), .tok t7 33]) := qr F o1 a2 a3 t4 a5 a6 t7 a8 _ H
theorem gc (F : Nat) (o1 : Nat) (a2 : List UInt8) (a3 : List (List UInt8)) (t4 : Nat) (a5 : Int) (a6 : List (Int × (List UInt8) × (List UInt8) × List ((List UInt8) × List UInt8))) (t7 : Nat) (a8 : List UInt8) (e : Int) (H : gB F a2 a3 a5 a6 a8 = some (Res.pan e)) : ACalls Tryz.prog 68 [.pt o1 0, S a8] [.obj o1 [S a2, .sk t4 a3.length, i64 a5, slE (Enc.prod Enc.int (Enc.prod Enc.str (Enc.prod Enc.str (Enc.sl (Enc.prod Enc.str Enc.str))))) a6 (some t7)], .stk t4 (Enc.str.fl a3), .tok t7 33] (fun ae A' => ae = .pan ((fun e => cX (.iface 46 (.agg #[.int .i64 e]))) e) ∧ A' = []) := qr F o1 a2 a3 t4 a5 a6 t7 a8 _ H
set_option maxRecDepth 100000 in
set_option maxHeartbeats 1000000 in
theorem nY (F : Nat) (o1 : Nat) (a2 : List UInt8) (a3 : List (List UInt8)) (t4 : Nat) (a5 : Int) (a6 : List (Int × (List UInt8) × (List UInt8) × List ((List UInt8) × List UInt8))) (t7 : Nat) (r8 : Bool) (r9 : List UInt8) (H : jl F a2 a3 a5 a6 = some (r8, r9)) : ACalls Tryz.prog 70 [.pt o1 0] [.obj o1 [S a2, .sk t4 a3.length, i64 a5, slE (Enc.prod Enc.int (Enc.prod Enc.str (Enc.prod Enc.str (Enc.sl (Enc.prod Enc.str Enc.str))))) a6 (some t7)], .stk t4 (Enc.str.fl a3), .tok t7 33] (fun e A' => e = .ret (B r8) ∧ A' = [.obj o1 [S r9, .sk t4 a3.length, i64 a5, slE (Enc.prod Enc.int (Enc.prod Enc.str (Enc.prod Enc.str (Enc.sl (Enc.prod Enc.str Enc.str))))) a6 (some t7)], .stk t4 (Enc.str.fl a3), .tok t7 33]) := by
 unfold jl at H
 refine ay Tryz.func70 rfl rfl ?_;show AW _ _ 24 _ _ _;refine af <| aa ?_;show AR _ _ _ _ _ [0] _;refine za rfl <| ah <| af <| aa ?_;show AR _ _ _ _ _ [0, 1, 2, 3, 4, 5] _;refine zS rfl (ai (av := .pt _ _) rfl) <| zS rfl (ar rfl) <| zS rfl (ak (n := 0) (by kernel_rfl) rfl) <| zR rfl (aq (i := 0) ac rfl rfl rfl rfl) <| zS rfl (aZ ac rfl) <| za rfl <| ah <| af ?_;obtain ⟨g10, H⟩ := aR H;obtain ⟨g11, H⟩ := aR H;obtain ⟨x12, e13, H⟩ := bB H;refine aa ?_;show AR _ _ _ _ _ [0, 1, 2, 3, 4, 5, 6, 7, 8] _;refine zS rfl (ai (av := .pt _ _) rfl) <| zS rfl (ai (av := .pt _ _) rfl) <| zS rfl (ar rfl) <| zS rfl (ak (n := 0) (by kernel_rfl) rfl) <| zR rfl (aq (i := 0) ac rfl rfl rfl rfl) <| ap rfl rfl (aI rfl vY rfl (show ACalls _ _ _ [] (Ret (S x12) []) from by subst e13; exact rP a2 ([9, 10, 13, 32] : List UInt8) (mI g10) g11) ?_);refine zS rfl (ar rfl) <| zS rfl (ak (n := 0) (by kernel_rfl) rfl) <| s0 rfl rfl (aB (i := 0) (c := .v _) (by kernel_rfl) rfl rfl rfl rfl (ag rfl)) <| ah <| af <| aa ?_;show AR _ _ _ _ _ [0, 1, 2, 3, 4, 5, 6, 7] _
 refine zS rfl (ai (av := .pt _ _) rfl) <| zS rfl (ar rfl) <| zS rfl (ak (n := 0) (by kernel_rfl) rfl) <| zR rfl (aq (i := 0) ac rfl rfl rfl rfl) <| zS rfl (aZ ac rfl) <| zm rfl <| zS rfl (bQ rfl rfl) <| za rfl <| ah <| aP ?_;obtain ⟨rfl, rfl⟩ := fW H;exact And.intro rfl (Exists.intro _ (Exists.intro _ ⟨aF rfl (.refl _), aK [0, 0, 0] rfl, rfl, rfl⟩))
set_option maxRecDepth 100000 in
set_option maxHeartbeats 1000000 in
theorem qv (F : Nat) (o1 : Nat) (a2 : List UInt8) (a3 : List (List UInt8)) (t4 : Nat) (a5 : Int) (a6 : List (Int × (List UInt8) × (List UInt8) × List ((List UInt8) × List UInt8))) (t7 : Nat) (rv : Res ((List UInt8) × (List UInt8))) (H : km F a2 a3 a5 a6 = some rv) : ACalls Tryz.prog 69 [.pt o1 0] [.obj o1 [S a2, .sk t4 a3.length, i64 a5, slE (Enc.prod Enc.int (Enc.prod Enc.str (Enc.prod Enc.str (Enc.sl (Enc.prod Enc.str Enc.str))))) a6 (some t7)], .stk t4 (Enc.str.fl a3), .tok t7 33] (kE (fun (r : (List UInt8) × (List UInt8)) => (fun e A' => e = .ret (S r.1) ∧ A' = [.obj o1 [S r.2, .sk t4 a3.length, i64 a5, slE (Enc.prod Enc.int (Enc.prod Enc.str (Enc.prod Enc.str (Enc.sl (Enc.prod Enc.str Enc.str))))) a6 (some t7)], .stk t4 (Enc.str.fl a3), .tok t7 33])) (fun e => cX (.iface 46 (.agg #[.int .i64 e]))) rv) := by
 unfold km at H
 refine ay Tryz.func69 rfl rfl ?_;show AW _ _ 43 _ _ _;refine af <| aa ?_;show AR _ _ _ _ _ [0] _;refine za rfl <| ah <| af <| aa ?_;show AR _ _ _ _ _ [0] _;refine za rfl <| ah <| bw (X := Int) (fun y21 => ⟨[(0, .pt o1 0), (3, i64 y21)], [], [.obj o1 [S a2, .sk t4 a3.length, i64 a5, slE (Enc.prod Enc.int (Enc.prod Enc.str (Enc.prod Enc.str (Enc.sl (Enc.prod Enc.str Enc.str))))) a6 (some t7)], .stk t4 (Enc.str.fl a3), .tok t7 33]⟩) (fun y21 => hZ F a2 y21 = some rv) ?_ ?_
 ·refine aQ <| cJ (X := Nat × Int) (fun (n12, y10) => ⟨[(0, .pt o1 0), (3, i64 y10)], [], [.obj o1 [S a2, .sk t4 a3.length, i64 a5, slE (Enc.prod Enc.int (Enc.prod Enc.str (Enc.prod Enc.str (Enc.sl (Enc.prod Enc.str Enc.str))))) a6 (some t7)], .stk t4 (Enc.str.fl a3), .tok t7 33]⟩) (fun (n12, y10) => js F a2 n12 y10 = some rv) (fun (n12, y10) => n12) (F, 0) H (aW [0, 0, 0] (.cons (.refl _) (.cons (.refl _) (.nil _))) rfl) ?_;rintro ⟨n12, y10⟩ H;obtain ⟨n12, rfl, H⟩ := dz H;replace H : jt F a2 (js F a2 n12) y10 = some rv := H
  unfold jt at H
  refine af <| af ?_;obtain ⟨g14, H⟩ := cC H;obtain ⟨x15, e16, H⟩ := bB H;obtain ⟨x17, e18, H⟩ := bB H;refine aa ?_;show AR _ _ _ _ _ [0, 1, 2, 3, 4, 5, 6, 7, 8, 9, 10, 11, 12, 13, 14, 15, 16] _;refine zm rfl <| zS rfl (ai (av := .pt _ _) rfl) <| zS rfl (ar rfl) <| zS rfl (ak (n := 0) (by kernel_rfl) rfl) <| zR rfl (aq (i := 0) ac rfl rfl rfl rfl) <| zS rfl (aZ ac rfl) <| zS rfl (bQ rfl rfl) <| zm rfl <| bi (l := []) 21 (B ((decide (y10 < (a2.length : Int))) && (decide (0 ≤ x17)))) (fun K => ?_) ?_
  ·rcases ao (decide (y10 < (a2.length : Int))) with h13 | h13
   ·refine zU h13 rfl (ai (av := .pt _ _) rfl) <| zU h13 rfl (ar rfl) <| zU h13 rfl (ak (n := 0) (by kernel_rfl) rfl) <| zT h13 rfl (ci rfl rfl (aq (i := 0) ac rfl rfl rfl rfl) ?_);refine zM h13 rfl <| zU h13 rfl (br ac rfl rfl (g14 h13) e16) <| zT h13 rfl (aI rfl nQ rfl (show ACalls _ _ _ [] (Ret (i64 x17) []) from by subst e18; exact eB xmla_k1 x15) ?_);refine zU h13 rfl (eC rfl rfl) <| zS rfl (aL (av := .v _) rfl h13 rfl) ?_;exact K _ 8 _ (az (cQ h13)) rfl rfl
   ·refine zF h13 rfl <| zF h13 rfl <| zF h13 rfl <| zF h13 rfl <| zF h13 rfl <| zF h13 rfl <| zF h13 rfl <| zF h13 rfl <| zS rfl (aJ (av := .v _) rfl h13 rfl) ?_;exact K _ 8 _ (az (cR h13)) rfl rfl
  refine ah <| ax rfl (fun c19 => ?_) (fun c19 => ?_)
  ·replace H := ba c19 H;refine aC <| aQ ?_;obtain ⟨g20, H⟩ := aR H;refine aa ?_;show AR _ _ _ _ _ [0, 1, 2] _;refine zm rfl <| zS rfl (cH rfl rfl g20) <| za rfl <| ah ?_;exact Exists.intro (n12, y10 + 1) ⟨H, Nat.lt_succ_self _, aW [0, 0, 0] (.cons (.refl _) (.cons (.refl _) (.nil _))) rfl⟩
  ·replace H := bb c19 H;refine cf ?_;exact Exists.intro y10 ⟨H, aW [0, 0, 0] (.cons (.refl _) (.cons (.refl _) (.nil _))) rfl⟩
 rintro y21 H;replace H : hZ F a2 y21 = some rv := H
 unfold hZ at H
 refine af ?_;obtain ⟨g23, H⟩ := aR H;obtain ⟨x24, e25, H⟩ := bB H;refine aa ?_;show AR _ _ _ _ _ [0, 1, 2, 3, 4, 5, 6] _;refine zS rfl (ai (av := .pt _ _) rfl) <| zS rfl (ar rfl) <| zS rfl (ak (n := 0) (by kernel_rfl) rfl) <| zR rfl (aq (i := 0) ac rfl rfl rfl rfl) <| zm rfl <| zS rfl (np ac rfl rfl g23 e25) <| za rfl <| ah <| af ?_;obtain ⟨x26, e27, H⟩ := ep H
 rcases Or.symm (cN H) with ⟨p30, e29, H⟩ | ⟨x28, e29, H⟩
 ·subst H;refine aa ?_;show AR _ _ _ _ _ [0, 1, 2] _;refine zm rfl <| ap rfl rfl (aI rfl ri rfl (nK F x24 x26 e27) ?_);refine ap rfl rfl (bE (c := cX (.iface 46 (.agg #[.int .i64 p30]))) [] rfl bS rfl (bV F x26 p30 e29) rfl ?_);exact And.intro rfl (Exists.intro [] ⟨bf _, rfl, rfl⟩)
 refine aa ?_;show AR _ _ _ _ _ [0, 1, 2] _;refine zm rfl <| ap rfl rfl (aI rfl ri rfl (nK F x24 x26 e27) ?_);refine ap rfl rfl (aI rfl bS rfl (cc F x26 e29) ?_);refine ah <| af ?_;obtain ⟨g31, H⟩ := aR H;obtain ⟨x32, e33, H⟩ := bB H;refine aa ?_;show AR _ _ _ _ _ [0, 1, 2, 3, 4, 5, 6, 7, 8, 9] _;refine zS rfl (ai (av := .pt _ _) rfl) <| zS rfl (ai (av := .pt _ _) rfl) <| zS rfl (ar rfl) <| zS rfl (ak (n := 0) (by kernel_rfl) rfl) <| zR rfl (aq (i := 0) ac rfl rfl rfl rfl) <| zm rfl <| zS rfl (eD ac rfl rfl g31 e33) <| zS rfl (ar rfl) <| zS rfl (ak (n := 0) (by kernel_rfl) rfl) <| s0 rfl rfl (aB (i := 0) (c := .v _) (by kernel_rfl) rfl rfl rfl rfl (ag rfl)) <| ah <| af <| aa ?_;show AR _ _ _ _ _ [0, 1] _;refine zm rfl <| za rfl <| ah <| aP ?_;obtain rfl := am H;exact And.intro rfl (Exists.intro _ (Exists.intro _ ⟨aF rfl (.refl _), aK [0, 0, 0] rfl, rfl, rfl⟩))
theorem kP (F : Nat) (o1 : Nat) (a2 : List UInt8) (a3 : List (List UInt8)) (t4 : Nat) (a5 : Int) (a6 : List (Int × (List UInt8) × (List UInt8) × List ((List UInt8) × List UInt8))) (t7 : Nat) (r8 : List UInt8) (r9 : List UInt8) (H : km F a2 a3 a5 a6 = some (Res.ok (r8, r9))) : ACalls Tryz.prog 69 [.pt o1 0] [.obj o1 [S a2, .sk t4 a3.length, i64 a5, slE (Enc.prod Enc.int (Enc.prod Enc.str (Enc.prod Enc.str (Enc.sl (Enc.prod Enc.str Enc.str))))) a6 (some t7)], .stk t4 (Enc.str.fl a3), .tok t7 33] (fun e A' => e = .ret (S r8) ∧ A' = [.obj o1 [S r9, .sk t4 a3.length, i64 a5, slE (Enc.prod Enc.int (Enc.prod Enc.str (Enc.prod Enc.str (Enc.sl (Enc.prod Enc.str Enc.str))))) a6 (some t7)], .stk t4 (Enc.str.fl a3), .tok t7 33]) := qv F o1 a2 a3 t4 a5 a6 t7 _ H
theorem kb (F : Nat) (o1 : Nat) (a2 : List UInt8) (a3 : List (List UInt8)) (t4 : Nat) (a5 : Int) (a6 : List (Int × (List UInt8) × (List UInt8) × List ((List UInt8) × List UInt8))) (t7 : Nat) (e : Int) (H : km F a2 a3 a5 a6 = some (Res.pan e)) : ACalls Tryz.prog 69 [.pt o1 0] [.obj o1 [S a2, .sk t4 a3.length, i64 a5, slE (Enc.prod Enc.int (Enc.prod Enc.str (Enc.prod Enc.str (Enc.sl (Enc.prod Enc.str Enc.str))))) a6 (some t7)], .stk t4 (Enc.str.fl a3), .tok t7 33] (fun ae A' => ae = .pan ((fun e => cX (.iface 46 (.agg #[.int .i64 e]))) e) ∧ A' = []) := qv F o1 a2 a3 t4 a5 a6 t7 _ H
set_option maxRecDepth 100000 in
set_option maxHeartbeats 1000000 in
theorem oa (F : Nat) (a1 : List UInt8) (rv : Res ((List UInt8))) (H : gJ F a1 = some rv) : ACalls Tryz.prog 64 [S a1] [] (kE (fun (r : (List UInt8)) => (Ret (S r) [])) (fun e => cX (.iface 46 (.agg #[.int .i64 e]))) rv) := by
 unfold gJ at H
 refine ay Tryz.func64 rfl rfl ?_;show AW _ _ 14 _ _ _;refine af <| aa ?_;show AR _ _ _ _ _ [0] _;refine za rfl <| ah <| af ?_;obtain ⟨x3, x4, e5, H⟩ := cU H;refine aa ?_;show AR _ _ _ _ _ [0, 1, 2, 3, 4, 5, 6] _;refine zm rfl <| ap rfl rfl (aI rfl wh rfl (rI F a1 x3 x4 e5) ?_);refine zS rfl (ai (av := .tup _) rfl) <| zS rfl (aM (av := .v _) rfl rfl) <| zS rfl (aM (av := .v _) rfl rfl) <| za rfl <| za rfl <| ah <| af ?_
 rcases Or.symm (cN H) with ⟨p8, e7, H⟩ | ⟨x6, e7, H⟩
 ·subst H;refine aa ?_;show AR _ _ _ _ _ [0, 1, 2] _;refine zm rfl <| zS rfl (bR rfl rfl) <| ap rfl rfl (bE (c := cX (.iface 46 (.agg #[.int .i64 p8]))) [] rfl bS rfl (bV F (decide (x4 = 0)) p8 e7) rfl ?_);exact And.intro rfl (Exists.intro [] ⟨bf _, rfl, rfl⟩)
 refine aa ?_;show AR _ _ _ _ _ [0, 1, 2] _;refine zm rfl <| zS rfl (bR rfl rfl) <| ap rfl rfl (aI rfl bS rfl (cc F (decide (x4 = 0)) e7) ?_);refine ah <| af <| aa ?_;show AR _ _ _ _ _ [0, 1] _;refine zm rfl <| za rfl <| ah <| aP ?_;obtain rfl := am H;exact And.intro rfl (Exists.intro _ (Exists.intro _ ⟨aF rfl (.refl _), aK [] rfl, rfl, rfl⟩))
theorem lw (F : Nat) (a1 : List UInt8) (r2 : List UInt8) (H : gJ F a1 = some (Res.ok r2)) : ACalls Tryz.prog 64 [S a1] [] (Ret (S r2) []) := oa F a1 _ H
theorem kX (F : Nat) (a1 : List UInt8) (e : Int) (H : gJ F a1 = some (Res.pan e)) : ACalls Tryz.prog 64 [S a1] [] (fun ae A' => ae = .pan ((fun e => cX (.iface 46 (.agg #[.int .i64 e]))) e) ∧ A' = []) := oa F a1 _ H
abbrev _root_.Go.Av.aw := @Tryz.underlying24
set_option maxRecDepth 100000 in
set_option maxHeartbeats 1000000 in
theorem qs (F : Nat) (o1 : Nat) (a2 : List UInt8) (a3 : List (List UInt8)) (t4 : Nat) (a5 : Int) (a6 : List (Int × (List UInt8) × (List UInt8) × List ((List UInt8) × List UInt8))) (t7 : Nat) (a8 : List UInt8) (r9 : List (Int × (List UInt8) × (List UInt8) × List ((List UInt8) × List UInt8))) (H : lW F a2 a3 a5 a6 a8 = some r9) : ACalls Tryz.prog 66 [.pt o1 0, S a8] [.obj o1 [S a2, .sk t4 a3.length, i64 a5, slE (Enc.prod Enc.int (Enc.prod Enc.str (Enc.prod Enc.str (Enc.sl (Enc.prod Enc.str Enc.str))))) a6 (some t7)], .stk t4 (Enc.str.fl a3), .tok t7 33] (fun e A' => e = .ret (.tup []) ∧ ∃ t10, A' = [.obj o1 [S a2, .sk t4 a3.length, i64 a5, slE (Enc.prod Enc.int (Enc.prod Enc.str (Enc.prod Enc.str (Enc.sl (Enc.prod Enc.str Enc.str))))) r9 (some t10)], .stk t4 (Enc.str.fl a3), .tok t10 33]) := by
 unfold lW at H
 refine ay Tryz.func66 rfl rfl ?_;show AW _ _ 17 _ _ _;refine af <| aa ?_;show AR _ _ _ _ _ [0, 1] _;refine zm rfl <| zS rfl (nx rfl rfl) <| ah <| ax rfl (fun c11 => ?_) (fun c11 => ?_)
 ·replace H := ba c11 H;obtain ⟨g13, H⟩ := aR H;obtain ⟨x14, e15, H⟩ := bB H;refine aa ?_;show AR _ _ _ _ _ [0, 1, 2, 3, 4, 5, 6, 7, 8, 9, 10, 11] _;refine zS rfl (ai (av := .pt _ _) rfl) <| zS rfl (ai (av := .pt _ _) rfl) <| zS rfl (ar rfl) <| zS rfl (ak (n := 3) (by kernel_rfl) rfl) <| zR rfl (aq (i := 0) aw rfl rfl rfl rfl) <| zm rfl <| zS rfl (fi (zs := [.int .i64 0, .string ⟨#[]⟩, .string ⟨#[]⟩, .slice none 0 0]) (ps := [(0, 1), (1, 1), (2, 1), (3, 1)]) (cs := [i64 2, S ([] : List UInt8), S a8, ab]) (by kernel_rfl) rfl rfl) <| zR rfl (fc (ds := [i64 2, S ([] : List UInt8), S a8, slE (Enc.prod Enc.str Enc.str) ([] : List ((List UInt8) × List UInt8)) none]) 12 (.cons (.refl _) (.cons (.refl _) (.cons (.refl _) (.cons (.nil _) (.nil))))) (hc := rfl) <| ej (E := (Enc.prod Enc.int (Enc.prod Enc.str (Enc.prod Enc.str (Enc.sl (Enc.prod Enc.str Enc.str)))))) (bytes := 64) (zs := [.int .i64 0, .string ⟨#[]⟩, .string ⟨#[]⟩, .slice none 0 0]) (l := ([(2, ([] : List UInt8), a8, ([] : List ((List UInt8) × List UInt8)))] : List (Int × (List UInt8) × (List UInt8) × List ((List UInt8) × List UInt8)))) aw (by kernel_rfl) (by kernel_rfl) rfl rfl rfl rfl rfl) <| zX rfl (fK (E := (Enc.prod Enc.int (Enc.prod Enc.str (Enc.prod Enc.str (Enc.sl (Enc.prod Enc.str Enc.str)))))) (bytes := 64) 2 aw aw rfl (by kernel_rfl) rfl rfl rfl rfl g13 e15) ?_;rintro _ _ ⟨t12, rfl, rfl⟩
  refine zS rfl (ar rfl) <| zS rfl (ak (n := 3) (by kernel_rfl) rfl) <| s0 rfl rfl (aB (i := 0) (c := slE _ _ _) (by kernel_rfl) rfl rfl rfl rfl (ag rfl)) <| ah ?_;obtain rfl := am H;exact And.intro rfl (Exists.intro _ (Exists.intro _ ⟨bD rfl, aK [0, 0, 0] rfl, rfl, t12, rfl⟩))
 ·replace H := bb c11 H;refine aC ?_;obtain rfl := am H;exact And.intro rfl (Exists.intro _ (Exists.intro _ ⟨bD rfl, aK [0, 0, 0] rfl, rfl, t7, rfl⟩))
set_option maxRecDepth 100000 in
set_option maxHeartbeats 1000000 in
theorem qu (F : Nat) (o1 : Nat) (a2 : List UInt8) (a3 : List (List UInt8)) (t4 : Nat) (a5 : Int) (a6 : List (Int × (List UInt8) × (List UInt8) × List ((List UInt8) × List UInt8))) (t7 : Nat) (a8 : List UInt8) (rv : Res ((List (Int × (List UInt8) × (List UInt8) × List ((List UInt8) × List UInt8))) × (List (List UInt8)))) (H : kj F a2 a3 a5 a6 a8 = some rv) : ACalls Tryz.prog 71 [.pt o1 0, S a8] [.obj o1 [S a2, .sk t4 a3.length, i64 a5, slE (Enc.prod Enc.int (Enc.prod Enc.str (Enc.prod Enc.str (Enc.sl (Enc.prod Enc.str Enc.str))))) a6 (some t7)], .stk t4 (Enc.str.fl a3), .tok t7 33] (kE (fun (r : (List (Int × (List UInt8) × (List UInt8) × List ((List UInt8) × List UInt8))) × (List (List UInt8))) => (fun e A' => e = .ret (.tup []) ∧ ∃ t10 t12, A' = [.obj o1 [S a2, .sk t10 r.2.length, i64 a5, slE (Enc.prod Enc.int (Enc.prod Enc.str (Enc.prod Enc.str (Enc.sl (Enc.prod Enc.str Enc.str))))) r.1 (some t12)], .stk t10 (Enc.str.fl r.2), .tok t12 33])) (fun e => cX (.iface 46 (.agg #[.int .i64 e]))) rv) := by
 unfold kj at H
 refine ay Tryz.func71 rfl rfl ?_;show AW _ _ 45 _ _ _;refine af ?_;obtain ⟨g13, H⟩ := aR H;refine aa ?_;show AR _ _ _ _ _ [0, 1, 2, 3, 4, 5, 6] _;refine zS rfl (ai (av := .pt _ _) rfl) <| zS rfl (ar rfl) <| zS rfl (ak (n := 1) (by kernel_rfl) rfl) <| zR rfl (aq (i := 0) al rfl rfl rfl rfl) <| zS rfl (fI al rfl) <| zS rfl (ld rfl rfl g13) <| za rfl <| ah <| af ?_;obtain ⟨g15, H⟩ := cC H;obtain ⟨g16, H⟩ := cC H;obtain ⟨x17, e18, H⟩ := bB H
 rcases Or.symm (cN H) with ⟨p21, e20, H⟩ | ⟨x19, e20, H⟩
 ·subst H;refine aa ?_;show AR _ _ _ _ _ [0, 1, 2, 3, 4, 5, 6, 7, 8, 9, 10, 11, 12, 13] _;refine zm rfl <| zS rfl (eC rfl rfl) <| zm rfl <| bi (l := [13]) 23 (B ((decide (0 ≤ (a3.length : Int) - 1)) && (decide (x17 = a8)))) (fun K => ?_) ?_
  ·rcases ao (decide (0 ≤ (a3.length : Int) - 1)) with h14 | h14
   ·refine zU h14 rfl (ai (av := .pt _ _) rfl) <| zU h14 rfl (ar rfl) <| zU h14 rfl (ak (n := 1) (by kernel_rfl) rfl) <| zT h14 rfl (ci rfl rfl (aq (i := 0) al rfl rfl rfl rfl) ?_);refine zM h14 rfl <| zU h14 rfl (ly al (by kernel_rfl) rfl rfl (g15 h14)) <| zT h14 rfl (ci rfl rfl (pu (E := Enc.str) 1 ac rfl rfl rfl rfl (g16 h14) e18 rfl) ?_);refine zM h14 rfl <| zU h14 rfl (fT rfl rfl) <| zS rfl (aL (av := .v _) rfl h14 rfl) ?_;exact K _ 9 _ (az (cQ h14)) rfl rfl
   ·refine zF h14 rfl <| zF h14 rfl <| zF h14 rfl <| zF h14 rfl <| zF h14 rfl <| zF h14 rfl <| zF h14 rfl <| zF h14 rfl <| zF h14 rfl <| zS rfl (aJ (av := .v _) rfl h14 rfl) ?_;exact K _ 9 _ (az (cR h14)) rfl rfl
  refine ap rfl rfl (bE (c := cX (.iface 46 (.agg #[.int .i64 p21]))) [] rfl bS rfl (bV F ((decide (0 ≤ (a3.length : Int) - 1)) && (decide (x17 = a8))) p21 e20) rfl ?_);exact And.intro rfl (Exists.intro [] ⟨bf _, rfl, rfl⟩)
 refine aa ?_;show AR _ _ _ _ _ [0, 1, 2, 3, 4, 5, 6, 7, 8, 9, 10, 11, 12, 13] _;refine zm rfl <| zS rfl (eC rfl rfl) <| zm rfl <| bi (l := [13]) 23 (B ((decide (0 ≤ (a3.length : Int) - 1)) && (decide (x17 = a8)))) (fun K => ?_) ?_
 ·rcases ao (decide (0 ≤ (a3.length : Int) - 1)) with h14 | h14
  ·refine zU h14 rfl (ai (av := .pt _ _) rfl) <| zU h14 rfl (ar rfl) <| zU h14 rfl (ak (n := 1) (by kernel_rfl) rfl) <| zT h14 rfl (ci rfl rfl (aq (i := 0) al rfl rfl rfl rfl) ?_);refine zM h14 rfl <| zU h14 rfl (ly al (by kernel_rfl) rfl rfl (g15 h14)) <| zT h14 rfl (ci rfl rfl (pu (E := Enc.str) 1 ac rfl rfl rfl rfl (g16 h14) e18 rfl) ?_);refine zM h14 rfl <| zU h14 rfl (fT rfl rfl) <| zS rfl (aL (av := .v _) rfl h14 rfl) ?_;exact K _ 9 _ (az (cQ h14)) rfl rfl
  ·refine zF h14 rfl <| zF h14 rfl <| zF h14 rfl <| zF h14 rfl <| zF h14 rfl <| zF h14 rfl <| zF h14 rfl <| zF h14 rfl <| zF h14 rfl <| zS rfl (aJ (av := .v _) rfl h14 rfl) ?_;exact K _ 9 _ (az (cR h14)) rfl rfl
 refine ap rfl rfl (aI rfl bS rfl (cc F ((decide (0 ≤ (a3.length : Int) - 1)) && (decide (x17 = a8))) e20) ?_);refine ah <| af ?_;obtain ⟨g22, H⟩ := aR H;obtain ⟨x23, e24, H⟩ := bB H;refine aa ?_;show AR _ _ _ _ _ [0, 1, 2, 3, 4, 5, 6, 7, 8, 9] _;refine zS rfl (ai (av := .pt _ _) rfl) <| zS rfl (ai (av := .pt _ _) rfl) <| zS rfl (ar rfl) <| zS rfl (ak (n := 1) (by kernel_rfl) rfl) <| zR rfl (aq (i := 0) al rfl rfl rfl rfl) <| zm rfl <| zR rfl (uu (E := Enc.str) 1 al (by kernel_rfl) rfl rfl rfl rfl g22 e24) <| zS rfl (ar rfl) <| zS rfl (ak (n := 1) (by kernel_rfl) rfl) <| s0 rfl rfl (aB (i := 0) (c := .sk _ _) (by kernel_rfl) rfl rfl rfl rfl (ag rfl)) <| ah ?_;obtain ⟨g26, H⟩ := aR H;obtain ⟨x27, e28, H⟩ := bB H;refine aa ?_;show AR _ _ _ _ _ [0, 1, 2, 3, 4, 5, 6, 7, 8, 9, 10, 11] _
 refine zS rfl (ai (av := .pt _ _) rfl) <| zS rfl (ai (av := .pt _ _) rfl) <| zS rfl (ar rfl) <| zS rfl (ak (n := 3) (by kernel_rfl) rfl) <| zR rfl (aq (i := 0) aw rfl rfl rfl rfl) <| zm rfl <| zS rfl (fi (zs := [.int .i64 0, .string ⟨#[]⟩, .string ⟨#[]⟩, .slice none 0 0]) (ps := [(0, 1), (1, 1), (2, 1), (3, 1)]) (cs := [i64 1, S a8, S ([] : List UInt8), ab]) (by kernel_rfl) rfl rfl) <| zR rfl (fc (ds := [i64 1, S a8, S ([] : List UInt8), slE (Enc.prod Enc.str Enc.str) ([] : List ((List UInt8) × List UInt8)) none]) 40 (.cons (.refl _) (.cons (.refl _) (.cons (.refl _) (.cons (.nil _) (.nil))))) (hc := rfl) <| ej (E := (Enc.prod Enc.int (Enc.prod Enc.str (Enc.prod Enc.str (Enc.sl (Enc.prod Enc.str Enc.str)))))) (bytes := 64) (zs := [.int .i64 0, .string ⟨#[]⟩, .string ⟨#[]⟩, .slice none 0 0]) (l := ([(1, a8, ([] : List UInt8), ([] : List ((List UInt8) × List UInt8)))] : List (Int × (List UInt8) × (List UInt8) × List ((List UInt8) × List UInt8)))) aw (by kernel_rfl) (by kernel_rfl) rfl rfl rfl rfl rfl) <| zX rfl (fK (E := (Enc.prod Enc.int (Enc.prod Enc.str (Enc.prod Enc.str (Enc.sl (Enc.prod Enc.str Enc.str)))))) (bytes := 64) 2 aw aw rfl (by kernel_rfl) rfl rfl rfl rfl g26 e28) ?_;rintro _ _ ⟨t25, rfl, rfl⟩;refine zS rfl (ar rfl) <| zS rfl (ak (n := 3) (by kernel_rfl) rfl) <| s0 rfl rfl (aB (i := 0) (c := slE _ _ _) (by kernel_rfl) rfl rfl rfl rfl (ag rfl)) <| ah ?_
 obtain rfl := am H;exact And.intro rfl (Exists.intro _ (Exists.intro _ ⟨bD rfl, aK [0, 0, 0] rfl, rfl, t4, t25, rfl⟩))
theorem mO (F : Nat) (o1 : Nat) (a2 : List UInt8) (a3 : List (List UInt8)) (t4 : Nat) (a5 : Int) (a6 : List (Int × (List UInt8) × (List UInt8) × List ((List UInt8) × List UInt8))) (t7 : Nat) (a8 : List UInt8) (r11 : List (Int × (List UInt8) × (List UInt8) × List ((List UInt8) × List UInt8))) (r9 : List (List UInt8)) (H : kj F a2 a3 a5 a6 a8 = some (Res.ok (r11, r9))) : ACalls Tryz.prog 71 [.pt o1 0, S a8] [.obj o1 [S a2, .sk t4 a3.length, i64 a5, slE (Enc.prod Enc.int (Enc.prod Enc.str (Enc.prod Enc.str (Enc.sl (Enc.prod Enc.str Enc.str))))) a6 (some t7)], .stk t4 (Enc.str.fl a3), .tok t7 33] (fun e A' => e = .ret (.tup []) ∧ ∃ t10 t12, A' = [.obj o1 [S a2, .sk t10 r9.length, i64 a5, slE (Enc.prod Enc.int (Enc.prod Enc.str (Enc.prod Enc.str (Enc.sl (Enc.prod Enc.str Enc.str))))) r11 (some t12)], .stk t10 (Enc.str.fl r9), .tok t12 33]) := qu F o1 a2 a3 t4 a5 a6 t7 a8 _ H
theorem md (F : Nat) (o1 : Nat) (a2 : List UInt8) (a3 : List (List UInt8)) (t4 : Nat) (a5 : Int) (a6 : List (Int × (List UInt8) × (List UInt8) × List ((List UInt8) × List UInt8))) (t7 : Nat) (a8 : List UInt8) (e : Int) (H : kj F a2 a3 a5 a6 a8 = some (Res.pan e)) : ACalls Tryz.prog 71 [.pt o1 0, S a8] [.obj o1 [S a2, .sk t4 a3.length, i64 a5, slE (Enc.prod Enc.int (Enc.prod Enc.str (Enc.prod Enc.str (Enc.sl (Enc.prod Enc.str Enc.str))))) a6 (some t7)], .stk t4 (Enc.str.fl a3), .tok t7 33] (fun ae A' => ae = .pan ((fun e => cX (.iface 46 (.agg #[.int .i64 e]))) e) ∧ A' = []) := qu F o1 a2 a3 t4 a5 a6 t7 a8 _ H
set_option maxRecDepth 100000 in
set_option maxHeartbeats 1000000 in
theorem pn (F : Nat) (o1 : Nat) (a2 : List UInt8) (a3 : List (List UInt8)) (t4 : Nat) (a5 : Int) (a6 : List (Int × (List UInt8) × (List UInt8) × List ((List UInt8) × List UInt8))) (t7 : Nat) (rv : Res (Bool × (List UInt8) × (List (Int × (List UInt8) × (List UInt8) × List ((List UInt8) × List UInt8))))) (H : gZ F a2 a3 a5 a6 = some rv) : ACalls Tryz.prog 37 [.pt o1 0] [.obj o1 [S a2, .sk t4 a3.length, i64 a5, slE (Enc.prod Enc.int (Enc.prod Enc.str (Enc.prod Enc.str (Enc.sl (Enc.prod Enc.str Enc.str))))) a6 (some t7)], .stk t4 (Enc.str.fl a3), .tok t7 33] (kE (fun (r : Bool × (List UInt8) × (List (Int × (List UInt8) × (List UInt8) × List ((List UInt8) × List UInt8)))) => (fun e A' => e = .ret (B r.1) ∧ ∃ t11, A' = [.obj o1 [S r.2.1, .sk t4 a3.length, i64 a5, slE (Enc.prod Enc.int (Enc.prod Enc.str (Enc.prod Enc.str (Enc.sl (Enc.prod Enc.str Enc.str))))) r.2.2 (some t11)], .stk t4 (Enc.str.fl a3), .tok t11 33])) (fun e => cX (.iface 46 (.agg #[.int .i64 e]))) rv) := by
 unfold gZ at H
 refine ay Tryz.func37 rfl rfl ?_;show AW _ _ 50 _ _ _;refine af <| aa ?_;show AR _ _ _ _ _ [0] _;refine za rfl <| ah <| af ?_;obtain ⟨x12, e13, H⟩ := bB H;refine aa ?_;show AR _ _ _ _ _ [0, 1, 2, 3, 4, 5] _;refine zS rfl (ai (av := .pt _ _) rfl) <| zS rfl (ar rfl) <| zS rfl (ak (n := 0) (by kernel_rfl) rfl) <| zR rfl (aq (i := 0) ac rfl rfl rfl rfl) <| ap rfl rfl (aI rfl nQ rfl (show ACalls _ _ _ [] (Ret (i64 x12) []) from by subst e13; exact eB a2 60) ?_);refine za rfl <| ah <| bw (X := Int) (fun y15 => ⟨[(0, .pt o1 0), (3, i64 y15)], [], [.obj o1 [S a2, .sk t4 a3.length, i64 a5, slE (Enc.prod Enc.int (Enc.prod Enc.str (Enc.prod Enc.str (Enc.sl (Enc.prod Enc.str Enc.str))))) a6 (some t7)], .stk t4 (Enc.str.fl a3), .tok t7 33]⟩) (fun y15 => eU F a2 a3 a5 a6 y15 = some rv) ?_ ?_
 ·refine af <| aa ?_;show AR _ _ _ _ _ [0, 1] _;refine zm rfl <| zS rfl (bQ rfl rfl) <| ah <| ax rfl (fun c14 => ?_) (fun c14 => ?_)
  ·replace H := ba c14 H;refine aa ?_;show AR _ _ _ _ _ [0, 1, 2, 3, 4, 5] _;refine zS rfl (ai (av := .pt _ _) rfl) <| zS rfl (ar rfl) <| zS rfl (ak (n := 0) (by kernel_rfl) rfl) <| zR rfl (aq (i := 0) ac rfl rfl rfl rfl) <| zS rfl (aZ ac rfl) <| za rfl <| ah ?_;exact Exists.intro (a2.length : Int) ⟨H, aW [0, 0, 0] (.cons (.refl _) (.cons (.refl _) (.nil _))) rfl⟩
  ·replace H := bb c14 H;refine aC ?_;exact Exists.intro x12 ⟨H, aW [0, 0, 0] (.cons (.refl _) (.cons (.refl _) (.nil _))) rfl⟩
 rintro y15 H;replace H : eU F a2 a3 a5 a6 y15 = some rv := H
 unfold eU at H
 refine af <| af <| aa ?_;show AR _ _ _ _ _ [0, 1] _;refine zm rfl <| zS rfl (bR rfl rfl) <| ah <| ax rfl (fun c17 => ?_) (fun c17 => ?_)
 ·replace H := ba c17 H;refine af <| aa ?_;show AR _ _ _ _ _ [0] _;refine za rfl <| ah <| aP ?_;obtain rfl := am H;exact And.intro rfl (Exists.intro _ (Exists.intro _ ⟨aF rfl (.refl _), aK [0, 0, 0] rfl, rfl, t7, rfl⟩))
 ·replace H := bb c17 H;refine aC <| af ?_;obtain ⟨g18, H⟩ := aR H;obtain ⟨x19, e20, H⟩ := bB H;refine aa ?_;show AR _ _ _ _ _ [0, 1, 2, 3, 4, 5, 6] _;refine zS rfl (ai (av := .pt _ _) rfl) <| zS rfl (ar rfl) <| zS rfl (ak (n := 0) (by kernel_rfl) rfl) <| zR rfl (aq (i := 0) ac rfl rfl rfl rfl) <| zm rfl <| zS rfl (np ac rfl rfl g18 e20) <| za rfl <| ah <| af ?_;obtain ⟨g21, H⟩ := aR H;obtain ⟨x22, e23, H⟩ := bB H;refine aa ?_;show AR _ _ _ _ _ [0, 1, 2, 3, 4, 5, 6, 7, 8, 9] _;refine zS rfl (ai (av := .pt _ _) rfl) <| zS rfl (ai (av := .pt _ _) rfl) <| zS rfl (ar rfl) <| zS rfl (ak (n := 0) (by kernel_rfl) rfl) <| zR rfl (aq (i := 0) ac rfl rfl rfl rfl) <| zm rfl <| zS rfl (eD ac rfl rfl g21 e23) <| zS rfl (ar rfl) <| zS rfl (ak (n := 0) (by kernel_rfl) rfl) <| s0 rfl rfl (aB (i := 0) (c := .v _) (by kernel_rfl) rfl rfl rfl rfl (ag rfl)) <| ah <| af ?_
  rcases Or.symm (cN H) with ⟨p26, e25, H⟩ | ⟨x24, e25, H⟩
  ·subst H;refine aa ?_;show AR _ _ _ _ _ [0, 1, 2] _;refine zm rfl <| ap rfl rfl (bE (c := cX (.iface 46 (.agg #[.int .i64 p26]))) [] rfl lQ rfl (kX F x19 p26 e25) rfl ?_);exact And.intro rfl (Exists.intro [] ⟨bf _, rfl, rfl⟩)
  refine aa ?_;show AR _ _ _ _ _ [0, 1, 2] _;refine zm rfl <| ap rfl rfl (aI rfl lQ rfl (lw F x19 x24 e25) ?_);refine za rfl <| ah <| af <| af <| aa ?_;show AR _ _ _ _ _ [0, 1, 2, 3, 4, 5] _;refine zS rfl (ai (av := .pt _ _) rfl) <| zS rfl (ar rfl) <| zS rfl (ak (n := 1) (by kernel_rfl) rfl) <| zR rfl (aq (i := 0) al rfl rfl rfl rfl) <| zS rfl (fI al rfl) <| zS rfl (bR rfl rfl) <| ah <| ax rfl (fun c27 => ?_) (fun c27 => ?_)
  ·replace H := ba c27 H;refine af ?_;obtain ⟨x28, e29, H⟩ := ep H
   rcases Or.symm (cN H) with ⟨p32, e31, H⟩ | ⟨x30, e31, H⟩
   ·subst H;refine aa ?_;show AR _ _ _ _ _ [0, 1, 2, 3] _;refine zm rfl <| ap rfl rfl (aI rfl qY rfl (pp F x19 x28 e29) ?_);refine zS rfl (fT rfl rfl) <| ap rfl rfl (bE (c := cX (.iface 46 (.agg #[.int .i64 p32]))) [] rfl bS rfl (bV F (decide (x28 = ([] : List UInt8))) p32 e31) rfl ?_);exact And.intro rfl (Exists.intro [] ⟨bf _, rfl, rfl⟩)
   refine aa ?_;show AR _ _ _ _ _ [0, 1, 2, 3] _;refine zm rfl <| ap rfl rfl (aI rfl qY rfl (pp F x19 x28 e29) ?_);refine zS rfl (fT rfl rfl) <| ap rfl rfl (aI rfl bS rfl (cc F (decide (x28 = ([] : List UInt8))) e31) ?_);refine ah <| af <| aa ?_;show AR _ _ _ _ _ [0] _;refine za rfl <| ah <| aP ?_;obtain rfl := am H;exact And.intro rfl (Exists.intro _ (Exists.intro _ ⟨aF rfl (.refl _), aK [0, 0, 0] rfl, rfl, t7, rfl⟩))
  ·replace H := bb c27 H;refine aC <| af ?_;obtain ⟨x33, e34, H⟩ := ep H;refine aa ?_;show AR _ _ _ _ _ [0, 1, 2] _;refine zS rfl (ai (av := .pt _ _) rfl) <| zm rfl <| ap rfl rfl (be [0, 0, 0] rfl qX rfl (qs F o1 x22 a3 t4 a5 a6 t7 x24 x33 e34) rfl (fun c A' h => by cases h.1) ?_)
   rintro av A' ⟨h, t35, rfl⟩; cases h
   refine ah <| af <| aa ?_;show AR _ _ _ _ _ [0] _;refine za rfl <| ah <| aP ?_;obtain rfl := am H;exact And.intro rfl (Exists.intro _ (Exists.intro _ ⟨aF rfl (.refl _), aK [0, 0, 0] rfl, rfl, t35, rfl⟩))
theorem pX (F : Nat) (o1 : Nat) (a2 : List UInt8) (a3 : List (List UInt8)) (t4 : Nat) (a5 : Int) (a6 : List (Int × (List UInt8) × (List UInt8) × List ((List UInt8) × List UInt8))) (t7 : Nat) (r8 : Bool) (r9 : List UInt8) (r10 : List (Int × (List UInt8) × (List UInt8) × List ((List UInt8) × List UInt8))) (H : gZ F a2 a3 a5 a6 = some (Res.ok (r8, r9, r10))) : ACalls Tryz.prog 37 [.pt o1 0] [.obj o1 [S a2, .sk t4 a3.length, i64 a5, slE (Enc.prod Enc.int (Enc.prod Enc.str (Enc.prod Enc.str (Enc.sl (Enc.prod Enc.str Enc.str))))) a6 (some t7)], .stk t4 (Enc.str.fl a3), .tok t7 33] (fun e A' => e = .ret (B r8) ∧ ∃ t11, A' = [.obj o1 [S r9, .sk t4 a3.length, i64 a5, slE (Enc.prod Enc.int (Enc.prod Enc.str (Enc.prod Enc.str (Enc.sl (Enc.prod Enc.str Enc.str))))) r10 (some t11)], .stk t4 (Enc.str.fl a3), .tok t11 33]) := pn F o1 a2 a3 t4 a5 a6 t7 _ H
theorem oZ (F : Nat) (o1 : Nat) (a2 : List UInt8) (a3 : List (List UInt8)) (t4 : Nat) (a5 : Int) (a6 : List (Int × (List UInt8) × (List UInt8) × List ((List UInt8) × List UInt8))) (t7 : Nat) (e : Int) (H : gZ F a2 a3 a5 a6 = some (Res.pan e)) : ACalls Tryz.prog 37 [.pt o1 0] [.obj o1 [S a2, .sk t4 a3.length, i64 a5, slE (Enc.prod Enc.int (Enc.prod Enc.str (Enc.prod Enc.str (Enc.sl (Enc.prod Enc.str Enc.str))))) a6 (some t7)], .stk t4 (Enc.str.fl a3), .tok t7 33] (fun ae A' => ae = .pan ((fun e => cX (.iface 46 (.agg #[.int .i64 e]))) e) ∧ A' = []) := pn F o1 a2 a3 t4 a5 a6 t7 _ H
set_option maxRecDepth 100000 in
set_option maxHeartbeats 1000000 in
theorem mQ (F : Nat) (o1 : Nat) (a2 : List UInt8) (a3 : List (List UInt8)) (t4 : Nat) (a5 : Int) (a6 : List (Int × (List UInt8) × (List UInt8) × List ((List UInt8) × List UInt8))) (t7 : Nat) (rv : Res (Bool × (List UInt8))) (H : ia F a2 a3 a5 a6 = some rv) : ACalls Tryz.prog 38 [.pt o1 0] [.obj o1 [S a2, .sk t4 a3.length, i64 a5, slE (Enc.prod Enc.int (Enc.prod Enc.str (Enc.prod Enc.str (Enc.sl (Enc.prod Enc.str Enc.str))))) a6 (some t7)], .stk t4 (Enc.str.fl a3), .tok t7 33] (kE (fun (r : Bool × (List UInt8)) => (fun e A' => e = .ret (B r.1) ∧ A' = [.obj o1 [S r.2, .sk t4 a3.length, i64 a5, slE (Enc.prod Enc.int (Enc.prod Enc.str (Enc.prod Enc.str (Enc.sl (Enc.prod Enc.str Enc.str))))) a6 (some t7)], .stk t4 (Enc.str.fl a3), .tok t7 33])) (fun e => cX (.iface 46 (.agg #[.int .i64 e]))) rv) := by
 unfold ia at H
 refine ay Tryz.func38 rfl rfl ?_;show AW _ _ 8 _ _ _;refine af <| aa ?_;show AR _ _ _ _ _ [0] _;refine za rfl <| ah <| af <| af ?_;obtain ⟨x10, x11, e12, H⟩ := cU H;refine aa ?_;show AR _ _ _ _ _ [0, 1, 2] _;refine zS rfl (ai (av := .pt _ _) rfl) <| ap rfl rfl (be [0, 0, 0] rfl dN rfl (dK F o1 a2 a3 t4 a5 a6 t7 ([60, 33, 45, 45] : List UInt8) x10 x11 e12) rfl (fun c A' h => by cases h.1) ?_)
 rintro av A' ⟨h, rfl⟩; cases h
 refine zS rfl (cd rfl) <| ah <| ax rfl (fun c13 => ?_) (fun c13 => ?_)
 ·replace H := ba c13 H;refine af <| aa ?_;show AR _ _ _ _ _ [0] _;refine za rfl <| ah <| aP ?_;obtain rfl := am H;exact And.intro rfl (Exists.intro _ (Exists.intro _ ⟨aF rfl (.refl _), aK [0, 0, 0] rfl, rfl, rfl⟩))
 ·replace H := bb c13 H;refine aC <| af ?_
  rcases Or.symm (cN H) with ⟨p16, e15, H⟩ | ⟨x14, e15, H⟩
  ·subst H;refine aa ?_;show AR _ _ _ _ _ [0, 1] _;refine zS rfl (ai (av := .pt _ _) rfl) <| ap rfl rfl (bE (c := cX (.iface 46 (.agg #[.int .i64 p16]))) [0, 0, 0] rfl ft rfl (gc F o1 x11 a3 t4 a5 a6 t7 ([45, 45, 62] : List UInt8) p16 e15) rfl ?_);exact And.intro rfl (Exists.intro [] ⟨bf _, rfl, rfl⟩)
  refine aa ?_;show AR _ _ _ _ _ [0, 1] _;refine zS rfl (ai (av := .pt _ _) rfl) <| ap rfl rfl (be [0, 0, 0] rfl ft rfl (gS F o1 x11 a3 t4 a5 a6 t7 ([45, 45, 62] : List UInt8) x14.1 x14.2 e15) rfl (fun c A' h => by cases h.1) ?_)
  rintro av A' ⟨h, rfl⟩; cases h
  refine ah <| af <| aa ?_;show AR _ _ _ _ _ [0] _;refine za rfl <| ah <| aP ?_;obtain rfl := am H;exact And.intro rfl (Exists.intro _ (Exists.intro _ ⟨aF rfl (.refl _), aK [0, 0, 0] rfl, rfl, rfl⟩))
theorem oH (F : Nat) (o1 : Nat) (a2 : List UInt8) (a3 : List (List UInt8)) (t4 : Nat) (a5 : Int) (a6 : List (Int × (List UInt8) × (List UInt8) × List ((List UInt8) × List UInt8))) (t7 : Nat) (r8 : Bool) (r9 : List UInt8) (H : ia F a2 a3 a5 a6 = some (Res.ok (r8, r9))) : ACalls Tryz.prog 38 [.pt o1 0] [.obj o1 [S a2, .sk t4 a3.length, i64 a5, slE (Enc.prod Enc.int (Enc.prod Enc.str (Enc.prod Enc.str (Enc.sl (Enc.prod Enc.str Enc.str))))) a6 (some t7)], .stk t4 (Enc.str.fl a3), .tok t7 33] (fun e A' => e = .ret (B r8) ∧ A' = [.obj o1 [S r9, .sk t4 a3.length, i64 a5, slE (Enc.prod Enc.int (Enc.prod Enc.str (Enc.prod Enc.str (Enc.sl (Enc.prod Enc.str Enc.str))))) a6 (some t7)], .stk t4 (Enc.str.fl a3), .tok t7 33]) := mQ F o1 a2 a3 t4 a5 a6 t7 _ H
theorem nD (F : Nat) (o1 : Nat) (a2 : List UInt8) (a3 : List (List UInt8)) (t4 : Nat) (a5 : Int) (a6 : List (Int × (List UInt8) × (List UInt8) × List ((List UInt8) × List UInt8))) (t7 : Nat) (e : Int) (H : ia F a2 a3 a5 a6 = some (Res.pan e)) : ACalls Tryz.prog 38 [.pt o1 0] [.obj o1 [S a2, .sk t4 a3.length, i64 a5, slE (Enc.prod Enc.int (Enc.prod Enc.str (Enc.prod Enc.str (Enc.sl (Enc.prod Enc.str Enc.str))))) a6 (some t7)], .stk t4 (Enc.str.fl a3), .tok t7 33] (fun ae A' => ae = .pan ((fun e => cX (.iface 46 (.agg #[.int .i64 e]))) e) ∧ A' = []) := mQ F o1 a2 a3 t4 a5 a6 t7 _ H
set_option maxRecDepth 100000 in
set_option maxHeartbeats 1000000 in
theorem tk (F : Nat) (o1 : Nat) (a2 : List UInt8) (a3 : List (List UInt8)) (t4 : Nat) (a5 : Int) (a6 : List (Int × (List UInt8) × (List UInt8) × List ((List UInt8) × List UInt8))) (t7 : Nat) (rv : Res (Bool × (List UInt8))) (H : oB F a2 a3 a5 a6 = some rv) : ACalls Tryz.prog 39 [.pt o1 0] [.obj o1 [S a2, .sk t4 a3.length, i64 a5, slE (Enc.prod Enc.int (Enc.prod Enc.str (Enc.prod Enc.str (Enc.sl (Enc.prod Enc.str Enc.str))))) a6 (some t7)], .stk t4 (Enc.str.fl a3), .tok t7 33] (kE (fun (r : Bool × (List UInt8)) => (fun e A' => e = .ret (B r.1) ∧ A' = [.obj o1 [S r.2, .sk t4 a3.length, i64 a5, slE (Enc.prod Enc.int (Enc.prod Enc.str (Enc.prod Enc.str (Enc.sl (Enc.prod Enc.str Enc.str))))) a6 (some t7)], .stk t4 (Enc.str.fl a3), .tok t7 33])) (fun e => cX (.iface 46 (.agg #[.int .i64 e]))) rv) := by
 unfold oB at H
 refine ay Tryz.func39 rfl rfl ?_;show AW _ _ 8 _ _ _;refine af <| aa ?_;show AR _ _ _ _ _ [0] _;refine za rfl <| ah <| af <| af ?_;obtain ⟨x10, x11, e12, H⟩ := cU H;refine aa ?_;show AR _ _ _ _ _ [0, 1, 2] _;refine zS rfl (ai (av := .pt _ _) rfl) <| ap rfl rfl (be [0, 0, 0] rfl dN rfl (dK F o1 a2 a3 t4 a5 a6 t7 ([60, 63] : List UInt8) x10 x11 e12) rfl (fun c A' h => by cases h.1) ?_)
 rintro av A' ⟨h, rfl⟩; cases h
 refine zS rfl (cd rfl) <| ah <| ax rfl (fun c13 => ?_) (fun c13 => ?_)
 ·replace H := ba c13 H;refine af <| aa ?_;show AR _ _ _ _ _ [0] _;refine za rfl <| ah <| aP ?_;obtain rfl := am H;exact And.intro rfl (Exists.intro _ (Exists.intro _ ⟨aF rfl (.refl _), aK [0, 0, 0] rfl, rfl, rfl⟩))
 ·replace H := bb c13 H;refine aC <| af ?_
  rcases Or.symm (cN H) with ⟨p16, e15, H⟩ | ⟨x14, e15, H⟩
  ·subst H;refine aa ?_;show AR _ _ _ _ _ [0, 1] _;refine zS rfl (ai (av := .pt _ _) rfl) <| ap rfl rfl (bE (c := cX (.iface 46 (.agg #[.int .i64 p16]))) [0, 0, 0] rfl ft rfl (gc F o1 x11 a3 t4 a5 a6 t7 ([63, 62] : List UInt8) p16 e15) rfl ?_);exact And.intro rfl (Exists.intro [] ⟨bf _, rfl, rfl⟩)
  refine aa ?_;show AR _ _ _ _ _ [0, 1] _;refine zS rfl (ai (av := .pt _ _) rfl) <| ap rfl rfl (be [0, 0, 0] rfl ft rfl (gS F o1 x11 a3 t4 a5 a6 t7 ([63, 62] : List UInt8) x14.1 x14.2 e15) rfl (fun c A' h => by cases h.1) ?_)
  rintro av A' ⟨h, rfl⟩; cases h
  refine ah <| af <| aa ?_;show AR _ _ _ _ _ [0] _;refine za rfl <| ah <| aP ?_;obtain rfl := am H;exact And.intro rfl (Exists.intro _ (Exists.intro _ ⟨aF rfl (.refl _), aK [0, 0, 0] rfl, rfl, rfl⟩))
theorem sC (F : Nat) (o1 : Nat) (a2 : List UInt8) (a3 : List (List UInt8)) (t4 : Nat) (a5 : Int) (a6 : List (Int × (List UInt8) × (List UInt8) × List ((List UInt8) × List UInt8))) (t7 : Nat) (r8 : Bool) (r9 : List UInt8) (H : oB F a2 a3 a5 a6 = some (Res.ok (r8, r9))) : ACalls Tryz.prog 39 [.pt o1 0] [.obj o1 [S a2, .sk t4 a3.length, i64 a5, slE (Enc.prod Enc.int (Enc.prod Enc.str (Enc.prod Enc.str (Enc.sl (Enc.prod Enc.str Enc.str))))) a6 (some t7)], .stk t4 (Enc.str.fl a3), .tok t7 33] (fun e A' => e = .ret (B r8) ∧ A' = [.obj o1 [S r9, .sk t4 a3.length, i64 a5, slE (Enc.prod Enc.int (Enc.prod Enc.str (Enc.prod Enc.str (Enc.sl (Enc.prod Enc.str Enc.str))))) a6 (some t7)], .stk t4 (Enc.str.fl a3), .tok t7 33]) := tk F o1 a2 a3 t4 a5 a6 t7 _ H
theorem rD (F : Nat) (o1 : Nat) (a2 : List UInt8) (a3 : List (List UInt8)) (t4 : Nat) (a5 : Int) (a6 : List (Int × (List UInt8) × (List UInt8) × List ((List UInt8) × List UInt8))) (t7 : Nat) (e : Int) (H : oB F a2 a3 a5 a6 = some (Res.pan e)) : ACalls Tryz.prog 39 [.pt o1 0] [.obj o1 [S a2, .sk t4 a3.length, i64 a5, slE (Enc.prod Enc.int (Enc.prod Enc.str (Enc.prod Enc.str (Enc.sl (Enc.prod Enc.str Enc.str))))) a6 (some t7)], .stk t4 (Enc.str.fl a3), .tok t7 33] (fun ae A' => ae = .pan ((fun e => cX (.iface 46 (.agg #[.int .i64 e]))) e) ∧ A' = []) := tk F o1 a2 a3 t4 a5 a6 t7 _ H
set_option maxRecDepth 100000 in
set_option maxHeartbeats 1000000 in
theorem qw (F : Nat) (o1 : Nat) (a2 : List UInt8) (a3 : List (List UInt8)) (t4 : Nat) (a5 : Int) (a6 : List (Int × (List UInt8) × (List UInt8) × List ((List UInt8) × List UInt8))) (t7 : Nat) (rv : Res (Bool × (List UInt8) × (List (Int × (List UInt8) × (List UInt8) × List ((List UInt8) × List UInt8))))) (H : kn F a2 a3 a5 a6 = some rv) : ACalls Tryz.prog 40 [.pt o1 0] [.obj o1 [S a2, .sk t4 a3.length, i64 a5, slE (Enc.prod Enc.int (Enc.prod Enc.str (Enc.prod Enc.str (Enc.sl (Enc.prod Enc.str Enc.str))))) a6 (some t7)], .stk t4 (Enc.str.fl a3), .tok t7 33] (kE (fun (r : Bool × (List UInt8) × (List (Int × (List UInt8) × (List UInt8) × List ((List UInt8) × List UInt8)))) => (fun e A' => e = .ret (B r.1) ∧ ∃ t11, A' = [.obj o1 [S r.2.1, .sk t4 a3.length, i64 a5, slE (Enc.prod Enc.int (Enc.prod Enc.str (Enc.prod Enc.str (Enc.sl (Enc.prod Enc.str Enc.str))))) r.2.2 (some t11)], .stk t4 (Enc.str.fl a3), .tok t11 33])) (fun e => cX (.iface 46 (.agg #[.int .i64 e]))) rv) := by
 unfold kn at H
 refine ay Tryz.func40 rfl rfl ?_;show AW _ _ 19 _ _ _;refine af <| aa ?_;show AR _ _ _ _ _ [0] _;refine za rfl <| ah <| af <| af ?_;obtain ⟨x12, x13, e14, H⟩ := cU H;refine aa ?_;show AR _ _ _ _ _ [0, 1, 2] _;refine zS rfl (ai (av := .pt _ _) rfl) <| ap rfl rfl (be [0, 0, 0] rfl dN rfl (dK F o1 a2 a3 t4 a5 a6 t7 ([60, 33, 91, 67, 68, 65, 84, 65, 91] : List UInt8) x12 x13 e14) rfl (fun c A' h => by cases h.1) ?_)
 rintro av A' ⟨h, rfl⟩; cases h
 refine zS rfl (cd rfl) <| ah <| ax rfl (fun c15 => ?_) (fun c15 => ?_)
 ·replace H := ba c15 H;refine af <| aa ?_;show AR _ _ _ _ _ [0] _;refine za rfl <| ah <| aP ?_;obtain rfl := am H;exact And.intro rfl (Exists.intro _ (Exists.intro _ ⟨aF rfl (.refl _), aK [0, 0, 0] rfl, rfl, t7, rfl⟩))
 ·replace H := bb c15 H;refine aC <| af ?_
  rcases Or.symm (cN H) with ⟨p18, e17, H⟩ | ⟨x16, e17, H⟩
  ·subst H;refine aa ?_;show AR _ _ _ _ _ [0, 1, 2] _;refine zS rfl (ai (av := .pt _ _) rfl) <| ap rfl rfl (bE (c := cX (.iface 46 (.agg #[.int .i64 p18]))) [0, 0, 0] rfl ft rfl (gc F o1 x13 a3 t4 a5 a6 t7 ([93, 93, 62] : List UInt8) p18 e17) rfl ?_);exact And.intro rfl (Exists.intro [] ⟨bf _, rfl, rfl⟩)
  refine aa ?_;show AR _ _ _ _ _ [0, 1, 2] _;refine zS rfl (ai (av := .pt _ _) rfl) <| ap rfl rfl (be [0, 0, 0] rfl ft rfl (gS F o1 x13 a3 t4 a5 a6 t7 ([93, 93, 62] : List UInt8) x16.1 x16.2 e17) rfl (fun c A' h => by cases h.1) ?_)
  rintro av A' ⟨h, rfl⟩; cases h
  refine za rfl <| ah <| af ?_
  rcases Or.symm (cN H) with ⟨p21, e20, H⟩ | ⟨x19, e20, H⟩
  ·subst H;refine aa ?_;show AR _ _ _ _ _ [0, 1, 2, 3, 4, 5, 6] _;refine zS rfl (ai (av := .pt _ _) rfl) <| zS rfl (ar rfl) <| zS rfl (ak (n := 1) (by kernel_rfl) rfl) <| zR rfl (aq (i := 0) al rfl rfl rfl rfl) <| zS rfl (fI al rfl) <| zS rfl (fw rfl rfl) <| ap rfl rfl (bE (c := cX (.iface 46 (.agg #[.int .i64 p21]))) [] rfl bS rfl (bV F (decide (0 < (a3.length : Int))) p21 e20) rfl ?_);exact And.intro rfl (Exists.intro [] ⟨bf _, rfl, rfl⟩)
  refine aa ?_;show AR _ _ _ _ _ [0, 1, 2, 3, 4, 5, 6] _;refine zS rfl (ai (av := .pt _ _) rfl) <| zS rfl (ar rfl) <| zS rfl (ak (n := 1) (by kernel_rfl) rfl) <| zR rfl (aq (i := 0) al rfl rfl rfl rfl) <| zS rfl (fI al rfl) <| zS rfl (fw rfl rfl) <| ap rfl rfl (aI rfl bS rfl (cc F (decide (0 < (a3.length : Int))) e20) ?_);refine ah <| af ?_;obtain ⟨x22, e23, H⟩ := ep H;refine aa ?_;show AR _ _ _ _ _ [0, 1, 2] _;refine zS rfl (ai (av := .pt _ _) rfl) <| zm rfl <| ap rfl rfl (be [0, 0, 0] rfl qX rfl (qs F o1 x16.2 a3 t4 a5 a6 t7 x16.1 x22 e23) rfl (fun c A' h => by cases h.1) ?_)
  rintro av A' ⟨h, t24, rfl⟩; cases h
  refine ah <| af <| aa ?_;show AR _ _ _ _ _ [0] _;refine za rfl <| ah <| aP ?_;obtain rfl := am H;exact And.intro rfl (Exists.intro _ (Exists.intro _ ⟨aF rfl (.refl _), aK [0, 0, 0] rfl, rfl, t24, rfl⟩))
theorem rB (F : Nat) (o1 : Nat) (a2 : List UInt8) (a3 : List (List UInt8)) (t4 : Nat) (a5 : Int) (a6 : List (Int × (List UInt8) × (List UInt8) × List ((List UInt8) × List UInt8))) (t7 : Nat) (r8 : Bool) (r9 : List UInt8) (r10 : List (Int × (List UInt8) × (List UInt8) × List ((List UInt8) × List UInt8))) (H : kn F a2 a3 a5 a6 = some (Res.ok (r8, r9, r10))) : ACalls Tryz.prog 40 [.pt o1 0] [.obj o1 [S a2, .sk t4 a3.length, i64 a5, slE (Enc.prod Enc.int (Enc.prod Enc.str (Enc.prod Enc.str (Enc.sl (Enc.prod Enc.str Enc.str))))) a6 (some t7)], .stk t4 (Enc.str.fl a3), .tok t7 33] (fun e A' => e = .ret (B r8) ∧ ∃ t11, A' = [.obj o1 [S r9, .sk t4 a3.length, i64 a5, slE (Enc.prod Enc.int (Enc.prod Enc.str (Enc.prod Enc.str (Enc.sl (Enc.prod Enc.str Enc.str))))) r10 (some t11)], .stk t4 (Enc.str.fl a3), .tok t11 33]) := qw F o1 a2 a3 t4 a5 a6 t7 _ H
theorem pY (F : Nat) (o1 : Nat) (a2 : List UInt8) (a3 : List (List UInt8)) (t4 : Nat) (a5 : Int) (a6 : List (Int × (List UInt8) × (List UInt8) × List ((List UInt8) × List UInt8))) (t7 : Nat) (e : Int) (H : kn F a2 a3 a5 a6 = some (Res.pan e)) : ACalls Tryz.prog 40 [.pt o1 0] [.obj o1 [S a2, .sk t4 a3.length, i64 a5, slE (Enc.prod Enc.int (Enc.prod Enc.str (Enc.prod Enc.str (Enc.sl (Enc.prod Enc.str Enc.str))))) a6 (some t7)], .stk t4 (Enc.str.fl a3), .tok t7 33] (fun ae A' => ae = .pan ((fun e => cX (.iface 46 (.agg #[.int .i64 e]))) e) ∧ A' = []) := qw F o1 a2 a3 t4 a5 a6 t7 _ H
set_option maxRecDepth 100000 in
set_option maxHeartbeats 1000000 in
theorem tj (F : Nat) (o1 : Nat) (a2 : List UInt8) (a3 : List (List UInt8)) (t4 : Nat) (a5 : Int) (a6 : List (Int × (List UInt8) × (List UInt8) × List ((List UInt8) × List UInt8))) (t7 : Nat) (rv : Res (Bool × (List UInt8))) (H : oA F a2 a3 a5 a6 = some rv) : ACalls Tryz.prog 41 [.pt o1 0] [.obj o1 [S a2, .sk t4 a3.length, i64 a5, slE (Enc.prod Enc.int (Enc.prod Enc.str (Enc.prod Enc.str (Enc.sl (Enc.prod Enc.str Enc.str))))) a6 (some t7)], .stk t4 (Enc.str.fl a3), .tok t7 33] (kE (fun (r : Bool × (List UInt8)) => (fun e A' => e = .ret (B r.1) ∧ A' = [.obj o1 [S r.2, .sk t4 a3.length, i64 a5, slE (Enc.prod Enc.int (Enc.prod Enc.str (Enc.prod Enc.str (Enc.sl (Enc.prod Enc.str Enc.str))))) a6 (some t7)], .stk t4 (Enc.str.fl a3), .tok t7 33])) (fun e => cX (.iface 46 (.agg #[.int .i64 e]))) rv) := by
 unfold oA at H
 refine ay Tryz.func41 rfl rfl ?_;show AW _ _ 8 _ _ _;refine af <| aa ?_;show AR _ _ _ _ _ [0] _;refine za rfl <| ah <| af <| af ?_;obtain ⟨x10, x11, e12, H⟩ := cU H;refine aa ?_;show AR _ _ _ _ _ [0, 1, 2] _;refine zS rfl (ai (av := .pt _ _) rfl) <| ap rfl rfl (be [0, 0, 0] rfl dN rfl (dK F o1 a2 a3 t4 a5 a6 t7 ([60, 33] : List UInt8) x10 x11 e12) rfl (fun c A' h => by cases h.1) ?_)
 rintro av A' ⟨h, rfl⟩; cases h
 refine zS rfl (cd rfl) <| ah <| ax rfl (fun c13 => ?_) (fun c13 => ?_)
 ·replace H := ba c13 H;refine af <| aa ?_;show AR _ _ _ _ _ [0] _;refine za rfl <| ah <| aP ?_;obtain rfl := am H;exact And.intro rfl (Exists.intro _ (Exists.intro _ ⟨aF rfl (.refl _), aK [0, 0, 0] rfl, rfl, rfl⟩))
 ·replace H := bb c13 H;refine aC <| af ?_
  rcases Or.symm (cN H) with ⟨p16, e15, H⟩ | ⟨x14, e15, H⟩
  ·subst H;refine aa ?_;show AR _ _ _ _ _ [0, 1] _;refine zS rfl (ai (av := .pt _ _) rfl) <| ap rfl rfl (bE (c := cX (.iface 46 (.agg #[.int .i64 p16]))) [0, 0, 0] rfl ft rfl (gc F o1 x11 a3 t4 a5 a6 t7 ([62] : List UInt8) p16 e15) rfl ?_);exact And.intro rfl (Exists.intro [] ⟨bf _, rfl, rfl⟩)
  refine aa ?_;show AR _ _ _ _ _ [0, 1] _;refine zS rfl (ai (av := .pt _ _) rfl) <| ap rfl rfl (be [0, 0, 0] rfl ft rfl (gS F o1 x11 a3 t4 a5 a6 t7 ([62] : List UInt8) x14.1 x14.2 e15) rfl (fun c A' h => by cases h.1) ?_)
  rintro av A' ⟨h, rfl⟩; cases h
  refine ah <| af <| aa ?_;show AR _ _ _ _ _ [0] _;refine za rfl <| ah <| aP ?_;obtain rfl := am H;exact And.intro rfl (Exists.intro _ (Exists.intro _ ⟨aF rfl (.refl _), aK [0, 0, 0] rfl, rfl, rfl⟩))
theorem sB (F : Nat) (o1 : Nat) (a2 : List UInt8) (a3 : List (List UInt8)) (t4 : Nat) (a5 : Int) (a6 : List (Int × (List UInt8) × (List UInt8) × List ((List UInt8) × List UInt8))) (t7 : Nat) (r8 : Bool) (r9 : List UInt8) (H : oA F a2 a3 a5 a6 = some (Res.ok (r8, r9))) : ACalls Tryz.prog 41 [.pt o1 0] [.obj o1 [S a2, .sk t4 a3.length, i64 a5, slE (Enc.prod Enc.int (Enc.prod Enc.str (Enc.prod Enc.str (Enc.sl (Enc.prod Enc.str Enc.str))))) a6 (some t7)], .stk t4 (Enc.str.fl a3), .tok t7 33] (fun e A' => e = .ret (B r8) ∧ A' = [.obj o1 [S r9, .sk t4 a3.length, i64 a5, slE (Enc.prod Enc.int (Enc.prod Enc.str (Enc.prod Enc.str (Enc.sl (Enc.prod Enc.str Enc.str))))) a6 (some t7)], .stk t4 (Enc.str.fl a3), .tok t7 33]) := tj F o1 a2 a3 t4 a5 a6 t7 _ H
theorem rA (F : Nat) (o1 : Nat) (a2 : List UInt8) (a3 : List (List UInt8)) (t4 : Nat) (a5 : Int) (a6 : List (Int × (List UInt8) × (List UInt8) × List ((List UInt8) × List UInt8))) (t7 : Nat) (e : Int) (H : oA F a2 a3 a5 a6 = some (Res.pan e)) : ACalls Tryz.prog 41 [.pt o1 0] [.obj o1 [S a2, .sk t4 a3.length, i64 a5, slE (Enc.prod Enc.int (Enc.prod Enc.str (Enc.prod Enc.str (Enc.sl (Enc.prod Enc.str Enc.str))))) a6 (some t7)], .stk t4 (Enc.str.fl a3), .tok t7 33] (fun ae A' => ae = .pan ((fun e => cX (.iface 46 (.agg #[.int .i64 e]))) e) ∧ A' = []) := tj F o1 a2 a3 t4 a5 a6 t7 _ H
set_option maxRecDepth 100000 in
set_option maxHeartbeats 1000000 in
theorem nZ (F : Nat) (o1 : Nat) (a2 : List UInt8) (a3 : List (List UInt8)) (t4 : Nat) (a5 : Int) (a6 : List (Int × (List UInt8) × (List UInt8) × List ((List UInt8) × List UInt8))) (t7 : Nat) (rv : Res (Bool × (List UInt8) × (List (Int × (List UInt8) × (List UInt8) × List ((List UInt8) × List UInt8))) × (List (List UInt8)))) (H : gI F a2 a3 a5 a6 = some rv) : ACalls Tryz.prog 42 [.pt o1 0] [.obj o1 [S a2, .sk t4 a3.length, i64 a5, slE (Enc.prod Enc.int (Enc.prod Enc.str (Enc.prod Enc.str (Enc.sl (Enc.prod Enc.str Enc.str))))) a6 (some t7)], .stk t4 (Enc.str.fl a3), .tok t7 33] (kE (fun (r : Bool × (List UInt8) × (List (Int × (List UInt8) × (List UInt8) × List ((List UInt8) × List UInt8))) × (List (List UInt8))) => (fun e A' => e = .ret (B r.1) ∧ ∃ t11 t13, A' = [.obj o1 [S r.2.1, .sk t11 r.2.2.2.length, i64 a5, slE (Enc.prod Enc.int (Enc.prod Enc.str (Enc.prod Enc.str (Enc.sl (Enc.prod Enc.str Enc.str))))) r.2.2.1 (some t13)], .stk t11 (Enc.str.fl r.2.2.2), .tok t13 33])) (fun e => cX (.iface 46 (.agg #[.int .i64 e]))) rv) := by
 unfold gI at H
 refine ay Tryz.func42 rfl rfl ?_;show AW _ _ 17 _ _ _;refine af <| aa ?_;show AR _ _ _ _ _ [0] _;refine za rfl <| ah <| af <| af ?_;obtain ⟨x14, x15, e16, H⟩ := cU H;refine aa ?_;show AR _ _ _ _ _ [0, 1, 2] _;refine zS rfl (ai (av := .pt _ _) rfl) <| ap rfl rfl (be [0, 0, 0] rfl dN rfl (dK F o1 a2 a3 t4 a5 a6 t7 ([60, 47] : List UInt8) x14 x15 e16) rfl (fun c A' h => by cases h.1) ?_)
 rintro av A' ⟨h, rfl⟩; cases h
 refine zS rfl (cd rfl) <| ah <| ax rfl (fun c17 => ?_) (fun c17 => ?_)
 ·replace H := ba c17 H;refine af <| aa ?_;show AR _ _ _ _ _ [0] _;refine za rfl <| ah <| aP ?_;obtain rfl := am H;exact And.intro rfl (Exists.intro _ (Exists.intro _ ⟨aF rfl (.refl _), aK [0, 0, 0] rfl, rfl, t4, t7, rfl⟩))
 ·replace H := bb c17 H;refine aC <| af ?_
  rcases Or.symm (cN H) with ⟨p20, e19, H⟩ | ⟨x18, e19, H⟩
  ·subst H;refine aa ?_;show AR _ _ _ _ _ [0, 1, 2] _;refine zS rfl (ai (av := .pt _ _) rfl) <| ap rfl rfl (bE (c := cX (.iface 46 (.agg #[.int .i64 p20]))) [0, 0, 0] rfl jq rfl (kb F o1 x15 a3 t4 a5 a6 t7 p20 e19) rfl ?_);exact And.intro rfl (Exists.intro [] ⟨bf _, rfl, rfl⟩)
  refine aa ?_;show AR _ _ _ _ _ [0, 1, 2] _;refine zS rfl (ai (av := .pt _ _) rfl) <| ap rfl rfl (be [0, 0, 0] rfl jq rfl (kP F o1 x15 a3 t4 a5 a6 t7 x18.1 x18.2 e19) rfl (fun c A' h => by cases h.1) ?_)
  rintro av A' ⟨h, rfl⟩; cases h
  refine za rfl <| ah <| af ?_;obtain ⟨x21, x22, e23, H⟩ := cU H;refine aa ?_;show AR _ _ _ _ _ [0, 1] _;refine zS rfl (ai (av := .pt _ _) rfl) <| ap rfl rfl (be [0, 0, 0] rfl qW rfl (nY F o1 x18.2 a3 t4 a5 a6 t7 x21 x22 e23) rfl (fun c A' h => by cases h.1) ?_)
  rintro av A' ⟨h, rfl⟩; cases h
  refine ah <| af ?_;obtain ⟨x24, x25, e26, H⟩ := cU H
  rcases Or.symm (cN H) with ⟨p29, e28, H⟩ | ⟨x27, e28, H⟩
  ·subst H;refine aa ?_;show AR _ _ _ _ _ [0, 1, 2] _;refine zS rfl (ai (av := .pt _ _) rfl) <| ap rfl rfl (be [0, 0, 0] rfl dN rfl (dK F o1 x22 a3 t4 a5 a6 t7 ([62] : List UInt8) x24 x25 e26) rfl (fun c A' h => by cases h.1) ?_)
   rintro av A' ⟨h, rfl⟩; cases h
   refine ap rfl rfl (bE (c := cX (.iface 46 (.agg #[.int .i64 p29]))) [] rfl bS rfl (bV F x24 p29 e28) rfl ?_);exact And.intro rfl (Exists.intro [] ⟨bf _, rfl, rfl⟩)
  refine aa ?_;show AR _ _ _ _ _ [0, 1, 2] _;refine zS rfl (ai (av := .pt _ _) rfl) <| ap rfl rfl (be [0, 0, 0] rfl dN rfl (dK F o1 x22 a3 t4 a5 a6 t7 ([62] : List UInt8) x24 x25 e26) rfl (fun c A' h => by cases h.1) ?_)
  rintro av A' ⟨h, rfl⟩; cases h
  refine ap rfl rfl (aI rfl bS rfl (cc F x24 e28) ?_);refine ah <| af ?_
  rcases Or.symm (cN H) with ⟨p32, e31, H⟩ | ⟨x30, e31, H⟩
  ·subst H;refine aa ?_;show AR _ _ _ _ _ [0, 1, 2] _;refine zS rfl (ai (av := .pt _ _) rfl) <| zm rfl <| ap rfl rfl (bE (c := cX (.iface 46 (.agg #[.int .i64 p32]))) [0, 0, 0] rfl lP rfl (md F o1 x25 a3 t4 a5 a6 t7 x18.1 p32 e31) rfl ?_);exact And.intro rfl (Exists.intro [] ⟨bf _, rfl, rfl⟩)
  refine aa ?_;show AR _ _ _ _ _ [0, 1, 2] _;refine zS rfl (ai (av := .pt _ _) rfl) <| zm rfl <| ap rfl rfl (be [0, 0, 0] rfl lP rfl (mO F o1 x25 a3 t4 a5 a6 t7 x18.1 x30.1 x30.2 e31) rfl (fun c A' h => by cases h.1) ?_)
  rintro av A' ⟨h, t33, t34, rfl⟩; cases h
  refine ah <| af <| aa ?_;show AR _ _ _ _ _ [0] _;refine za rfl <| ah <| aP ?_;obtain rfl := am H;exact And.intro rfl (Exists.intro _ (Exists.intro _ ⟨aF rfl (.refl _), aK [0, 0, 0] rfl, rfl, t33, t34, rfl⟩))
theorem pa (F : Nat) (o1 : Nat) (a2 : List UInt8) (a3 : List (List UInt8)) (t4 : Nat) (a5 : Int) (a6 : List (Int × (List UInt8) × (List UInt8) × List ((List UInt8) × List UInt8))) (t7 : Nat) (r8 : Bool) (r9 : List UInt8) (r12 : List (Int × (List UInt8) × (List UInt8) × List ((List UInt8) × List UInt8))) (r10 : List (List UInt8)) (H : gI F a2 a3 a5 a6 = some (Res.ok (r8, r9, r12, r10))) : ACalls Tryz.prog 42 [.pt o1 0] [.obj o1 [S a2, .sk t4 a3.length, i64 a5, slE (Enc.prod Enc.int (Enc.prod Enc.str (Enc.prod Enc.str (Enc.sl (Enc.prod Enc.str Enc.str))))) a6 (some t7)], .stk t4 (Enc.str.fl a3), .tok t7 33] (fun e A' => e = .ret (B r8) ∧ ∃ t11 t13, A' = [.obj o1 [S r9, .sk t11 r10.length, i64 a5, slE (Enc.prod Enc.int (Enc.prod Enc.str (Enc.prod Enc.str (Enc.sl (Enc.prod Enc.str Enc.str))))) r12 (some t13)], .stk t11 (Enc.str.fl r10), .tok t13 33]) := nZ F o1 a2 a3 t4 a5 a6 t7 _ H
theorem oE (F : Nat) (o1 : Nat) (a2 : List UInt8) (a3 : List (List UInt8)) (t4 : Nat) (a5 : Int) (a6 : List (Int × (List UInt8) × (List UInt8) × List ((List UInt8) × List UInt8))) (t7 : Nat) (e : Int) (H : gI F a2 a3 a5 a6 = some (Res.pan e)) : ACalls Tryz.prog 42 [.pt o1 0] [.obj o1 [S a2, .sk t4 a3.length, i64 a5, slE (Enc.prod Enc.int (Enc.prod Enc.str (Enc.prod Enc.str (Enc.sl (Enc.prod Enc.str Enc.str))))) a6 (some t7)], .stk t4 (Enc.str.fl a3), .tok t7 33] (fun ae A' => ae = .pan ((fun e => cX (.iface 46 (.agg #[.int .i64 e]))) e) ∧ A' = []) := nZ F o1 a2 a3 t4 a5 a6 t7 _ H
abbrev _root_.Go.Av.bZ := @Tryz.underlying44
set_option maxRecDepth 100000 in
set_option maxHeartbeats 1000000 in
theorem qx (F : Nat) (o1 : Nat) (a2 : List UInt8) (a3 : List (List UInt8)) (t4 : Nat) (a5 : Int) (a6 : List (Int × (List UInt8) × (List UInt8) × List ((List UInt8) × List UInt8))) (t7 : Nat) (rv : Res ((List UInt8) × (List UInt8) × (List UInt8))) (H : lh F a2 a3 a5 a6 = some rv) : ACalls Tryz.prog 72 [.pt o1 0] [.obj o1 [S a2, .sk t4 a3.length, i64 a5, slE (Enc.prod Enc.int (Enc.prod Enc.str (Enc.prod Enc.str (Enc.sl (Enc.prod Enc.str Enc.str))))) a6 (some t7)], .stk t4 (Enc.str.fl a3), .tok t7 33] (kE (fun (r : (List UInt8) × (List UInt8) × (List UInt8)) => (fun e A' => e = .ret (.agg [S r.1, S r.2.1]) ∧ A' = [.obj o1 [S r.2.2, .sk t4 a3.length, i64 a5, slE (Enc.prod Enc.int (Enc.prod Enc.str (Enc.prod Enc.str (Enc.sl (Enc.prod Enc.str Enc.str))))) a6 (some t7)], .stk t4 (Enc.str.fl a3), .tok t7 33])) (fun e => cX (.iface 46 (.agg #[.int .i64 e]))) rv) := by
 unfold lh at H
 refine ay Tryz.func72 rfl rfl ?_;show AW _ _ 26 _ _ _;refine af <| aa ?_;show AR _ _ _ _ _ [0] _;refine zX rfl (dL (zs := [.string ⟨#[]⟩, .string ⟨#[]⟩]) (by kernel_rfl)) ?_;rintro _ _ ⟨o11, rfl, rfl⟩;refine ah <| af ?_
 rcases Or.symm (cN H) with ⟨p14, e13, H⟩ | ⟨x12, e13, H⟩
 ·subst H;refine aa ?_;show AR _ _ _ _ _ [0, 1, 2, 3, 4] _;refine zS rfl (ai (av := .pt _ _) rfl) <| ap rfl rfl (bE (c := cX (.iface 46 (.agg #[.int .i64 p14]))) [1, 1, 1] rfl jq rfl (kb F o1 a2 a3 t4 a5 a6 t7 p14 e13) rfl ?_);exact And.intro rfl (Exists.intro [] ⟨bf _, rfl, rfl⟩)
 refine aa ?_;show AR _ _ _ _ _ [0, 1, 2, 3, 4] _;refine zS rfl (ai (av := .pt _ _) rfl) <| ap rfl rfl (be [1, 1, 1] rfl jq rfl (kP F o1 a2 a3 t4 a5 a6 t7 x12.1 x12.2 e13) rfl (fun c A' h => by cases h.1) ?_)
 rintro av A' ⟨h, rfl⟩; cases h
 refine zS rfl (fi (zs := [.string ⟨#[]⟩, .string ⟨#[]⟩]) (ps := [(0, 1), (1, 1)]) (cs := [S x12.1, S ([] : List UInt8)]) (by kernel_rfl) rfl rfl) <| zX rfl (dL (zs := [.string ⟨#[]⟩, .string ⟨#[]⟩]) (by kernel_rfl)) ?_;rintro _ _ ⟨o15, rfl, rfl⟩;refine s0 rfl rfl (cK (i := 0) (vs := [S x12.1, S ([] : List UInt8)]) (by kernel_rfl) rfl rfl (by simp [co, slE]) rfl (ag rfl)) <| ah <| af <| aa ?_;show AR _ _ _ _ _ [0] _;refine za rfl <| ah <| bw (X := (List UInt8) × (List UInt8)) (fun (y26, y27) => ⟨[(0, .pt o1 0), (2, .pt o11 0), (3, .pt o15 0), (4, S y26)], [], [.obj o1 [S y27, .sk t4 a3.length, i64 a5, slE (Enc.prod Enc.int (Enc.prod Enc.str (Enc.prod Enc.str (Enc.sl (Enc.prod Enc.str Enc.str))))) a6 (some t7)], .obj o15 [S x12.1, S ([] : List UInt8)], .obj o11 [S ([] : List UInt8), S ([] : List UInt8)], .stk t4 (Enc.str.fl a3), .tok t7 33]⟩) (fun (y26, y27) => gu F a3 a5 a6 x12 y26 y27 = some rv) ?_ ?_
 ·refine af ?_;obtain ⟨x16, x17, e18, H⟩ := cU H;refine aa ?_;show AR _ _ _ _ _ [0, 1, 2] _;refine zS rfl (ai (av := .pt _ _) rfl) <| ap rfl rfl (be [1, 1, 1] rfl dN rfl (dK F o1 x12.2 a3 t4 a5 a6 t7 ([61, 34] : List UInt8) x16 x17 e18) rfl (fun c A' h => by cases h.1) ?_)
  rintro av A' ⟨h, rfl⟩; cases h
  refine zS rfl (cd rfl) <| ah <| ax rfl (fun c19 => ?_) (fun c19 => ?_)
  ·replace H := ba c19 H;refine af ?_;obtain ⟨x20, x21, e22, H⟩ := cU H
   rcases Or.symm (cN H) with ⟨p25, e24, H⟩ | ⟨x23, e24, H⟩
   ·subst H;refine aa ?_;show AR _ _ _ _ _ [0, 1, 2] _;refine zS rfl (ai (av := .pt _ _) rfl) <| ap rfl rfl (be [0, 0, 0] rfl dN rfl (dK F o1 x17 a3 t4 a5 a6 t7 ([61, 39] : List UInt8) x20 x21 e22) rfl (fun c A' h => by cases h.1) ?_)
    rintro av A' ⟨h, rfl⟩; cases h
    refine ap rfl rfl (bE (c := cX (.iface 46 (.agg #[.int .i64 p25]))) [] rfl bS rfl (bV F x20 p25 e24) rfl ?_);exact And.intro rfl (Exists.intro [] ⟨bf _, rfl, rfl⟩)
   refine aa ?_;show AR _ _ _ _ _ [0, 1, 2] _;refine zS rfl (ai (av := .pt _ _) rfl) <| ap rfl rfl (be [0, 0, 0] rfl dN rfl (dK F o1 x17 a3 t4 a5 a6 t7 ([61, 39] : List UInt8) x20 x21 e22) rfl (fun c A' h => by cases h.1) ?_)
   rintro av A' ⟨h, rfl⟩; cases h
   refine ap rfl rfl (aI rfl bS rfl (cc F x20 e24) ?_);refine ah <| aa ?_;show AR _ _ _ _ _ [0] _;refine za rfl <| ah ?_;exact Exists.intro (([39] : List UInt8), x21) ⟨H, aW [0, 2, 2, 0, 0] (.cons (.refl _) (.cons (.refl _) (.cons (.refl _) (.cons (.refl _) (.nil _))))) rfl⟩
  ·replace H := bb c19 H;refine aC ?_;exact Exists.intro (([34] : List UInt8), x17) ⟨H, aW [0, 2, 2, 0, 0] (.cons (.refl _) (.cons (.refl _) (.cons (.refl _) (.cons (.refl _) (.nil _))))) rfl⟩
 rintro ⟨y26, y27⟩ H;replace H : gu F a3 a5 a6 x12 y26 y27 = some rv := H
 unfold gu at H
 refine af ?_
 rcases Or.symm (cN H) with ⟨p31, e30, H⟩ | ⟨x29, e30, H⟩
 ·subst H;refine aa ?_;show AR _ _ _ _ _ [0, 1, 2, 3] _;refine zS rfl (ai (av := .pt _ _) rfl) <| zm rfl <| ap rfl rfl (bE (c := cX (.iface 46 (.agg #[.int .i64 p31]))) [0, 2, 2] rfl ft rfl (gc F o1 y27 a3 t4 a5 a6 t7 y26 p31 e30) rfl ?_);exact And.intro rfl (Exists.intro [] ⟨bf _, rfl, rfl⟩)
 refine aa ?_;show AR _ _ _ _ _ [0, 1, 2, 3] _;refine zS rfl (ai (av := .pt _ _) rfl) <| zm rfl <| ap rfl rfl (be [0, 2, 2] rfl ft rfl (gS F o1 y27 a3 t4 a5 a6 t7 y26 x29.1 x29.2 e30) rfl (fun c A' h => by cases h.1) ?_)
 rintro av A' ⟨h, rfl⟩; cases h
 refine za rfl <| ah <| af ?_;obtain ⟨g32, H⟩ := aR H;obtain ⟨x33, e34, H⟩ := bB H
 rcases Or.symm (cN H) with ⟨p37, e36, H⟩ | ⟨x35, e36, H⟩
 ·subst H;refine aa ?_;show AR _ _ _ _ _ [0, 1, 2, 3] _;refine zm rfl <| ap rfl rfl (aI rfl nR rfl (show ACalls _ _ _ [] (Ret (B x33) []) from by subst e34; exact kR x29.1 ([60] : List UInt8) (mI g32)) ?_);refine zS rfl (cd rfl) <| ap rfl rfl (bE (c := cX (.iface 46 (.agg #[.int .i64 p37]))) [] rfl bS rfl (bV F (!x33) p37 e36) rfl ?_);exact And.intro rfl (Exists.intro [] ⟨bf _, rfl, rfl⟩)
 refine aa ?_;show AR _ _ _ _ _ [0, 1, 2, 3] _;refine zm rfl <| ap rfl rfl (aI rfl nR rfl (show ACalls _ _ _ [] (Ret (B x33) []) from by subst e34; exact kR x29.1 ([60] : List UInt8) (mI g32)) ?_);refine zS rfl (cd rfl) <| ap rfl rfl (aI rfl bS rfl (cc F (!x33) e36) ?_);refine ah <| af ?_
 rcases Or.symm (cN H) with ⟨p40, e39, H⟩ | ⟨x38, e39, H⟩
 ·subst H;refine aa ?_;show AR _ _ _ _ _ [0, 1, 2, 3] _;refine zm rfl <| ap rfl rfl (bE (c := cX (.iface 46 (.agg #[.int .i64 p40]))) [] rfl lQ rfl (kX F x29.1 p40 e39) rfl ?_);exact And.intro rfl (Exists.intro [] ⟨bf _, rfl, rfl⟩)
 refine aa ?_;show AR _ _ _ _ _ [0, 1, 2, 3] _;refine zm rfl <| ap rfl rfl (aI rfl lQ rfl (lw F x29.1 x38 e39) ?_);refine zS rfl (ak (n := 1) (by kernel_rfl) rfl) <| s0 rfl rfl (aB (i := 3) (c := .v _) (by kernel_rfl) rfl rfl rfl rfl (ag rfl)) <| ah <| af <| aa ?_;show AR _ _ _ _ _ [0, 1] _;refine zR rfl (jh (i := 3) (n := 2) bZ rfl (by kernel_rfl) rfl rfl (ag rfl)) <| s0 rfl rfl (cK (i := 4) (vs := [S x12.1, S x38]) (by kernel_rfl) rfl rfl (by simp [co, slE]) rfl (ag rfl)) <| ah <| aP ?_;obtain rfl := am H;exact And.intro rfl (Exists.intro _ (Exists.intro _ ⟨wU (th rfl (CellV.agg (off := 0) (cs := [S x12.1, S x38]) (n := 2) 4 bZ rfl (by kernel_rfl) rfl rfl (ag rfl))), aK [0, 0, 0] rfl, rfl, rfl⟩))
theorem rC (F : Nat) (o1 : Nat) (a2 : List UInt8) (a3 : List (List UInt8)) (t4 : Nat) (a5 : Int) (a6 : List (Int × (List UInt8) × (List UInt8) × List ((List UInt8) × List UInt8))) (t7 : Nat) (r8 : List UInt8) (r9 : List UInt8) (r10 : List UInt8) (H : lh F a2 a3 a5 a6 = some (Res.ok (r8, r9, r10))) : ACalls Tryz.prog 72 [.pt o1 0] [.obj o1 [S a2, .sk t4 a3.length, i64 a5, slE (Enc.prod Enc.int (Enc.prod Enc.str (Enc.prod Enc.str (Enc.sl (Enc.prod Enc.str Enc.str))))) a6 (some t7)], .stk t4 (Enc.str.fl a3), .tok t7 33] (fun e A' => e = .ret (.agg [S r8, S r9]) ∧ A' = [.obj o1 [S r10, .sk t4 a3.length, i64 a5, slE (Enc.prod Enc.int (Enc.prod Enc.str (Enc.prod Enc.str (Enc.sl (Enc.prod Enc.str Enc.str))))) a6 (some t7)], .stk t4 (Enc.str.fl a3), .tok t7 33]) := qx F o1 a2 a3 t4 a5 a6 t7 _ H
theorem pZ (F : Nat) (o1 : Nat) (a2 : List UInt8) (a3 : List (List UInt8)) (t4 : Nat) (a5 : Int) (a6 : List (Int × (List UInt8) × (List UInt8) × List ((List UInt8) × List UInt8))) (t7 : Nat) (e : Int) (H : lh F a2 a3 a5 a6 = some (Res.pan e)) : ACalls Tryz.prog 72 [.pt o1 0] [.obj o1 [S a2, .sk t4 a3.length, i64 a5, slE (Enc.prod Enc.int (Enc.prod Enc.str (Enc.prod Enc.str (Enc.sl (Enc.prod Enc.str Enc.str))))) a6 (some t7)], .stk t4 (Enc.str.fl a3), .tok t7 33] (fun ae A' => ae = .pan ((fun e => cX (.iface 46 (.agg #[.int .i64 e]))) e) ∧ A' = []) := qx F o1 a2 a3 t4 a5 a6 t7 _ H
set_option maxRecDepth 100000 in
set_option maxHeartbeats 1000000 in
theorem tW (F : Nat) (a1 : List UInt8) (a2 : List UInt8) (o3 : Nat) (a4 : List UInt8) (a5 : List UInt8) (r6 : Bool) (H : nd F a1 a2 a4 a5 = some r6) : ACalls Tryz.prog 74 [.agg [S a1, S a2], .pt o3 0] [.obj o3 [S a4, S a5]] (fun e A' => e = .ret (B r6) ∧ A' = [.obj o3 [S a4, S a5]]) := by
 unfold nd at H
 refine ay Tryz.func74 rfl rfl ?_;show AW _ _ 9 _ _ _;refine af <| aa ?_;show AR _ _ _ _ _ [0, 1] _;refine zR rfl (nL rfl (.inr ⟨_, rfl⟩)) <| za rfl <| ah <| af <| aa ?_;show AR _ _ _ _ _ [0, 1, 2, 3, 4, 5] _;refine zS rfl (ak (n := 0) (by kernel_rfl) rfl) <| zR rfl (aq (i := 0) ac rfl rfl rfl rfl) <| zS rfl (aE (n := 0) (by kernel_rfl) rfl (ag rfl)) <| zS rfl (aA ac rfl rfl) <| zS rfl (fT rfl rfl) <| za rfl <| ah <| aP ?_;obtain rfl := am H;exact And.intro rfl (Exists.intro _ (Exists.intro _ ⟨aF rfl (.refl _), aK [0] rfl, rfl, rfl⟩))
abbrev _root_.Go.Av.aG := @Tryz.underlying31
set_option maxRecDepth 100000 in
set_option maxHeartbeats 1000000 in
theorem pb (F : Nat) (a1 : List ((List UInt8) × List UInt8)) (q2 : Option Nat) (o3 : Nat) (a4 : List UInt8) (a5 : List UInt8) (r6 : Int) (H : jc F a1 a4 a5 = some r6) : ACalls Tryz.prog 96 [slE (Enc.prod Enc.str Enc.str) a1 q2, .fn (.func 74) [] [.pt o3 0]] [.obj o3 [S a4, S a5]] (fun e A' => e = .ret (i64 r6) ∧ A' = [.obj o3 [S a4, S a5]]) := by
 unfold jc at H
 refine ay Tryz.func96 rfl rfl ?_;show AW _ _ 19 _ _ _;refine af <| aa ?_;show AR _ _ _ _ _ [0] _;refine za rfl <| ah <| bw (X := Unit) (fun _ => ⟨[], [], [.obj o3 [S a4, S a5]]⟩) (fun _ => gj = some r6) ?_ ?_
 ·refine af <| aa ?_;show AR _ _ _ _ _ [0, 1, 2] _;refine zS rfl (ai (av := slE _ _ _) rfl) <| zS rfl (aV aG rfl) <| zm rfl <| ah <| aQ <| cJ (X := Nat × Int) (fun (n9, y7) => ⟨[(0, slE (Enc.prod Enc.str Enc.str) a1 q2), (1, .fn (.func 74) [] [.pt o3 0]), (7, i64 (a1.length : Int)), (8, i64 y7)], [], [.obj o3 [S a4, S a5]]⟩) (fun (n9, y7) => dW F a1 a4 a5 n9 y7 = some r6) (fun (n9, y7) => n9) (F, 0) H (aW [0] (.cons (.refl _) (.cons (.refl _) (.cons (.refl _) (.cons (.refl _) (.nil _))))) rfl) ?_;rintro ⟨n9, y7⟩ H;obtain ⟨n9, rfl, H⟩ := dz H;replace H : fe F a1 a4 a5 (dW F a1 a4 a5 n9) y7 = some r6 := H
  unfold fe at H
  refine af <| aa ?_;show AR _ _ _ _ _ [0] _;refine zS rfl (bQ rfl rfl) <| ah <| af <| ax rfl (fun c10 => ?_) (fun c10 => ?_)
  ·replace H := ba c10 H;refine aC <| af <| aQ <| af <| aa ?_;show AR _ _ _ _ _ [0, 1] _;refine zm rfl <| za rfl <| ah <| af ?_;obtain ⟨g11, H⟩ := aR H;obtain ⟨x12, e13, H⟩ := bB H;obtain ⟨x14, e15, H⟩ := ep H;refine aa ?_;show AR _ _ _ _ _ [0, 1, 2, 3, 4, 5] _;refine zS rfl (ai (av := .fn _ _ _) rfl) <| zS rfl (ai (av := slE _ _ _) rfl) <| zm rfl <| zS rfl (bj (E := (Enc.prod Enc.str Enc.str)) aG (by kernel_rfl) rfl rfl g11 e13) <| zS rfl (cj bZ rfl (n := 2) (by kernel_rfl) rfl (ag rfl)) <| ap rfl rfl (AO.callFAt [0] rfl (.inl rfl) wi rfl (tW F x12.1 x12.2 o3 a4 a5 x14 e15) rfl (fun c A' h => by cases h.1) ?_)
   rintro av A' ⟨h, rfl⟩; cases h
   refine ah <| ax rfl (fun c16 => ?_) (fun c16 => ?_)
   ·replace H := ba c16 H;refine af <| aa ?_;show AR _ _ _ _ _ [0, 1] _;refine zm rfl <| za rfl <| ah <| aP ?_;obtain rfl := am H;exact And.intro rfl (Exists.intro _ (Exists.intro _ ⟨aF rfl (.refl _), aK [0] rfl, rfl, rfl⟩))
   ·replace H := bb c16 H;refine aC ?_;obtain ⟨g17, H⟩ := aR H;refine aa ?_;show AR _ _ _ _ _ [0, 1] _;refine zS rfl (cH rfl rfl g17) <| zm rfl <| ah ?_;exact Exists.intro (n9, y7 + 1) ⟨H, Nat.lt_succ_self _, aW [0] (.cons (.refl _) (.cons (.refl _) (.cons (.refl _) (.cons (.refl _) (.nil _))))) rfl⟩
  ·replace H := bb c10 H;refine cf ?_;exact Exists.intro () ⟨H, aW [0] (.nil _) rfl⟩
 rintro _ H;replace H : gj = some r6 := H
 unfold gj at H
 refine af <| aa ?_;show AR _ _ _ _ _ [0] _;refine za rfl <| ah <| aP ?_;obtain rfl := am H;exact And.intro rfl (Exists.intro _ (Exists.intro _ ⟨aF rfl (.refl _), aK [0] rfl, rfl, rfl⟩))
set_option maxRecDepth 100000 in
set_option maxHeartbeats 1000000 in
theorem jF (F : Nat) (a1 : List ((List UInt8) × List UInt8)) (q2 : Option Nat) (o3 : Nat) (a4 : List UInt8) (a5 : List UInt8) (r6 : Bool) (H : fg F a1 a4 a5 = some r6) : ACalls Tryz.prog 73 [slE (Enc.prod Enc.str Enc.str) a1 q2, .fn (.func 74) [] [.pt o3 0]] [.obj o3 [S a4, S a5]] (fun e A' => e = .ret (B r6) ∧ A' = [.obj o3 [S a4, S a5]]) := by
 unfold fg at H
 refine ay Tryz.func73 rfl rfl ?_;show AW _ _ 9 _ _ _;refine af <| aa ?_;show AR _ _ _ _ _ [0] _;refine za rfl <| ah <| af ?_;obtain ⟨x7, e8, H⟩ := ep H;refine aa ?_;show AR _ _ _ _ _ [0, 1, 2, 3, 4] _;refine zS rfl (ai (av := slE _ _ _) rfl) <| zS rfl (ai (av := .fn _ _ _) rfl) <| ap rfl rfl (be [0] rfl vX rfl (pb F a1 q2 o3 a4 a5 x7 e8) rfl (fun c A' h => by cases h.1) ?_)
 rintro av A' ⟨h, rfl⟩; cases h
 refine zS rfl (eC rfl rfl) <| za rfl <| ah <| aP ?_;obtain rfl := am H;exact And.intro rfl (Exists.intro _ (Exists.intro _ ⟨aF rfl (.refl _), aK [0] rfl, rfl, rfl⟩))
abbrev _root_.Go.Av.bO := @Tryz.underlying3
abbrev _root_.Go.Av.cO := @Tryz.underlying33
set_option maxRecDepth 100000 in
set_option maxHeartbeats 1000000 in
theorem mP (F : Nat) (o1 : Nat) (a2 : List UInt8) (a3 : List (List UInt8)) (t4 : Nat) (a5 : Int) (a6 : List (Int × (List UInt8) × (List UInt8) × List ((List UInt8) × List UInt8))) (t7 : Nat) (rv : Res (Bool × (List UInt8) × Int × (List (Int × (List UInt8) × (List UInt8) × List ((List UInt8) × List UInt8))) × (List (List UInt8)))) (H : gt F a2 a3 a5 a6 = some rv) : ACalls Tryz.prog 43 [.pt o1 0] [.obj o1 [S a2, .sk t4 a3.length, i64 a5, slE (Enc.prod Enc.int (Enc.prod Enc.str (Enc.prod Enc.str (Enc.sl (Enc.prod Enc.str Enc.str))))) a6 (some t7)], .stk t4 (Enc.str.fl a3), .tok t7 33] (kE (fun (r : Bool × (List UInt8) × Int × (List (Int × (List UInt8) × (List UInt8) × List ((List UInt8) × List UInt8))) × (List (List UInt8))) => (fun e A' => e = .ret (B r.1) ∧ ∃ t11 t14, A' = [.obj o1 [S r.2.1, .sk t11 r.2.2.2.2.length, i64 r.2.2.1, slE (Enc.prod Enc.int (Enc.prod Enc.str (Enc.prod Enc.str (Enc.sl (Enc.prod Enc.str Enc.str))))) r.2.2.2.1 (some t14)], .stk t11 (Enc.str.fl r.2.2.2.2), .tok t14 33])) (fun e => cX (.iface 46 (.agg #[.int .i64 e]))) rv) := by
 unfold gt at H
 refine ay Tryz.func43 rfl rfl ?_;show AW _ _ 88 _ _ _;refine af <| aa ?_;show AR _ _ _ _ _ [0] _;refine za rfl <| ah <| af <| af ?_;obtain ⟨x15, x16, e17, H⟩ := cU H;refine aa ?_;show AR _ _ _ _ _ [0, 1, 2] _;refine zS rfl (ai (av := .pt _ _) rfl) <| ap rfl rfl (be [0, 0, 0] rfl dN rfl (dK F o1 a2 a3 t4 a5 a6 t7 ([60] : List UInt8) x15 x16 e17) rfl (fun c A' h => by cases h.1) ?_)
 rintro av A' ⟨h, rfl⟩; cases h
 refine zS rfl (cd rfl) <| ah <| ax rfl (fun c18 => ?_) (fun c18 => ?_)
 ·replace H := ba c18 H;refine af <| aa ?_;show AR _ _ _ _ _ [0] _;refine za rfl <| ah <| aP ?_;obtain rfl := am H;exact And.intro rfl (Exists.intro _ (Exists.intro _ ⟨aF rfl (.refl _), aK [0, 0, 0] rfl, rfl, t4, t7, rfl⟩))
 ·replace H := bb c18 H;refine aC <| af ?_
  rcases Or.symm (cN H) with ⟨p21, e20, H⟩ | ⟨x19, e20, H⟩
  ·subst H;refine aa ?_;show AR _ _ _ _ _ [0, 1, 2, 3, 4] _;refine zS rfl (ai (av := .pt _ _) rfl) <| ap rfl rfl (bE (c := cX (.iface 46 (.agg #[.int .i64 p21]))) [0, 0, 0] rfl jq rfl (kb F o1 x16 a3 t4 a5 a6 t7 p21 e20) rfl ?_);exact And.intro rfl (Exists.intro [] ⟨bf _, rfl, rfl⟩)
  refine aa ?_;show AR _ _ _ _ _ [0, 1, 2, 3, 4] _;refine zS rfl (ai (av := .pt _ _) rfl) <| ap rfl rfl (be [0, 0, 0] rfl jq rfl (kP F o1 x16 a3 t4 a5 a6 t7 x19.1 x19.2 e20) rfl (fun c A' h => by cases h.1) ?_)
  rintro av A' ⟨h, rfl⟩; cases h
  refine zS rfl (fi (zs := [.int .i64 0, .string ⟨#[]⟩, .string ⟨#[]⟩, .slice none 0 0]) (ps := [(0, 1), (1, 1), (2, 1), (3, 1)]) (cs := [i64 0, S x19.1, S ([] : List UInt8), ab]) (by kernel_rfl) rfl rfl) <| zX rfl (dL (zs := [.int .i64 0, .string ⟨#[]⟩, .string ⟨#[]⟩, .slice none 0 0]) (by kernel_rfl)) ?_;rintro _ _ ⟨o22, rfl, rfl⟩;refine s0 rfl rfl (cK (i := 0) (vs := [i64 0, S x19.1, S ([] : List UInt8), ab]) (by kernel_rfl) rfl rfl (by simp [co, slE]) rfl (ag rfl)) <| ah ?_
  refine jj 0 3 2 44 rfl rfl fun t23 => ?_
  show AW _ _ _ _ _ ⟨_, _, [.tok t23 44, .obj o22 [i64 0, S x19.1, S ([] : List UInt8), slE (Enc.prod Enc.str Enc.str) [] (some t23)], .obj o1 [S x19.2, .sk t4 a3.length, i64 a5, slE (Enc.prod Enc.int (Enc.prod Enc.str (Enc.prod Enc.str (Enc.sl (Enc.prod Enc.str Enc.str))))) a6 (some t7)], .stk t4 (Enc.str.fl a3), .tok t7 33]⟩;refine af <| aa ?_;show AR _ _ _ _ _ [0] _;refine za rfl <| ah <| bw (X := Bool × (List UInt8) × (List ((List UInt8) × List UInt8)) × Nat) (fun (y56, y57, y58, t59) => ⟨[(0, .pt o1 0), (3, .pt o22 0), (4, B y56)], [], [.obj o1 [S y57, .sk t4 a3.length, i64 a5, slE (Enc.prod Enc.int (Enc.prod Enc.str (Enc.prod Enc.str (Enc.sl (Enc.prod Enc.str Enc.str))))) a6 (some t7)], .obj o22 [i64 0, S x19.1, S ([] : List UInt8), slE (Enc.prod Enc.str Enc.str) y58 (some t59)], .stk t4 (Enc.str.fl a3), .tok t7 33, .tok t59 44]⟩) (fun (y56, y57, y58, t59) => er F a3 a5 a6 x19 y56 y57 y58 = some rv) ?_ ?_
  ·refine aQ <| cJ (X := Nat × (List ((List UInt8) × List UInt8)) × Nat × (List UInt8)) (fun (n28, y24, t25, y26) => ⟨[(0, .pt o1 0), (3, .pt o22 0), (4, B false)], [], [.obj o22 [i64 0, S x19.1, S ([] : List UInt8), slE (Enc.prod Enc.str Enc.str) y24 (some t25)], .obj o1 [S y26, .sk t4 a3.length, i64 a5, slE (Enc.prod Enc.int (Enc.prod Enc.str (Enc.prod Enc.str (Enc.sl (Enc.prod Enc.str Enc.str))))) a6 (some t7)], .stk t4 (Enc.str.fl a3), .tok t25 44, .tok t7 33]⟩) (fun (n28, y24, t25, y26) => ga F a3 a5 a6 x19 n28 (y24, y26) = some rv) (fun (n28, y24, t25, y26) => n28) (F, [], t23, x19.2) H (aW [1, 1, 1, 0, 0] (.cons (.refl _) (.cons (.refl _) (.cons (.refl _) (.nil _)))) rfl) ?_;rintro ⟨n28, y24, t25, y26⟩ H;obtain ⟨n28, rfl, H⟩ := dz H;replace H : gb F a3 a5 a6 x19 (ga F a3 a5 a6 x19 n28) y24 y26 = some rv := H
   unfold gb at H
   refine aQ <| af ?_;obtain ⟨x29, x30, e31, H⟩ := cU H;refine aa ?_;show AR _ _ _ _ _ [0, 1, 2] _;refine zS rfl (ai (av := .pt _ _) rfl) <| ap rfl rfl (be [1, 1, 2] rfl qW rfl (nY F o1 y26 a3 t4 a5 a6 t7 x29 x30 e31) rfl (fun c A' h => by cases h.1) ?_)
   rintro av A' ⟨h, rfl⟩; cases h
   refine za rfl <| ah <| af <| af ?_;obtain ⟨x32, x33, e34, H⟩ := cU H;refine aa ?_;show AR _ _ _ _ _ [0, 1] _;refine zS rfl (ai (av := .pt _ _) rfl) <| ap rfl rfl (be [0, 0, 0] rfl dN rfl (dK F o1 x30 a3 t4 a5 a6 t7 ([62] : List UInt8) x32 x33 e34) rfl (fun c A' h => by cases h.1) ?_)
   rintro av A' ⟨h, rfl⟩; cases h
   refine ah <| ax rfl (fun c35 => ?_) (fun c35 => ?_)
   ·replace H := ba c35 H;refine cf ?_;exact Exists.intro (false, x33, y24, t25) ⟨H, aW [0, 2, 0, 0, 0] (.cons (.refl _) (.cons (.refl _) (.cons (.refl _) (.nil _)))) rfl⟩
   ·replace H := bb c35 H;refine aC <| af <| af ?_;obtain ⟨x36, x37, e38, H⟩ := cU H;refine aa ?_;show AR _ _ _ _ _ [0, 1] _;refine zS rfl (ai (av := .pt _ _) rfl) <| ap rfl rfl (be [0, 0, 0] rfl dN rfl (dK F o1 x33 a3 t4 a5 a6 t7 ([47, 62] : List UInt8) x36 x37 e38) rfl (fun c A' h => by cases h.1) ?_)
    rintro av A' ⟨h, rfl⟩; cases h
    refine ah <| ax rfl (fun c39 => ?_) (fun c39 => ?_)
    ·replace H := ba c39 H;refine af <| aa ?_;show AR _ _ _ _ _ [0] _;refine za rfl <| ah <| cf ?_;exact Exists.intro (true, x37, y24, t25) ⟨H, aW [0, 2, 0, 0, 0] (.cons (.refl _) (.cons (.refl _) (.cons (.refl _) (.nil _)))) rfl⟩
    ·replace H := bb c39 H;refine aC <| af ?_
     rcases Or.symm (cN H) with ⟨p42, e41, H⟩ | ⟨x40, e41, H⟩
     ·subst H;refine aa ?_;show AR _ _ _ _ _ [0, 1] _;refine zm rfl <| ap rfl rfl (bE (c := cX (.iface 46 (.agg #[.int .i64 p42]))) [] rfl bS rfl (bV F x29 p42 e41) rfl ?_);exact And.intro rfl (Exists.intro [] ⟨bf _, rfl, rfl⟩)
     refine aa ?_;show AR _ _ _ _ _ [0, 1] _;refine zm rfl <| ap rfl rfl (aI rfl bS rfl (cc F x29 e41) ?_);refine ah <| af ?_
     rcases Or.symm (cN H) with ⟨p45, e44, H⟩ | ⟨x43, e44, H⟩
     ·subst H;refine aa ?_;show AR _ _ _ _ _ [0, 1, 2, 3] _;refine zS rfl (ai (av := .pt _ _) rfl) <| ap rfl rfl (bE (c := cX (.iface 46 (.agg #[.int .i64 p45]))) [0, 0, 0] rfl qV rfl (pZ F o1 x37 a3 t4 a5 a6 t7 p45 e44) rfl ?_);exact And.intro rfl (Exists.intro [] ⟨bf _, rfl, rfl⟩)
     refine aa ?_;show AR _ _ _ _ _ [0, 1, 2, 3] _;refine zS rfl (ai (av := .pt _ _) rfl) <| ap rfl rfl (be [0, 0, 0] rfl qV rfl (rC F o1 x37 a3 t4 a5 a6 t7 x43.1 x43.2.1 x43.2.2 e44) rfl (fun c A' h => by cases h.1) ?_)
     rintro av A' ⟨h, rfl⟩; cases h
     refine zX rfl (dL (zs := [.string ⟨#[]⟩, .string ⟨#[]⟩]) (by kernel_rfl)) ?_;rintro _ _ ⟨o46, rfl, rfl⟩;refine s0 rfl rfl (cK (i := 0) (vs := [S x43.1, S x43.2.1]) (by kernel_rfl) rfl rfl (by simp [co, slE]) rfl (ag rfl)) <| ah <| af ?_;obtain ⟨x47, e48, H⟩ := ep H
     rcases Or.symm (cN H) with ⟨p51, e50, H⟩ | ⟨x49, e50, H⟩
     ·subst H;refine aa ?_;show AR _ _ _ _ _ [0, 1, 2, 3, 4, 5] _;refine zS rfl (ak (n := 3) (by kernel_rfl) rfl) <| zR rfl (aq (i := 4) aG rfl rfl rfl rfl) <| zS rfl (jg rfl rfl) <| ap rfl rfl (be [0] rfl qU rfl (jF F y24 (some t25) o46 x43.1 x43.2.1 x47 e48) rfl (fun c A' h => by cases h.1) ?_)
      rintro av A' ⟨h, rfl⟩; cases h
      refine zS rfl (cd rfl) <| ap rfl rfl (bE (c := cX (.iface 46 (.agg #[.int .i64 p51]))) [] rfl bS rfl (bV F (!x47) p51 e50) rfl ?_);exact And.intro rfl (Exists.intro [] ⟨bf _, rfl, rfl⟩)
     refine aa ?_;show AR _ _ _ _ _ [0, 1, 2, 3, 4, 5] _;refine zS rfl (ak (n := 3) (by kernel_rfl) rfl) <| zR rfl (aq (i := 4) aG rfl rfl rfl rfl) <| zS rfl (jg rfl rfl) <| ap rfl rfl (be [0] rfl qU rfl (jF F y24 (some t25) o46 x43.1 x43.2.1 x47 e48) rfl (fun c A' h => by cases h.1) ?_)
     rintro av A' ⟨h, rfl⟩; cases h
     refine zS rfl (cd rfl) <| ap rfl rfl (aI rfl bS rfl (cc F (!x47) e50) ?_);refine ah ?_;obtain ⟨g53, H⟩ := aR H;obtain ⟨x54, e55, H⟩ := bB H;refine aa ?_;show AR _ _ _ _ _ [0, 1, 2, 3, 4, 5, 6] _;refine zS rfl (ak (n := 3) (by kernel_rfl) rfl) <| zR rfl (aq (i := 4) aG rfl rfl rfl rfl) <| zR rfl (jh (i := 0) (n := 2) bZ rfl (by kernel_rfl) rfl rfl (ag rfl)) <| zR rfl (ej (E := (Enc.prod Enc.str Enc.str)) (bytes := 32) (zs := [.string ⟨#[]⟩, .string ⟨#[]⟩]) (l := ([(x43.1, x43.2.1)] : List ((List UInt8) × List UInt8))) aG (by kernel_rfl) (by kernel_rfl) rfl rfl rfl rfl rfl) <| zX rfl (fK (E := (Enc.prod Enc.str Enc.str)) (bytes := 32) 5 aG aG rfl (by kernel_rfl) rfl rfl rfl rfl g53 e55) ?_;rintro _ _ ⟨t52, rfl, rfl⟩;refine zS rfl (ak (n := 3) (by kernel_rfl) rfl) <| s0 rfl rfl (aB (i := 4) (c := slE _ _ _) (by kernel_rfl) rfl rfl rfl rfl (ag rfl)) <| ah ?_;exact Exists.intro (n28, x54, t52, x43.2.2) ⟨H, Nat.lt_succ_self _, aW [4, 1, 1, 2, 1] (.cons (.refl _) (.cons (.refl _) (.cons (.refl _) (.nil _)))) rfl⟩
  rintro ⟨y56, y57, y58, t59⟩ H;replace H : er F a3 a5 a6 x19 y56 y57 y58 = some rv := H
  unfold er at H
  refine bw (X := Int) (fun y66 => ⟨[(0, .pt o1 0), (3, .pt o22 0), (4, B y56)], [], [.obj o1 [S y57, .sk t4 a3.length, i64 y66, slE (Enc.prod Enc.int (Enc.prod Enc.str (Enc.prod Enc.str (Enc.sl (Enc.prod Enc.str Enc.str))))) a6 (some t7)], .obj o22 [i64 0, S x19.1, S ([] : List UInt8), slE (Enc.prod Enc.str Enc.str) y58 (some t59)], .stk t4 (Enc.str.fl a3), .tok t7 33, .tok t59 44]⟩) (fun y66 => eu F a3 a6 x19 y56 y57 y58 y66 = some rv) ?_ ?_
  ·refine af <| aa ?_;show AR _ _ _ _ _ [0, 1, 2, 3, 4, 5] _;refine zS rfl (ai (av := .pt _ _) rfl) <| zS rfl (ar rfl) <| zS rfl (ak (n := 1) (by kernel_rfl) rfl) <| zR rfl (aq (i := 0) al rfl rfl rfl rfl) <| zS rfl (fI al rfl) <| zS rfl (bR rfl rfl) <| ah <| ax rfl (fun c61 => ?_) (fun c61 => ?_)
   ·replace H := ba c61 H;refine af ?_;obtain ⟨g62, H⟩ := aR H;refine aa ?_;show AR _ _ _ _ _ [0, 1, 2, 3, 4, 5, 6, 7] _;refine zS rfl (ai (av := .pt _ _) rfl) <| zS rfl (ar rfl) <| zS rfl (ak (n := 2) (by kernel_rfl) rfl) <| zR rfl (aq (i := 0) bO rfl rfl rfl rfl) <| zS rfl (cH rfl rfl g62) <| zS rfl (ar rfl) <| zS rfl (ak (n := 2) (by kernel_rfl) rfl) <| s0 rfl rfl (aB (i := 0) (c := .v _) (by kernel_rfl) rfl rfl rfl rfl (ag rfl)) <| ah ?_
    rcases Or.symm (cN H) with ⟨p65, e64, H⟩ | ⟨x63, e64, H⟩
    ·subst H;refine aa ?_;show AR _ _ _ _ _ [0, 1, 2, 3, 4, 5] _;refine zS rfl (ai (av := .pt _ _) rfl) <| zS rfl (ar rfl) <| zS rfl (ak (n := 2) (by kernel_rfl) rfl) <| zR rfl (aq (i := 0) bO rfl rfl rfl rfl) <| zS rfl (bR rfl rfl) <| ap rfl rfl (bE (c := cX (.iface 46 (.agg #[.int .i64 p65]))) [] rfl bS rfl (bV F (decide (a5 + 1 = 1)) p65 e64) rfl ?_);exact And.intro rfl (Exists.intro [] ⟨bf _, rfl, rfl⟩)
    refine aa ?_;show AR _ _ _ _ _ [0, 1, 2, 3, 4, 5] _;refine zS rfl (ai (av := .pt _ _) rfl) <| zS rfl (ar rfl) <| zS rfl (ak (n := 2) (by kernel_rfl) rfl) <| zR rfl (aq (i := 0) bO rfl rfl rfl rfl) <| zS rfl (bR rfl rfl) <| ap rfl rfl (aI rfl bS rfl (cc F (decide (a5 + 1 = 1)) e64) ?_);refine ah ?_;exact Exists.intro (a5 + 1) ⟨H, aW [0, 0, 0, 0, 0] (.cons (.refl _) (.cons (.refl _) (.cons (.refl _) (.nil _)))) rfl⟩
   ·replace H := bb c61 H;refine aC ?_;exact Exists.intro a5 ⟨H, aW [0, 0, 0, 0, 0] (.cons (.refl _) (.cons (.refl _) (.cons (.refl _) (.nil _)))) rfl⟩
  rintro y66 H;replace H : eu F a3 a6 x19 y56 y57 y58 y66 = some rv := H
  unfold eu at H
  refine bw (X := Nat × (List (List UInt8))) (fun (t78, y79) => ⟨[(0, .pt o1 0), (3, .pt o22 0), (4, B y56)], [], [.obj o1 [S y57, .sk t78 y79.length, i64 y66, slE (Enc.prod Enc.int (Enc.prod Enc.str (Enc.prod Enc.str (Enc.sl (Enc.prod Enc.str Enc.str))))) a6 (some t7)], .obj o22 [i64 0, S x19.1, S ([] : List UInt8), slE (Enc.prod Enc.str Enc.str) y58 (some t59)], .stk t78 (Enc.str.fl y79), .tok t7 33, .tok t59 44]⟩) (fun (t78, y79) => fY F a6 x19 y56 y57 y58 y66 y79 = some rv) ?_ ?_
  ·refine bw (X := Nat × (List (List UInt8))) (fun (t74, y75) => ⟨[(0, .pt o1 0), (3, .pt o22 0), (4, B y56)], [], [.obj o1 [S y57, .sk t74 y75.length, i64 y66, slE (Enc.prod Enc.int (Enc.prod Enc.str (Enc.prod Enc.str (Enc.sl (Enc.prod Enc.str Enc.str))))) a6 (some t7)], .obj o22 [i64 0, S x19.1, S ([] : List UInt8), slE (Enc.prod Enc.str Enc.str) y58 (some t59)], .stk t74 (Enc.str.fl y75), .tok t7 33, .tok t59 44]⟩) (fun (t74, y75) => fX F a6 x19 y56 y57 y58 y66 y75 = some rv) ?_ ?_
   ·obtain ⟨g68, H⟩ := aR H;obtain ⟨x69, e70, H⟩ := bB H;refine bI (by kernel_rfl) ?_;show AI _ _ _ _ _ 12 (Array.replicate 12 false) _;refine zk 0 rfl (ai (av := .pt _ _) rfl) ?_;show AI _ _ _ _ _ _ #[true, false, false, false, false, false, false, false, false, false, false, false] _;refine zk 1 rfl (ai (av := .pt _ _) rfl) ?_;show AI _ _ _ _ _ _ #[true, true, false, false, false, false, false, false, false, false, false, false] _;refine zk 2 rfl (ar rfl) ?_;show AI _ _ _ _ _ _ #[true, true, true, false, false, false, false, false, false, false, false, false] _;refine zk 3 rfl (ak (n := 1) (by kernel_rfl) rfl) ?_;show AI _ _ _ _ _ _ #[true, true, true, true, false, false, false, false, false, false, false, false] _;refine zk 5 rfl (ak (n := 1) (by kernel_rfl) rfl) ?_;show AI _ _ _ _ _ _ #[true, true, true, true, false, true, false, false, false, false, false, false] _;refine AI.two (i := 4) (j := 6) (by kernel_rfl) rfl rfl rfl rfl ?_ ?_
    ·refine bp rfl (aq (i := 0) al rfl rfl rfl rfl) ?_;show AI _ _ _ _ _ _ #[true, true, true, true, true, true, false, false, false, false, false, false] _;refine bP (i := 6) (by kernel_rfl) rfl rfl <| bp rfl (aq (i := 1) ac rfl rfl rfl rfl) ?_;show AI _ _ _ _ _ _ #[true, true, true, true, true, true, true, false, false, false, false, false] _;refine bP (i := 7) (by kernel_rfl) rfl rfl <| bp rfl (cS (E := Enc.str) (bytes := 16) (xs := [.tmp 60]) (l := ([x19.1] : List (List UInt8))) al (by kernel_rfl) rfl rfl (by decide) rfl rfl) ?_;show AI _ _ _ _ _ _ #[true, true, true, true, true, true, true, true, false, false, false, false] _;refine bP (i := 8) (by kernel_rfl) rfl rfl <| AIO.opx rfl (kS (E := Enc.str) (bytes := 16) 2 al al rfl (by kernel_rfl) rfl rfl rfl rfl rfl rfl rfl g68 e70) ?_;rintro _ _ ⟨t71, rfl, rfl⟩;show AI _ _ _ _ _ _ #[true, true, true, true, true, true, true, true, true, false, false, false] _;refine zk 9 rfl (ar rfl) ?_;show AI _ _ _ _ _ _ #[true, true, true, true, true, true, true, true, true, true, false, false] _;refine zk 10 rfl (ak (n := 1) (by kernel_rfl) rfl) ?_;show AI _ _ _ _ _ _ #[true, true, true, true, true, true, true, true, true, true, true, false] _;refine bP (i := 11) (by kernel_rfl) rfl rfl <| AIO.op0 (aB (i := 0) (c := .sk _ _) (by kernel_rfl) rfl rfl rfl rfl (ag rfl)) ?_
     show AI _ _ _ _ _ _ #[true, true, true, true, true, true, true, true, true, true, true, true] _;refine cx rfl ?_;exact Exists.intro (t71, x69) ⟨H, aW [0, 0, 0, 0, 0] (.cons (.refl _) (.cons (.refl _) (.cons (.refl _) (.nil _)))) rfl⟩
    ·refine bp rfl (aq (i := 1) ac rfl rfl rfl rfl) ?_;show AI _ _ _ _ _ _ #[true, true, true, true, false, true, true, false, false, false, false, false] _;refine AI.two (i := 4) (j := 7) (by kernel_rfl) rfl rfl rfl rfl ?_ ?_
     ·refine bp rfl (aq (i := 0) al rfl rfl rfl rfl) ?_;show AI _ _ _ _ _ _ #[true, true, true, true, true, true, true, false, false, false, false, false] _;refine bP (i := 7) (by kernel_rfl) rfl rfl <| bp rfl (cS (E := Enc.str) (bytes := 16) (xs := [.tmp 60]) (l := ([x19.1] : List (List UInt8))) al (by kernel_rfl) rfl rfl (by decide) rfl rfl) ?_;show AI _ _ _ _ _ _ #[true, true, true, true, true, true, true, true, false, false, false, false] _;refine bP (i := 8) (by kernel_rfl) rfl rfl <| AIO.opx rfl (kS (E := Enc.str) (bytes := 16) 2 al al rfl (by kernel_rfl) rfl rfl rfl rfl rfl rfl rfl g68 e70) ?_;rintro _ _ ⟨t72, rfl, rfl⟩;show AI _ _ _ _ _ _ #[true, true, true, true, true, true, true, true, true, false, false, false] _;refine zk 9 rfl (ar rfl) ?_;show AI _ _ _ _ _ _ #[true, true, true, true, true, true, true, true, true, true, false, false] _;refine zk 10 rfl (ak (n := 1) (by kernel_rfl) rfl) ?_;show AI _ _ _ _ _ _ #[true, true, true, true, true, true, true, true, true, true, true, false] _;refine bP (i := 11) (by kernel_rfl) rfl rfl <| AIO.op0 (aB (i := 0) (c := .sk _ _) (by kernel_rfl) rfl rfl rfl rfl (ag rfl)) ?_;show AI _ _ _ _ _ _ #[true, true, true, true, true, true, true, true, true, true, true, true] _;refine cx rfl ?_;exact Exists.intro (t72, x69) ⟨H, aW [0, 0, 0, 0, 0] (.cons (.refl _) (.cons (.refl _) (.cons (.refl _) (.nil _)))) rfl⟩
     ·refine bp rfl (cS (E := Enc.str) (bytes := 16) (xs := [.tmp 60]) (l := ([x19.1] : List (List UInt8))) al (by kernel_rfl) rfl rfl (by decide) rfl rfl) ?_;show AI _ _ _ _ _ _ #[true, true, true, true, false, true, true, true, false, false, false, false] _;refine bP (i := 4) (by kernel_rfl) rfl rfl <| bp rfl (aq (i := 0) al rfl rfl rfl rfl) ?_;show AI _ _ _ _ _ _ #[true, true, true, true, true, true, true, true, false, false, false, false] _;refine bP (i := 8) (by kernel_rfl) rfl rfl <| AIO.opx rfl (kS (E := Enc.str) (bytes := 16) 2 al al rfl (by kernel_rfl) rfl rfl rfl rfl rfl rfl rfl g68 e70) ?_;rintro _ _ ⟨t73, rfl, rfl⟩;show AI _ _ _ _ _ _ #[true, true, true, true, true, true, true, true, true, false, false, false] _;refine zk 9 rfl (ar rfl) ?_;show AI _ _ _ _ _ _ #[true, true, true, true, true, true, true, true, true, true, false, false] _;refine zk 10 rfl (ak (n := 1) (by kernel_rfl) rfl) ?_;show AI _ _ _ _ _ _ #[true, true, true, true, true, true, true, true, true, true, true, false] _;refine bP (i := 11) (by kernel_rfl) rfl rfl <| AIO.op0 (aB (i := 0) (c := .sk _ _) (by kernel_rfl) rfl rfl rfl rfl (ag rfl)) ?_;show AI _ _ _ _ _ _ #[true, true, true, true, true, true, true, true, true, true, true, true] _;refine cx rfl ?_;exact Exists.intro (t73, x69) ⟨H, aW [0, 0, 0, 0, 0] (.cons (.refl _) (.cons (.refl _) (.cons (.refl _) (.nil _)))) rfl⟩
   rintro ⟨t74, y75⟩ H;replace H : fX F a6 x19 y56 y57 y58 y66 y75 = some rv := H
   unfold fX at H
   refine af <| aa ?_;show AR _ _ _ _ _ [0, 1, 2, 3, 4, 5] _;refine zS rfl (ai (av := .pt _ _) rfl) <| zS rfl (ar rfl) <| zS rfl (ak (n := 1) (by kernel_rfl) rfl) <| zR rfl (aq (i := 0) al rfl rfl rfl rfl) <| zS rfl (fI al rfl) <| zS rfl (fw rfl rfl) <| ah <| ax rfl (fun c77 => ?_) (fun c77 => ?_)
   ·replace H := ba c77 H;obtain rfl := am H;refine aa ?_;show AR _ _ _ _ _ [0, 1, 2] _;refine zS rfl (fi (zs := [.int .i64 0]) (ps := [(0, 1)]) (cs := [i64 5]) (by kernel_rfl) rfl rfl) <| zS rfl (bx (a := .agg _) Tryz.underlying46 rfl rfl) <| ap rfl rfl (AO.panicT (c := cX (.iface 46 (.agg #[.int .i64 5]))) rfl rfl ?_);exact And.intro rfl (Exists.intro [] ⟨bf _, rfl, rfl⟩)
   ·replace H := bb c77 H;refine aC ?_;exact Exists.intro (t74, y75) ⟨H, aW [0, 0, 0, 0, 0] (.cons (.refl _) (.cons (.refl _) (.cons (.refl _) (.nil _)))) rfl⟩
  rintro ⟨t78, y79⟩ H;replace H : fY F a6 x19 y56 y57 y58 y66 y79 = some rv := H
  unfold fY at H
  refine bw (X := (List (Int × (List UInt8) × (List UInt8) × List ((List UInt8) × List UInt8))) × Nat) (fun (y87, t88) => ⟨[(0, .pt o1 0), (3, .pt o22 0), (4, B y56)], [], [.obj o1 [S y57, .sk t78 y79.length, i64 y66, slE (Enc.prod Enc.int (Enc.prod Enc.str (Enc.prod Enc.str (Enc.sl (Enc.prod Enc.str Enc.str))))) y87 (some t88)], .obj o22 [i64 0, S x19.1, S ([] : List UInt8), slE (Enc.prod Enc.str Enc.str) y58 (some t59)], .stk t78 (Enc.str.fl y79), .tok t88 33, .tok t59 44]⟩) (fun (y87, t88) => fZ F x19 y56 y57 y66 y79 y87 = some rv) ?_ ?_
  ·obtain ⟨g82, H⟩ := aR H;obtain ⟨x83, e84, H⟩ := bB H;refine bI (by kernel_rfl) ?_;show AI _ _ _ _ _ 11 (Array.replicate 11 false) _;refine zk 0 rfl (ai (av := .pt _ _) rfl) ?_;show AI _ _ _ _ _ _ #[true, false, false, false, false, false, false, false, false, false, false] _;refine zk 1 rfl (ai (av := .pt _ _) rfl) ?_;show AI _ _ _ _ _ _ #[true, true, false, false, false, false, false, false, false, false, false] _;refine zk 2 rfl (ar rfl) ?_;show AI _ _ _ _ _ _ #[true, true, true, false, false, false, false, false, false, false, false] _;refine zk 3 rfl (ak (n := 3) (by kernel_rfl) rfl) ?_;show AI _ _ _ _ _ _ #[true, true, true, true, false, false, false, false, false, false, false] _;refine AI.two (i := 4) (j := 5) (by kernel_rfl) rfl rfl rfl rfl ?_ ?_
   ·refine bp rfl (aq (i := 0) aw rfl rfl rfl rfl) ?_;show AI _ _ _ _ _ _ #[true, true, true, true, true, false, false, false, false, false, false] _;refine bP (i := 5) (by kernel_rfl) rfl rfl <| bp rfl (jh (i := 1) (n := 4) cO rfl (by kernel_rfl) rfl rfl (ag rfl)) ?_;show AI _ _ _ _ _ _ #[true, true, true, true, true, true, false, false, false, false, false] _;refine bP (i := 6) (by kernel_rfl) rfl rfl <| bp rfl (fc (ds := [i64 0, S x19.1, S ([] : List UInt8), slE (Enc.prod Enc.str Enc.str) y58 none]) 78 (.cons (.refl _) (.cons (.refl _) (.cons (.refl _) (.cons (.tok _ _ _) (.nil))))) (hc := rfl) <| ej (E := (Enc.prod Enc.int (Enc.prod Enc.str (Enc.prod Enc.str (Enc.sl (Enc.prod Enc.str Enc.str)))))) (bytes := 64) (zs := [.int .i64 0, .string ⟨#[]⟩, .string ⟨#[]⟩, .slice none 0 0]) (l := ([(0, x19.1, ([] : List UInt8), y58)] : List (Int × (List UInt8) × (List UInt8) × List ((List UInt8) × List UInt8)))) aw (by kernel_rfl) (by kernel_rfl) rfl rfl rfl rfl rfl) ?_;show AI _ _ _ _ _ _ #[true, true, true, true, true, true, true, false, false, false, false] _;refine bP (i := 7) (by kernel_rfl) rfl rfl <| AIO.opx rfl (fK (E := (Enc.prod Enc.int (Enc.prod Enc.str (Enc.prod Enc.str (Enc.sl (Enc.prod Enc.str Enc.str)))))) (bytes := 64) 3 aw aw rfl (by kernel_rfl) rfl rfl rfl rfl g82 e84) ?_;rintro _ _ ⟨t81, rfl, rfl⟩;show AI _ _ _ _ _ _ #[true, true, true, true, true, true, true, true, false, false, false] _
    refine zk 8 rfl (ar rfl) ?_;show AI _ _ _ _ _ _ #[true, true, true, true, true, true, true, true, true, false, false] _;refine zk 9 rfl (ak (n := 3) (by kernel_rfl) rfl) ?_;show AI _ _ _ _ _ _ #[true, true, true, true, true, true, true, true, true, true, false] _;refine bP (i := 10) (by kernel_rfl) rfl rfl <| AIO.op0 (aB (i := 0) (c := slE _ _ _) (by kernel_rfl) rfl rfl rfl rfl (ag rfl)) ?_;show AI _ _ _ _ _ _ #[true, true, true, true, true, true, true, true, true, true, true] _;refine cx rfl ?_;exact Exists.intro (x83, t81) ⟨H, aW [0, 0, 0, 0, 0] (.cons (.refl _) (.cons (.refl _) (.cons (.refl _) (.nil _)))) rfl⟩
   ·refine bp rfl (jh (i := 1) (n := 4) cO rfl (by kernel_rfl) rfl rfl (ag rfl)) ?_;show AI _ _ _ _ _ _ #[true, true, true, true, false, true, false, false, false, false, false] _;refine AI.two (i := 4) (j := 6) (by kernel_rfl) rfl rfl rfl rfl ?_ ?_
    ·refine bp rfl (aq (i := 0) aw rfl rfl rfl rfl) ?_;show AI _ _ _ _ _ _ #[true, true, true, true, true, true, false, false, false, false, false] _;refine bP (i := 6) (by kernel_rfl) rfl rfl <| bp rfl (fc (ds := [i64 0, S x19.1, S ([] : List UInt8), slE (Enc.prod Enc.str Enc.str) y58 none]) 78 (.cons (.refl _) (.cons (.refl _) (.cons (.refl _) (.cons (.tok _ _ _) (.nil))))) (hc := rfl) <| ej (E := (Enc.prod Enc.int (Enc.prod Enc.str (Enc.prod Enc.str (Enc.sl (Enc.prod Enc.str Enc.str)))))) (bytes := 64) (zs := [.int .i64 0, .string ⟨#[]⟩, .string ⟨#[]⟩, .slice none 0 0]) (l := ([(0, x19.1, ([] : List UInt8), y58)] : List (Int × (List UInt8) × (List UInt8) × List ((List UInt8) × List UInt8)))) aw (by kernel_rfl) (by kernel_rfl) rfl rfl rfl rfl rfl) ?_;show AI _ _ _ _ _ _ #[true, true, true, true, true, true, true, false, false, false, false] _;refine bP (i := 7) (by kernel_rfl) rfl rfl <| AIO.opx rfl (fK (E := (Enc.prod Enc.int (Enc.prod Enc.str (Enc.prod Enc.str (Enc.sl (Enc.prod Enc.str Enc.str)))))) (bytes := 64) 3 aw aw rfl (by kernel_rfl) rfl rfl rfl rfl g82 e84) ?_;rintro _ _ ⟨t85, rfl, rfl⟩;show AI _ _ _ _ _ _ #[true, true, true, true, true, true, true, true, false, false, false] _;refine zk 8 rfl (ar rfl) ?_;show AI _ _ _ _ _ _ #[true, true, true, true, true, true, true, true, true, false, false] _;refine zk 9 rfl (ak (n := 3) (by kernel_rfl) rfl) ?_
     show AI _ _ _ _ _ _ #[true, true, true, true, true, true, true, true, true, true, false] _;refine bP (i := 10) (by kernel_rfl) rfl rfl <| AIO.op0 (aB (i := 0) (c := slE _ _ _) (by kernel_rfl) rfl rfl rfl rfl (ag rfl)) ?_;show AI _ _ _ _ _ _ #[true, true, true, true, true, true, true, true, true, true, true] _;refine cx rfl ?_;exact Exists.intro (x83, t85) ⟨H, aW [0, 0, 0, 0, 0] (.cons (.refl _) (.cons (.refl _) (.cons (.refl _) (.nil _)))) rfl⟩
    ·refine bp rfl (fc (ds := [i64 0, S x19.1, S ([] : List UInt8), slE (Enc.prod Enc.str Enc.str) y58 none]) 78 (.cons (.refl _) (.cons (.refl _) (.cons (.refl _) (.cons (.tok _ _ _) (.nil))))) (hc := rfl) <| ej (E := (Enc.prod Enc.int (Enc.prod Enc.str (Enc.prod Enc.str (Enc.sl (Enc.prod Enc.str Enc.str)))))) (bytes := 64) (zs := [.int .i64 0, .string ⟨#[]⟩, .string ⟨#[]⟩, .slice none 0 0]) (l := ([(0, x19.1, ([] : List UInt8), y58)] : List (Int × (List UInt8) × (List UInt8) × List ((List UInt8) × List UInt8)))) aw (by kernel_rfl) (by kernel_rfl) rfl rfl rfl rfl rfl) ?_;show AI _ _ _ _ _ _ #[true, true, true, true, false, true, true, false, false, false, false] _;refine bP (i := 4) (by kernel_rfl) rfl rfl <| bp rfl (aq (i := 0) aw rfl rfl rfl rfl) ?_;show AI _ _ _ _ _ _ #[true, true, true, true, true, true, true, false, false, false, false] _;refine bP (i := 7) (by kernel_rfl) rfl rfl <| AIO.opx rfl (fK (E := (Enc.prod Enc.int (Enc.prod Enc.str (Enc.prod Enc.str (Enc.sl (Enc.prod Enc.str Enc.str)))))) (bytes := 64) 3 aw aw rfl (by kernel_rfl) rfl rfl rfl rfl g82 e84) ?_;rintro _ _ ⟨t86, rfl, rfl⟩;show AI _ _ _ _ _ _ #[true, true, true, true, true, true, true, true, false, false, false] _;refine zk 8 rfl (ar rfl) ?_;show AI _ _ _ _ _ _ #[true, true, true, true, true, true, true, true, true, false, false] _;refine zk 9 rfl (ak (n := 3) (by kernel_rfl) rfl) ?_
     show AI _ _ _ _ _ _ #[true, true, true, true, true, true, true, true, true, true, false] _;refine bP (i := 10) (by kernel_rfl) rfl rfl <| AIO.op0 (aB (i := 0) (c := slE _ _ _) (by kernel_rfl) rfl rfl rfl rfl (ag rfl)) ?_;show AI _ _ _ _ _ _ #[true, true, true, true, true, true, true, true, true, true, true] _;refine cx rfl ?_;exact Exists.intro (x83, t86) ⟨H, aW [0, 0, 0, 0, 0] (.cons (.refl _) (.cons (.refl _) (.cons (.refl _) (.nil _)))) rfl⟩
  rintro ⟨y87, t88⟩ H;replace H : fZ F x19 y56 y57 y66 y79 y87 = some rv := H
  unfold fZ at H
  refine bw (X := Nat × (List (List UInt8)) × (List (Int × (List UInt8) × (List UInt8) × List ((List UInt8) × List UInt8))) × Nat) (fun (t96, y97, y98, t99) => ⟨[], [], [.obj o1 [S y57, .sk t96 y97.length, i64 y66, slE (Enc.prod Enc.int (Enc.prod Enc.str (Enc.prod Enc.str (Enc.sl (Enc.prod Enc.str Enc.str))))) y98 (some t99)], .stk t96 (Enc.str.fl y97), .tok t99 33]⟩) (fun (t96, y97, y98, t99) => fj y57 y66 y97 y98 = some rv) ?_ ?_
  ·refine af <| aa ?_;show AR _ _ _ _ _ [0] _;refine zm rfl <| ah <| ax rfl (fun c90 => ?_) (fun c90 => ?_)
   ·replace H := ba c90 H
    rcases Or.symm (cN H) with ⟨p93, e92, H⟩ | ⟨x91, e92, H⟩
    ·subst H;refine aa ?_;show AR _ _ _ _ _ [0, 1, 2, 3] _;refine zS rfl (ai (av := .pt _ _) rfl) <| zS rfl (ak (n := 1) (by kernel_rfl) rfl) <| zR rfl (aq (i := 1) ac rfl rfl rfl rfl) <| ap rfl rfl (bE (c := cX (.iface 46 (.agg #[.int .i64 p93]))) [0, 1, 1] rfl lP rfl (md F o1 y57 y79 t78 y66 y87 t88 x19.1 p93 e92) rfl ?_);exact And.intro rfl (Exists.intro [] ⟨bf _, rfl, rfl⟩)
    refine aa ?_;show AR _ _ _ _ _ [0, 1, 2, 3] _;refine zS rfl (ai (av := .pt _ _) rfl) <| zS rfl (ak (n := 1) (by kernel_rfl) rfl) <| zR rfl (aq (i := 1) ac rfl rfl rfl rfl) <| ap rfl rfl (be [0, 1, 1] rfl lP rfl (mO F o1 y57 y79 t78 y66 y87 t88 x19.1 x91.1 x91.2 e92) rfl (fun c A' h => by cases h.1) ?_)
    rintro av A' ⟨h, t94, t95, rfl⟩; cases h
    refine ah ?_;exact Exists.intro (t94, x91.2, x91.1, t95) ⟨H, aW [0, 0, 0] (.nil _) rfl⟩
   ·replace H := bb c90 H;refine aC ?_;exact Exists.intro (t78, y79, y87, t88) ⟨H, aW [0, 1, 1] (.nil _) rfl⟩
  rintro ⟨t96, y97, y98, t99⟩ H;replace H : fj y57 y66 y97 y98 = some rv := H
  unfold fj at H
  refine af <| aa ?_;show AR _ _ _ _ _ [0] _;refine za rfl <| ah <| aP ?_;obtain rfl := am H;exact And.intro rfl (Exists.intro _ (Exists.intro _ ⟨aF rfl (.refl _), aK [0, 0, 0] rfl, rfl, t96, t99, rfl⟩))
theorem oG (F : Nat) (o1 : Nat) (a2 : List UInt8) (a3 : List (List UInt8)) (t4 : Nat) (a5 : Int) (a6 : List (Int × (List UInt8) × (List UInt8) × List ((List UInt8) × List UInt8))) (t7 : Nat) (r8 : Bool) (r9 : List UInt8) (r12 : Int) (r13 : List (Int × (List UInt8) × (List UInt8) × List ((List UInt8) × List UInt8))) (r10 : List (List UInt8)) (H : gt F a2 a3 a5 a6 = some (Res.ok (r8, r9, r12, r13, r10))) : ACalls Tryz.prog 43 [.pt o1 0] [.obj o1 [S a2, .sk t4 a3.length, i64 a5, slE (Enc.prod Enc.int (Enc.prod Enc.str (Enc.prod Enc.str (Enc.sl (Enc.prod Enc.str Enc.str))))) a6 (some t7)], .stk t4 (Enc.str.fl a3), .tok t7 33] (fun e A' => e = .ret (B r8) ∧ ∃ t11 t14, A' = [.obj o1 [S r9, .sk t11 r10.length, i64 r12, slE (Enc.prod Enc.int (Enc.prod Enc.str (Enc.prod Enc.str (Enc.sl (Enc.prod Enc.str Enc.str))))) r13 (some t14)], .stk t11 (Enc.str.fl r10), .tok t14 33]) := mP F o1 a2 a3 t4 a5 a6 t7 _ H
theorem nC (F : Nat) (o1 : Nat) (a2 : List UInt8) (a3 : List (List UInt8)) (t4 : Nat) (a5 : Int) (a6 : List (Int × (List UInt8) × (List UInt8) × List ((List UInt8) × List UInt8))) (t7 : Nat) (e : Int) (H : gt F a2 a3 a5 a6 = some (Res.pan e)) : ACalls Tryz.prog 43 [.pt o1 0] [.obj o1 [S a2, .sk t4 a3.length, i64 a5, slE (Enc.prod Enc.int (Enc.prod Enc.str (Enc.prod Enc.str (Enc.sl (Enc.prod Enc.str Enc.str))))) a6 (some t7)], .stk t4 (Enc.str.fl a3), .tok t7 33] (fun ae A' => ae = .pan ((fun e => cX (.iface 46 (.agg #[.int .i64 e]))) e) ∧ A' = []) := mP F o1 a2 a3 t4 a5 a6 t7 _ H
abbrev _root_.Go.Av.dq := @Tryz.underlying70
abbrev _root_.Go.Av.cF := @Tryz.underlying71
set_option maxRecDepth 100000 in
set_option maxHeartbeats 1000000 in
theorem qt (F : Nat) (o1 : Nat) (a2 : List UInt8) (a3 : List (List UInt8)) (t4 : Nat) (a5 : Int) (a6 : List (Int × (List UInt8) × (List UInt8) × List ((List UInt8) × List UInt8))) (t7 : Nat) (rv : Res ((List UInt8) × Int × (List (Int × (List UInt8) × (List UInt8) × List ((List UInt8) × List UInt8))) × (List (List UInt8)))) (H : lg F a2 a3 a5 a6 = some rv) : ACalls Tryz.prog 22 [.pt o1 0] [.obj o1 [S a2, .sk t4 a3.length, i64 a5, slE (Enc.prod Enc.int (Enc.prod Enc.str (Enc.prod Enc.str (Enc.sl (Enc.prod Enc.str Enc.str))))) a6 (some t7)], .stk t4 (Enc.str.fl a3), .tok t7 33] (kE (fun (r : (List UInt8) × Int × (List (Int × (List UInt8) × (List UInt8) × List ((List UInt8) × List UInt8))) × (List (List UInt8))) => (fun e A' => e = .ret (.tup []) ∧ ∃ t10 t13, A' = [.obj o1 [S r.1, .sk t10 r.2.2.2.length, i64 r.2.1, slE (Enc.prod Enc.int (Enc.prod Enc.str (Enc.prod Enc.str (Enc.sl (Enc.prod Enc.str Enc.str))))) r.2.2.1 (some t13)], .stk t10 (Enc.str.fl r.2.2.2), .tok t13 33])) (fun e => cX (.iface 46 (.agg #[.int .i64 e]))) rv) := by
 unfold lg at H
 refine ay Tryz.func22 rfl rfl ?_;show AW _ _ 14 _ _ _;refine af <| aa ?_;show AR _ _ _ _ _ [0, 1, 2] _;refine zR rfl (cS (E := kv) (bytes := 8) (xs := [.func 37, .func 38, .func 39, .func 40, .func 41, .func 42, .func 43]) (l := ([37, 38, 39, 40, 41, 42, 43] : List Nat)) cF (by kernel_rfl) rfl rfl (by decide) rfl rfl) <| zS rfl (bc (av' := i64 7) (aV cF rfl) rfl) <| zm rfl <| ah <| aQ <| nU 9 <| af <| aa ?_;show AR _ _ _ _ _ [0] _;refine zS rfl (bc (av' := B true) (bQ rfl rfl) (az (by decide))) <| ah <| af <| ax rfl (fun _ => ?_) (fun hx => bq rfl hx);refine aC <| af <| aQ <| af <| aa ?_;show AR _ _ _ _ _ [0, 1, 2] _;refine zS rfl (bm (E := kv) (m := 0) cF (by kernel_rfl) rfl rfl rfl rfl) <| zS rfl (aA dq rfl rfl) <| za rfl <| ah <| af ?_
 rcases Or.symm (cN H) with ⟨p16, e15, H⟩ | ⟨x14, e15, H⟩
 ·subst H;refine aa ?_;show AR _ _ _ _ _ [0, 1, 2] _;refine zm rfl <| zS rfl (ai (av := .pt _ _) rfl) <| ap rfl rfl (AO.callFPan (c := cX (.iface 46 (.agg #[.int .i64 p16]))) [0, 0, 0] rfl (.inr ⟨rfl, rfl, rfl⟩) rf rfl (oZ F o1 a2 a3 t4 a5 a6 t7 p16 e15) rfl ?_);exact And.intro rfl (Exists.intro [] ⟨bf _, rfl, rfl⟩)
 refine aa ?_;show AR _ _ _ _ _ [0, 1, 2] _;refine zm rfl <| zS rfl (ai (av := .pt _ _) rfl) <| ap rfl rfl (AO.callFAt [0, 0, 0] rfl (.inr ⟨rfl, rfl, rfl⟩) rf rfl (pX F o1 a2 a3 t4 a5 a6 t7 x14.1 x14.2.1 x14.2.2 e15) rfl (fun c A' h => by cases h.1) ?_)
 rintro av A' ⟨h, t17, rfl⟩; cases h
 refine ah <| ax rfl (fun c18 => ?_) (fun c18 => ?_)
 ·replace H := ba c18 H;refine aP ?_;obtain rfl := am H;exact And.intro rfl (Exists.intro _ (Exists.intro _ ⟨bD rfl, aK [0, 0, 0] rfl, rfl, t4, t17, rfl⟩))
 ·replace H := bb c18 H;refine aC <| aa ?_;show AR _ _ _ _ _ [0, 1] _;refine zS rfl (bc (av' := i64 1) (cH rfl rfl (by decide)) rfl) <| zm rfl <| ah <| af <| aa ?_;show AR _ _ _ _ _ [0] _;refine zS rfl (bc (av' := B true) (bQ rfl rfl) (az (by decide))) <| ah <| af <| ax rfl (fun _ => ?_) (fun hx => bq rfl hx);refine aC <| af <| aQ <| af <| aa ?_;show AR _ _ _ _ _ [0, 1, 2] _;refine zS rfl (bm (E := kv) (m := 1) cF (by kernel_rfl) rfl rfl rfl rfl) <| zS rfl (aA dq rfl rfl) <| za rfl <| ah <| af ?_
  rcases Or.symm (cN H) with ⟨p21, e20, H⟩ | ⟨x19, e20, H⟩
  ·subst H;refine aa ?_;show AR _ _ _ _ _ [0, 1, 2] _;refine zm rfl <| zS rfl (ai (av := .pt _ _) rfl) <| ap rfl rfl (AO.callFPan (c := cX (.iface 46 (.agg #[.int .i64 p21]))) [0, 0, 0] rfl (.inr ⟨rfl, rfl, rfl⟩) re rfl (nD F o1 x14.2.1 a3 t4 a5 x14.2.2 t17 p21 e20) rfl ?_);exact And.intro rfl (Exists.intro [] ⟨bf _, rfl, rfl⟩)
  refine aa ?_;show AR _ _ _ _ _ [0, 1, 2] _;refine zm rfl <| zS rfl (ai (av := .pt _ _) rfl) <| ap rfl rfl (AO.callFAt [0, 0, 0] rfl (.inr ⟨rfl, rfl, rfl⟩) re rfl (oH F o1 x14.2.1 a3 t4 a5 x14.2.2 t17 x19.1 x19.2 e20) rfl (fun c A' h => by cases h.1) ?_)
  rintro av A' ⟨h, rfl⟩; cases h
  refine ah <| ax rfl (fun c22 => ?_) (fun c22 => ?_)
  ·replace H := ba c22 H;refine aP ?_;obtain rfl := am H;exact And.intro rfl (Exists.intro _ (Exists.intro _ ⟨bD rfl, aK [0, 0, 0] rfl, rfl, t4, t17, rfl⟩))
  ·replace H := bb c22 H;refine aC <| aa ?_;show AR _ _ _ _ _ [0, 1] _;refine zS rfl (bc (av' := i64 2) (cH rfl rfl (by decide)) rfl) <| zm rfl <| ah <| af <| aa ?_;show AR _ _ _ _ _ [0] _;refine zS rfl (bc (av' := B true) (bQ rfl rfl) (az (by decide))) <| ah <| af <| ax rfl (fun _ => ?_) (fun hx => bq rfl hx);refine aC <| af <| aQ <| af <| aa ?_;show AR _ _ _ _ _ [0, 1, 2] _;refine zS rfl (bm (E := kv) (m := 2) cF (by kernel_rfl) rfl rfl rfl rfl) <| zS rfl (aA dq rfl rfl) <| za rfl <| ah <| af ?_
   rcases Or.symm (cN H) with ⟨p25, e24, H⟩ | ⟨x23, e24, H⟩
   ·subst H;refine aa ?_;show AR _ _ _ _ _ [0, 1, 2] _;refine zm rfl <| zS rfl (ai (av := .pt _ _) rfl) <| ap rfl rfl (AO.callFPan (c := cX (.iface 46 (.agg #[.int .i64 p25]))) [0, 0, 0] rfl (.inr ⟨rfl, rfl, rfl⟩) rd rfl (rD F o1 x19.2 a3 t4 a5 x14.2.2 t17 p25 e24) rfl ?_);exact And.intro rfl (Exists.intro [] ⟨bf _, rfl, rfl⟩)
   refine aa ?_;show AR _ _ _ _ _ [0, 1, 2] _;refine zm rfl <| zS rfl (ai (av := .pt _ _) rfl) <| ap rfl rfl (AO.callFAt [0, 0, 0] rfl (.inr ⟨rfl, rfl, rfl⟩) rd rfl (sC F o1 x19.2 a3 t4 a5 x14.2.2 t17 x23.1 x23.2 e24) rfl (fun c A' h => by cases h.1) ?_)
   rintro av A' ⟨h, rfl⟩; cases h
   refine ah <| ax rfl (fun c26 => ?_) (fun c26 => ?_)
   ·replace H := ba c26 H;refine aP ?_;obtain rfl := am H;exact And.intro rfl (Exists.intro _ (Exists.intro _ ⟨bD rfl, aK [0, 0, 0] rfl, rfl, t4, t17, rfl⟩))
   ·replace H := bb c26 H;refine aC <| aa ?_;show AR _ _ _ _ _ [0, 1] _;refine zS rfl (bc (av' := i64 3) (cH rfl rfl (by decide)) rfl) <| zm rfl <| ah <| af <| aa ?_;show AR _ _ _ _ _ [0] _;refine zS rfl (bc (av' := B true) (bQ rfl rfl) (az (by decide))) <| ah <| af <| ax rfl (fun _ => ?_) (fun hx => bq rfl hx);refine aC <| af <| aQ <| af <| aa ?_;show AR _ _ _ _ _ [0, 1, 2] _;refine zS rfl (bm (E := kv) (m := 3) cF (by kernel_rfl) rfl rfl rfl rfl) <| zS rfl (aA dq rfl rfl) <| za rfl <| ah <| af ?_
    rcases Or.symm (cN H) with ⟨p29, e28, H⟩ | ⟨x27, e28, H⟩
    ·subst H;refine aa ?_;show AR _ _ _ _ _ [0, 1, 2] _;refine zm rfl <| zS rfl (ai (av := .pt _ _) rfl) <| ap rfl rfl (AO.callFPan (c := cX (.iface 46 (.agg #[.int .i64 p29]))) [0, 0, 0] rfl (.inr ⟨rfl, rfl, rfl⟩) rc rfl (pY F o1 x23.2 a3 t4 a5 x14.2.2 t17 p29 e28) rfl ?_);exact And.intro rfl (Exists.intro [] ⟨bf _, rfl, rfl⟩)
    refine aa ?_;show AR _ _ _ _ _ [0, 1, 2] _;refine zm rfl <| zS rfl (ai (av := .pt _ _) rfl) <| ap rfl rfl (AO.callFAt [0, 0, 0] rfl (.inr ⟨rfl, rfl, rfl⟩) rc rfl (rB F o1 x23.2 a3 t4 a5 x14.2.2 t17 x27.1 x27.2.1 x27.2.2 e28) rfl (fun c A' h => by cases h.1) ?_)
    rintro av A' ⟨h, t30, rfl⟩; cases h
    refine ah <| ax rfl (fun c31 => ?_) (fun c31 => ?_)
    ·replace H := ba c31 H;refine aP ?_;obtain rfl := am H;exact And.intro rfl (Exists.intro _ (Exists.intro _ ⟨bD rfl, aK [0, 0, 0] rfl, rfl, t4, t30, rfl⟩))
    ·replace H := bb c31 H;refine aC <| aa ?_;show AR _ _ _ _ _ [0, 1] _;refine zS rfl (bc (av' := i64 4) (cH rfl rfl (by decide)) rfl) <| zm rfl <| ah <| af <| aa ?_;show AR _ _ _ _ _ [0] _;refine zS rfl (bc (av' := B true) (bQ rfl rfl) (az (by decide))) <| ah <| af <| ax rfl (fun _ => ?_) (fun hx => bq rfl hx);refine aC <| af <| aQ <| af <| aa ?_;show AR _ _ _ _ _ [0, 1, 2] _;refine zS rfl (bm (E := kv) (m := 4) cF (by kernel_rfl) rfl rfl rfl rfl) <| zS rfl (aA dq rfl rfl) <| za rfl <| ah <| af ?_
     rcases Or.symm (cN H) with ⟨p34, e33, H⟩ | ⟨x32, e33, H⟩
     ·subst H;refine aa ?_;show AR _ _ _ _ _ [0, 1, 2] _;refine zm rfl <| zS rfl (ai (av := .pt _ _) rfl) <| ap rfl rfl (AO.callFPan (c := cX (.iface 46 (.agg #[.int .i64 p34]))) [0, 0, 0] rfl (.inr ⟨rfl, rfl, rfl⟩) rb rfl (rA F o1 x27.2.1 a3 t4 a5 x27.2.2 t30 p34 e33) rfl ?_);exact And.intro rfl (Exists.intro [] ⟨bf _, rfl, rfl⟩)
     refine aa ?_;show AR _ _ _ _ _ [0, 1, 2] _;refine zm rfl <| zS rfl (ai (av := .pt _ _) rfl) <| ap rfl rfl (AO.callFAt [0, 0, 0] rfl (.inr ⟨rfl, rfl, rfl⟩) rb rfl (sB F o1 x27.2.1 a3 t4 a5 x27.2.2 t30 x32.1 x32.2 e33) rfl (fun c A' h => by cases h.1) ?_)
     rintro av A' ⟨h, rfl⟩; cases h
     refine ah <| ax rfl (fun c35 => ?_) (fun c35 => ?_)
     ·replace H := ba c35 H;refine aP ?_;obtain rfl := am H;exact And.intro rfl (Exists.intro _ (Exists.intro _ ⟨bD rfl, aK [0, 0, 0] rfl, rfl, t4, t30, rfl⟩))
     ·replace H := bb c35 H;refine aC <| aa ?_;show AR _ _ _ _ _ [0, 1] _;refine zS rfl (bc (av' := i64 5) (cH rfl rfl (by decide)) rfl) <| zm rfl <| ah <| af <| aa ?_;show AR _ _ _ _ _ [0] _;refine zS rfl (bc (av' := B true) (bQ rfl rfl) (az (by decide))) <| ah <| af <| ax rfl (fun _ => ?_) (fun hx => bq rfl hx);refine aC <| af <| aQ <| af <| aa ?_;show AR _ _ _ _ _ [0, 1, 2] _;refine zS rfl (bm (E := kv) (m := 5) cF (by kernel_rfl) rfl rfl rfl rfl) <| zS rfl (aA dq rfl rfl) <| za rfl <| ah <| af ?_
      rcases Or.symm (cN H) with ⟨p38, e37, H⟩ | ⟨x36, e37, H⟩
      ·subst H;refine aa ?_;show AR _ _ _ _ _ [0, 1, 2] _;refine zm rfl <| zS rfl (ai (av := .pt _ _) rfl) <| ap rfl rfl (AO.callFPan (c := cX (.iface 46 (.agg #[.int .i64 p38]))) [0, 0, 0] rfl (.inr ⟨rfl, rfl, rfl⟩) ra rfl (oE F o1 x32.2 a3 t4 a5 x27.2.2 t30 p38 e37) rfl ?_);exact And.intro rfl (Exists.intro [] ⟨bf _, rfl, rfl⟩)
      refine aa ?_;show AR _ _ _ _ _ [0, 1, 2] _;refine zm rfl <| zS rfl (ai (av := .pt _ _) rfl) <| ap rfl rfl (AO.callFAt [0, 0, 0] rfl (.inr ⟨rfl, rfl, rfl⟩) ra rfl (pa F o1 x32.2 a3 t4 a5 x27.2.2 t30 x36.1 x36.2.1 x36.2.2.1 x36.2.2.2 e37) rfl (fun c A' h => by cases h.1) ?_)
      rintro av A' ⟨h, t39, t40, rfl⟩; cases h
      refine ah <| ax rfl (fun c41 => ?_) (fun c41 => ?_)
      ·replace H := ba c41 H;refine aP ?_;obtain rfl := am H;exact And.intro rfl (Exists.intro _ (Exists.intro _ ⟨bD rfl, aK [0, 0, 0] rfl, rfl, t39, t40, rfl⟩))
      ·replace H := bb c41 H;refine aC <| aa ?_;show AR _ _ _ _ _ [0, 1] _;refine zS rfl (bc (av' := i64 6) (cH rfl rfl (by decide)) rfl) <| zm rfl <| ah <| af <| aa ?_;show AR _ _ _ _ _ [0] _;refine zS rfl (bc (av' := B true) (bQ rfl rfl) (az (by decide))) <| ah <| af <| ax rfl (fun _ => ?_) (fun hx => bq rfl hx);refine aC <| af <| aQ <| af <| aa ?_;show AR _ _ _ _ _ [0, 1, 2] _;refine zS rfl (bm (E := kv) (m := 6) cF (by kernel_rfl) rfl rfl rfl rfl) <| zS rfl (aA dq rfl rfl) <| za rfl <| ah <| af ?_
       rcases Or.symm (cN H) with ⟨p44, e43, H⟩ | ⟨x42, e43, H⟩
       ·subst H;refine aa ?_;show AR _ _ _ _ _ [0, 1, 2] _;refine zm rfl <| zS rfl (ai (av := .pt _ _) rfl) <| ap rfl rfl (AO.callFPan (c := cX (.iface 46 (.agg #[.int .i64 p44]))) [0, 0, 0] rfl (.inr ⟨rfl, rfl, rfl⟩) qZ rfl (nC F o1 x36.2.1 x36.2.2.2 t39 a5 x36.2.2.1 t40 p44 e43) rfl ?_);exact And.intro rfl (Exists.intro [] ⟨bf _, rfl, rfl⟩)
       refine aa ?_;show AR _ _ _ _ _ [0, 1, 2] _;refine zm rfl <| zS rfl (ai (av := .pt _ _) rfl) <| ap rfl rfl (AO.callFAt [0, 0, 0] rfl (.inr ⟨rfl, rfl, rfl⟩) qZ rfl (oG F o1 x36.2.1 x36.2.2.2 t39 a5 x36.2.2.1 t40 x42.1 x42.2.1 x42.2.2.1 x42.2.2.2.1 x42.2.2.2.2 e43) rfl (fun c A' h => by cases h.1) ?_)
       rintro av A' ⟨h, t45, t46, rfl⟩; cases h
       refine ah <| ax rfl (fun c47 => ?_) (fun c47 => ?_)
       ·replace H := ba c47 H;refine aP ?_;obtain rfl := am H;exact And.intro rfl (Exists.intro _ (Exists.intro _ ⟨bD rfl, aK [0, 0, 0] rfl, rfl, t45, t46, rfl⟩))
       ·replace H := bb c47 H;refine aC <| aa ?_;show AR _ _ _ _ _ [0, 1] _;refine zS rfl (bc (av' := i64 7) (cH rfl rfl (by decide)) rfl) <| zm rfl <| ah <| af <| aa ?_;show AR _ _ _ _ _ [0] _;refine zS rfl (bc (av' := B false) (bQ rfl rfl) (az (by decide))) <| ah <| af <| ax rfl (fun hx => bq hx rfl) (fun _ => ?_);refine cf ?_;obtain rfl := am H;exact And.intro rfl (Exists.intro _ (Exists.intro _ ⟨bD rfl, aK [0, 0, 0] rfl, rfl, t45, t46, rfl⟩))
theorem rz (F : Nat) (o1 : Nat) (a2 : List UInt8) (a3 : List (List UInt8)) (t4 : Nat) (a5 : Int) (a6 : List (Int × (List UInt8) × (List UInt8) × List ((List UInt8) × List UInt8))) (t7 : Nat) (r8 : List UInt8) (r11 : Int) (r12 : List (Int × (List UInt8) × (List UInt8) × List ((List UInt8) × List UInt8))) (r9 : List (List UInt8)) (H : lg F a2 a3 a5 a6 = some (Res.ok (r8, r11, r12, r9))) : ACalls Tryz.prog 22 [.pt o1 0] [.obj o1 [S a2, .sk t4 a3.length, i64 a5, slE (Enc.prod Enc.int (Enc.prod Enc.str (Enc.prod Enc.str (Enc.sl (Enc.prod Enc.str Enc.str))))) a6 (some t7)], .stk t4 (Enc.str.fl a3), .tok t7 33] (fun e A' => e = .ret (.tup []) ∧ ∃ t10 t13, A' = [.obj o1 [S r8, .sk t10 r9.length, i64 r11, slE (Enc.prod Enc.int (Enc.prod Enc.str (Enc.prod Enc.str (Enc.sl (Enc.prod Enc.str Enc.str))))) r12 (some t13)], .stk t10 (Enc.str.fl r9), .tok t13 33]) := qt F o1 a2 a3 t4 a5 a6 t7 _ H
theorem pW (F : Nat) (o1 : Nat) (a2 : List UInt8) (a3 : List (List UInt8)) (t4 : Nat) (a5 : Int) (a6 : List (Int × (List UInt8) × (List UInt8) × List ((List UInt8) × List UInt8))) (t7 : Nat) (e : Int) (H : lg F a2 a3 a5 a6 = some (Res.pan e)) : ACalls Tryz.prog 22 [.pt o1 0] [.obj o1 [S a2, .sk t4 a3.length, i64 a5, slE (Enc.prod Enc.int (Enc.prod Enc.str (Enc.prod Enc.str (Enc.sl (Enc.prod Enc.str Enc.str))))) a6 (some t7)], .stk t4 (Enc.str.fl a3), .tok t7 33] (fun ae A' => ae = .pan ((fun e => cX (.iface 46 (.agg #[.int .i64 e]))) e) ∧ A' = []) := qt F o1 a2 a3 t4 a5 a6 t7 _ H
abbrev _root_.Go.Av.cP := @Tryz.underlying25
set_option maxRecDepth 100000 in
set_option maxHeartbeats 1000000 in
theorem iI (F : Nat) (a1 : List UInt8) (q2 : Option Nat) (r3 : List (Int × (List UInt8) × (List UInt8) × List ((List UInt8) × List UInt8))) (r4 : Int) (H : eM F a1 = some (r3, r4)) : ACalls Tryz.prog 10 [slE Enc.byte a1 q2] [] (Ret (.tup [slE (Enc.prod Enc.int (Enc.prod Enc.str (Enc.prod Enc.str (Enc.sl (Enc.prod Enc.str Enc.str))))) r3 none, i64 r4]) []) := by
 unfold eM at H
 refine lb [2, 3] Tryz.func10 rfl rfl ?_;show AW _ _ 38 _ _ _;refine af <| aa ?_;show AR _ _ _ _ _ [0, 1] _;refine zX rfl (dL (zs := [.slice none 0 0]) (by kernel_rfl)) ?_;rintro _ _ ⟨o5, rfl, rfl⟩;refine zX rfl (dL (zs := [.int .i64 0]) (by kernel_rfl)) ?_;rintro _ _ ⟨o6, rfl, rfl⟩;refine ah <| af <| af <| aa ?_;show AR _ _ _ _ _ [0, 1, 2] _;refine zS rfl (ai (av := slE _ _ _) rfl) <| zS rfl (aV aj rfl) <| zS rfl (fw rfl rfl) <| ah <| ax rfl (fun c7 => ?_) (fun c7 => ?_)
 ·replace H := ba c7 H;refine af <| aa ?_;show AR _ _ _ _ _ [0, 1] _;refine s0 rfl rfl (aB (i := 1) (c := .v _) (by kernel_rfl) rfl rfl rfl rfl (ag rfl)) <| s0 rfl rfl (aB (i := 0) (c := .v _) (by kernel_rfl) rfl rfl rfl rfl (ag rfl)) <| ah <| aP ?_;obtain ⟨rfl, rfl⟩ := fW H;exact Exists.intro _ (Exists.intro _ ⟨jX rfl ((CellV.one (c := .v _) 1 aw rfl rfl rfl rfl).oneW (.nil _)) (CellV.one (c := .v _) 0 cP rfl rfl rfl rfl), aK [] rfl, rfl, rfl⟩)
 ·replace H := bb c7 H;refine aC <| af <| aa ?_;show AR _ _ _ _ _ [0, 1] _;refine zS rfl (jg rfl rfl) <| ap rfl rfl (AO.defer rfl ?_);show AR _ _ _ _ _ _ ⟨_, [.call (.func 21) [.pt o5 0, .pt o6 0] []], _⟩;refine ah <| af <| aa ?_;show AR _ _ _ _ _ [0, 1, 2, 3, 4] _;refine zS rfl (ai (av := slE _ _ _) rfl) <| zS rfl (dI aj bA ac rfl) <| zS rfl (fi (zs := [.string ⟨#[]⟩, .slice none 0 0, .int .i64 0, .slice none 0 0]) (ps := [(0, 1), (1, 1), (2, 1), (3, 1)]) (cs := [S a1, ab, i64 0, ab]) (by kernel_rfl) rfl rfl) <| zX rfl (vk rfl (.inr ⟨_, rfl⟩)) ?_;rintro _ _ ⟨o8, rfl, rfl⟩;refine zS rfl (aO (av := .pt _ _) rfl) <| ah ?_
  refine AW.nil_stkAt 0 1 rfl rfl fun t9 => ?_
  show AW _ _ _ _ _ ⟨_, _, [.stk t9 (Enc.str.fl ([] : List (List UInt8))), .obj o8 [S a1, .sk t9 (([] : List (List UInt8)).length), i64 0, ab], .obj o6 [i64 0], .obj o5 [ab]]⟩
  refine jj 1 3 4 33 rfl rfl fun t10 => ?_
  show AW _ _ _ _ _ ⟨_, _, [.tok t10 33, .stk t9 (Enc.str.fl ([] : List (List UInt8))), .obj o8 [S a1, .sk t9 (([] : List (List UInt8)).length), i64 0, slE (Enc.prod Enc.int (Enc.prod Enc.str (Enc.prod Enc.str (Enc.sl (Enc.prod Enc.str Enc.str))))) [] (some t10)], .obj o6 [i64 0], .obj o5 [ab]]⟩;refine bw (X := (List UInt8) × Nat × (List (List UInt8)) × Int × (List (Int × (List UInt8) × (List UInt8) × List ((List UInt8) × List UInt8))) × Nat) (fun (y26, t27, y28, y29, y30, t31) => ⟨[(2, .pt o5 0), (3, .pt o6 0), (4, .pt o8 0)], [.call (.func 21) [.pt o5 0, .pt o6 0] []], [.obj o8 [S y26, .sk t27 y28.length, i64 y29, slE (Enc.prod Enc.int (Enc.prod Enc.str (Enc.prod Enc.str (Enc.sl (Enc.prod Enc.str Enc.str))))) y30 (some t31)], .obj o6 [i64 0], .obj o5 [ab], .stk t27 (Enc.str.fl y28), .tok t31 33]⟩) (fun (y26, t27, y28, y29, y30, t31) => gP F y26 y28 y29 y30 = some (r3, r4)) ?_ ?_
  ·refine aQ <| cJ (X := Nat × (List UInt8) × Nat × (List (List UInt8)) × Int × (List (Int × (List UInt8) × (List UInt8) × List ((List UInt8) × List UInt8))) × Nat) (fun (n18, y11, t12, y13, y14, y15, t16) => ⟨[(2, .pt o5 0), (3, .pt o6 0), (4, .pt o8 0)], [.call (.func 21) [.pt o5 0, .pt o6 0] []], [.obj o8 [S y11, .sk t12 y13.length, i64 y14, slE (Enc.prod Enc.int (Enc.prod Enc.str (Enc.prod Enc.str (Enc.sl (Enc.prod Enc.str Enc.str))))) y15 (some t16)], .obj o6 [i64 0], .obj o5 [ab], .stk t12 (Enc.str.fl y13), .tok t16 33]⟩) (fun (n18, y11, t12, y13, y14, y15, t16) => gQ F n18 (y11, y13, y14, y15) = some (r3, r4)) (fun (n18, y11, t12, y13, y14, y15, t16) => n18) (F, a1, t9, ([] : List (List UInt8)), 0, [], t10) H (aW [2, 2, 2, 1, 0] (.cons (.refl _) (.cons (.refl _) (.cons (.refl _) (.nil _)))) rfl) ?_;rintro ⟨n18, y11, t12, y13, y14, y15, t16⟩ H;obtain ⟨n18, rfl, H⟩ := dz H;replace H : gR F (gQ F n18) y11 y13 y14 y15 = some (r3, r4) := H
   unfold gR at H
   refine af <| af <| aa ?_;show AR _ _ _ _ _ [0, 1, 2, 3, 4] _;refine zS rfl (ai (av := .pt _ _) rfl) <| zS rfl (ar rfl) <| zS rfl (ak (n := 0) (by kernel_rfl) rfl) <| zR rfl (aq (i := 0) ac rfl rfl rfl rfl) <| zS rfl (nx rfl rfl) <| ah <| ax rfl (fun c19 => ?_) (fun c19 => ?_)
   ·replace H := ba c19 H;refine aC <| aQ ?_
    rcases Or.symm (bndk_s H) with ⟨p22, e21, H⟩ | ⟨x20, e21, H⟩
    ·refine aa ?_;show AR _ _ _ _ _ [0, 1] _;refine zS rfl (ai (av := .pt _ _) rfl) <| ap rfl rfl (bE (c := cX (.iface 46 (.agg #[.int .i64 p22]))) [0, 2, 2] rfl rh rfl (pW F o8 y11 y13 t12 y14 y15 t16 p22 e21) rfl ?_);refine Exists.intro [(2, .pt o5 0), (3, .pt o6 0)] ⟨by simp, .cons (.refl _) (.cons (.refl _) (.nil _)), ?_⟩;show ALeaves _ _ _ _ _ [.call (.func 21) [.pt o5 0, .pt o6 0] []] _ [.obj o6 [i64 0], .obj o5 [ab]];refine gi (v := .tup []) (u1 := (.panicking [{ v := (.iface 46 (.agg #[.int .i64 p22])), recovered := true }])) (A2 := [.obj o6 [i64 p22], .obj o5 [ab]]) [0, 0] (fun h => by cases h) nT rfl ?_ ?_
     ·show ADCalls _ _ [.pt o5 0, .pt o6 0] [.obj o6 [i64 0], .obj o5 [ab]] _ _;refine gp (av := .ifc 46 (.agg [i64 p22])) (l := [1]) Tryz.func21 rfl rfl rfl rfl rfl Recovers.pan rfl (fun cs => ?_);refine ASR.op rfl rfl ((aO (av := .ifc _ _) rfl).opR _) <| ASR.nil <| af <| aa ?_;show AR _ _ _ _ _ [0, 1] _;refine zS rfl (ai (av := .ifc _ _) rfl) <| zS rfl (om (ms := []) (.inr rfl) Tryz.underlying20 rfl rfl) <| ah <| ax rfl (fun _ => ?_) (fun hx => bq rfl hx);refine af <| aa ?_;show AR _ _ _ _ _ [0, 1, 2, 3, 4, 5, 6, 7] _;refine zS rfl (ai (av := .ifc _ _) rfl) <| zS rfl (kZ Tryz.underlying46 rfl rfl) <| zS rfl (ai (av := .tup _) rfl) <| zS rfl (aM (av := .agg _) rfl rfl) <| zS rfl (aM (av := .v _) rfl rfl) <| zX rfl (dL (zs := [.int .i64 0]) (by kernel_rfl)) ?_;rintro _ _ ⟨o23, rfl, rfl⟩;refine s0 rfl rfl (cK (i := 0) (vs := [i64 p22]) (by kernel_rfl) rfl rfl (by simp [co, slE]) rfl (ag rfl)) <| za rfl <| ah <| af <| af <| aa ?_;show AR _ _ _ _ _ [0, 1] _;refine zm rfl <| zS rfl (cd rfl) <| ah <| ax rfl (fun hx => bq hx rfl) (fun _ => ?_);refine aC <| bI (by kernel_rfl) ?_;show AI _ _ _ _ _ 4 (Array.replicate 4 false) _;refine zk 0 rfl (ak (n := 0) (by kernel_rfl) rfl) ?_;show AI _ _ _ _ _ _ #[true, false, false, false] _;refine AI.two (i := 1) (j := 2) (by kernel_rfl) rfl rfl rfl rfl ?_ ?_
      ·refine bp rfl (aq (i := 0) cP rfl rfl rfl rfl) ?_;show AI _ _ _ _ _ _ #[true, true, false, false] _;refine bP (i := 2) (by kernel_rfl) rfl rfl <| AIO.op0 (aB (i := 2) (c := .v _) (by kernel_rfl) rfl rfl rfl rfl (ag rfl)) ?_;show AI _ _ _ _ _ _ #[true, true, true, false] _;refine bP (i := 3) (by kernel_rfl) rfl rfl <| AIO.op0 (aB (i := 1) (c := .v _) (by kernel_rfl) rfl rfl rfl rfl (ag rfl)) ?_;show AI _ _ _ _ _ _ #[true, true, true, true] _;refine cx rfl ?_;exact And.intro rfl (Exists.intro _ (Exists.intro _ ⟨bD rfl, aK [1, 1] rfl, rfl, rfl, rfl⟩))
      ·refine AIO.op0 (aB (i := 2) (c := .v _) (by kernel_rfl) rfl rfl rfl rfl (ag rfl)) ?_;show AI _ _ _ _ _ _ #[true, false, true, false] _;refine bP (i := 1) (by kernel_rfl) rfl rfl <| bp rfl (aq (i := 0) cP rfl rfl rfl rfl) ?_;show AI _ _ _ _ _ _ #[true, true, true, false] _;refine bP (i := 3) (by kernel_rfl) rfl rfl <| AIO.op0 (aB (i := 1) (c := .v _) (by kernel_rfl) rfl rfl rfl rfl (ag rfl)) ?_;show AI _ _ _ _ _ _ #[true, true, true, true] _;refine cx rfl ?_;exact And.intro rfl (Exists.intro _ (Exists.intro _ ⟨bD rfl, aK [1, 1] rfl, rfl, rfl, rfl⟩))
     show ALeaves _ _ _ _ _ [] .returning [.obj o6 [i64 p22], .obj o5 [ab]];obtain ⟨rfl, rfl⟩ := fW H;exact Exists.intro _ (Exists.intro _ ⟨jX rfl ((CellV.one (c := .v _) 1 aw rfl rfl rfl rfl).oneW (.nil _)) (CellV.one (c := .v _) 0 cP rfl rfl rfl rfl), aK [] rfl, rfl, rfl⟩)
    refine aa ?_;show AR _ _ _ _ _ [0, 1] _;refine zS rfl (ai (av := .pt _ _) rfl) <| ap rfl rfl (be [0, 2, 2] rfl rh rfl (rz F o8 y11 y13 t12 y14 y15 t16 x20.1 x20.2.1 x20.2.2.1 x20.2.2.2 e21) rfl (fun c A' h => by cases h.1) ?_)
    rintro av A' ⟨h, t24, t25, rfl⟩; cases h
    refine ah ?_;exact Exists.intro (n18, x20.1, t24, x20.2.2.2, x20.2.1, x20.2.2.1, t25) ⟨H, Nat.lt_succ_self _, aW [0, 2, 2, 0, 0] (.cons (.refl _) (.cons (.refl _) (.cons (.refl _) (.nil _)))) rfl⟩
   ·replace H := bb c19 H;refine cf ?_;exact Exists.intro (y11, t12, y13, y14, y15, t16) ⟨H, aW [0, 0, 0, 0, 0] (.cons (.refl _) (.cons (.refl _) (.cons (.refl _) (.nil _)))) rfl⟩
  rintro ⟨y26, t27, y28, y29, y30, t31⟩ H;replace H : gP F y26 y28 y29 y30 = some (r3, r4) := H
  unfold gP at H
  refine af ?_
  rcases Or.symm (bndk_s H) with ⟨p36, e35, H⟩ | ⟨x34, e35, H⟩
  ·refine aa ?_;show AR _ _ _ _ _ [0, 1, 2, 3, 4, 5, 6, 7, 8, 9, 10, 11, 12, 13] _;refine zS rfl (ai (av := .pt _ _) rfl) <| zS rfl (ar rfl) <| zS rfl (ak (n := 1) (by kernel_rfl) rfl) <| zR rfl (aq (i := 0) al rfl rfl rfl rfl) <| zS rfl (fI al rfl) <| zS rfl (bR rfl rfl) <| zm rfl <| bi (l := [13]) 32 (B ((decide ((y28.length : Int) = 0)) && (decide (0 < y29)))) (fun K => ?_) ?_
   ·rcases ao (decide ((y28.length : Int) = 0)) with h33 | h33
    ·refine zU h33 rfl (ai (av := .pt _ _) rfl) <| zU h33 rfl (ar rfl) <| zU h33 rfl (ak (n := 2) (by kernel_rfl) rfl) <| zT h33 rfl (ci rfl rfl (aq (i := 0) bO rfl rfl rfl rfl) ?_);refine zU h33 rfl (fw rfl rfl) <| zS rfl (aL (av := .v _) rfl h33 rfl) ?_;exact K _ 5 _ (az (cQ h33)) rfl rfl
    ·refine zF h33 rfl <| zF h33 rfl <| zF h33 rfl <| zF h33 rfl <| zF h33 rfl <| zS rfl (aJ (av := .v _) rfl h33 rfl) ?_;exact K _ 5 _ (az (cR h33)) rfl rfl
   refine ap rfl rfl (bE (c := cX (.iface 46 (.agg #[.int .i64 p36]))) [] rfl bS rfl (bV F ((decide ((y28.length : Int) = 0)) && (decide (0 < y29))) p36 e35) rfl ?_);refine Exists.intro [(2, .pt o5 0), (3, .pt o6 0)] ⟨by simp, .cons (.refl _) (.cons (.refl _) (.nil _)), ?_⟩;show ALeaves _ _ _ _ _ [.call (.func 21) [.pt o5 0, .pt o6 0] []] _ [.obj o8 [S y26, .sk t27 y28.length, i64 y29, slE (Enc.prod Enc.int (Enc.prod Enc.str (Enc.prod Enc.str (Enc.sl (Enc.prod Enc.str Enc.str))))) y30 (some t31)], .obj o6 [i64 0], .obj o5 [ab], .stk t27 (Enc.str.fl y28), .tok t31 33];refine gi (v := .tup []) (u1 := (.panicking [{ v := (.iface 46 (.agg #[.int .i64 p36])), recovered := true }])) (A2 := [.obj o6 [i64 p36], .obj o5 [ab]]) [1, 1] (fun h => by cases h) nT rfl ?_ ?_
   ·show ADCalls _ _ [.pt o5 0, .pt o6 0] [.obj o6 [i64 0], .obj o5 [ab]] _ _;refine gp (av := .ifc 46 (.agg [i64 p36])) (l := [1]) Tryz.func21 rfl rfl rfl rfl rfl Recovers.pan rfl (fun cs => ?_);refine ASR.op rfl rfl ((aO (av := .ifc _ _) rfl).opR _) <| ASR.nil <| af <| aa ?_;show AR _ _ _ _ _ [0, 1] _;refine zS rfl (ai (av := .ifc _ _) rfl) <| zS rfl (om (ms := []) (.inr rfl) Tryz.underlying20 rfl rfl) <| ah <| ax rfl (fun _ => ?_) (fun hx => bq rfl hx);refine af <| aa ?_;show AR _ _ _ _ _ [0, 1, 2, 3, 4, 5, 6, 7] _;refine zS rfl (ai (av := .ifc _ _) rfl) <| zS rfl (kZ Tryz.underlying46 rfl rfl) <| zS rfl (ai (av := .tup _) rfl) <| zS rfl (aM (av := .agg _) rfl rfl) <| zS rfl (aM (av := .v _) rfl rfl) <| zX rfl (dL (zs := [.int .i64 0]) (by kernel_rfl)) ?_;rintro _ _ ⟨o37, rfl, rfl⟩;refine s0 rfl rfl (cK (i := 0) (vs := [i64 p36]) (by kernel_rfl) rfl rfl (by simp [co, slE]) rfl (ag rfl)) <| za rfl <| ah <| af <| af <| aa ?_;show AR _ _ _ _ _ [0, 1] _;refine zm rfl <| zS rfl (cd rfl) <| ah <| ax rfl (fun hx => bq hx rfl) (fun _ => ?_);refine aC <| bI (by kernel_rfl) ?_;show AI _ _ _ _ _ 4 (Array.replicate 4 false) _;refine zk 0 rfl (ak (n := 0) (by kernel_rfl) rfl) ?_;show AI _ _ _ _ _ _ #[true, false, false, false] _;refine AI.two (i := 1) (j := 2) (by kernel_rfl) rfl rfl rfl rfl ?_ ?_
    ·refine bp rfl (aq (i := 0) cP rfl rfl rfl rfl) ?_;show AI _ _ _ _ _ _ #[true, true, false, false] _;refine bP (i := 2) (by kernel_rfl) rfl rfl <| AIO.op0 (aB (i := 2) (c := .v _) (by kernel_rfl) rfl rfl rfl rfl (ag rfl)) ?_;show AI _ _ _ _ _ _ #[true, true, true, false] _;refine bP (i := 3) (by kernel_rfl) rfl rfl <| AIO.op0 (aB (i := 1) (c := .v _) (by kernel_rfl) rfl rfl rfl rfl (ag rfl)) ?_;show AI _ _ _ _ _ _ #[true, true, true, true] _;refine cx rfl ?_;exact And.intro rfl (Exists.intro _ (Exists.intro _ ⟨bD rfl, aK [1, 1] rfl, rfl, rfl, rfl⟩))
    ·refine AIO.op0 (aB (i := 2) (c := .v _) (by kernel_rfl) rfl rfl rfl rfl (ag rfl)) ?_;show AI _ _ _ _ _ _ #[true, false, true, false] _;refine bP (i := 1) (by kernel_rfl) rfl rfl <| bp rfl (aq (i := 0) cP rfl rfl rfl rfl) ?_;show AI _ _ _ _ _ _ #[true, true, true, false] _;refine bP (i := 3) (by kernel_rfl) rfl rfl <| AIO.op0 (aB (i := 1) (c := .v _) (by kernel_rfl) rfl rfl rfl rfl (ag rfl)) ?_;show AI _ _ _ _ _ _ #[true, true, true, true] _;refine cx rfl ?_;exact And.intro rfl (Exists.intro _ (Exists.intro _ ⟨bD rfl, aK [1, 1] rfl, rfl, rfl, rfl⟩))
   show ALeaves _ _ _ _ _ [] .returning [.obj o6 [i64 p36], .obj o5 [ab], .obj o8 [S y26, .sk t27 y28.length, i64 y29, slE (Enc.prod Enc.int (Enc.prod Enc.str (Enc.prod Enc.str (Enc.sl (Enc.prod Enc.str Enc.str))))) y30 (some t31)], .stk t27 (Enc.str.fl y28), .tok t31 33];obtain ⟨rfl, rfl⟩ := fW H;exact Exists.intro _ (Exists.intro _ ⟨jX rfl ((CellV.one (c := .v _) 1 aw rfl rfl rfl rfl).oneW (.nil _)) (CellV.one (c := .v _) 0 cP rfl rfl rfl rfl), aK [] rfl, rfl, rfl⟩)
  refine aa ?_;show AR _ _ _ _ _ [0, 1, 2, 3, 4, 5, 6, 7, 8, 9, 10, 11, 12, 13] _;refine zS rfl (ai (av := .pt _ _) rfl) <| zS rfl (ar rfl) <| zS rfl (ak (n := 1) (by kernel_rfl) rfl) <| zR rfl (aq (i := 0) al rfl rfl rfl rfl) <| zS rfl (fI al rfl) <| zS rfl (bR rfl rfl) <| zm rfl <| bi (l := [13]) 32 (B ((decide ((y28.length : Int) = 0)) && (decide (0 < y29)))) (fun K => ?_) ?_
  ·rcases ao (decide ((y28.length : Int) = 0)) with h33 | h33
   ·refine zU h33 rfl (ai (av := .pt _ _) rfl) <| zU h33 rfl (ar rfl) <| zU h33 rfl (ak (n := 2) (by kernel_rfl) rfl) <| zT h33 rfl (ci rfl rfl (aq (i := 0) bO rfl rfl rfl rfl) ?_);refine zU h33 rfl (fw rfl rfl) <| zS rfl (aL (av := .v _) rfl h33 rfl) ?_;exact K _ 5 _ (az (cQ h33)) rfl rfl
   ·refine zF h33 rfl <| zF h33 rfl <| zF h33 rfl <| zF h33 rfl <| zF h33 rfl <| zS rfl (aJ (av := .v _) rfl h33 rfl) ?_;exact K _ 5 _ (az (cR h33)) rfl rfl
  refine ap rfl rfl (aI rfl bS rfl (cc F ((decide ((y28.length : Int) = 0)) && (decide (0 < y29))) e35) ?_);refine ah <| af <| aa ?_;show AR _ _ _ _ _ [0, 1, 2, 3, 4, 5] _;refine zS rfl (ai (av := .pt _ _) rfl) <| zS rfl (ar rfl) <| zS rfl (ak (n := 3) (by kernel_rfl) rfl) <| zR rfl (aq (i := 0) aw rfl rfl rfl rfl) <| s0 rfl rfl (aB (i := 2) (c := slE _ _ _) (by kernel_rfl) rfl rfl rfl rfl (ag rfl)) <| s0 rfl rfl (aB (i := 1) (c := .v _) (by kernel_rfl) rfl rfl rfl rfl (ag rfl)) <| ah <| aP ?_;show ALeaves _ _ _ _ _ [.call (.func 21) [.pt o5 0, .pt o6 0] []] _ [.obj o8 [S y26, .sk t27 y28.length, i64 y29, slE (Enc.prod Enc.int (Enc.prod Enc.str (Enc.prod Enc.str (Enc.sl (Enc.prod Enc.str Enc.str))))) y30 (some t31)], .obj o6 [i64 0], .obj o5 [slE (Enc.prod Enc.int (Enc.prod Enc.str (Enc.prod Enc.str (Enc.sl (Enc.prod Enc.str Enc.str))))) y30 (some t31)], .stk t27 (Enc.str.fl y28), .tok t31 33];refine gi (v := .tup []) (u1 := .returning) (A2 := [.obj o6 [i64 0], .obj o5 [slE (Enc.prod Enc.int (Enc.prod Enc.str (Enc.prod Enc.str (Enc.sl (Enc.prod Enc.str Enc.str))))) y30 (some t31)]]) [1, 1] (fun h => by cases h) nT rfl ?_ ?_
  ·show ADCalls _ _ [.pt o5 0, .pt o6 0] [.obj o6 [i64 0], .obj o5 [slE (Enc.prod Enc.int (Enc.prod Enc.str (Enc.prod Enc.str (Enc.sl (Enc.prod Enc.str Enc.str))))) y30 (some t31)]] _ _;refine gp (av := .v .nilIface) (l := [1]) Tryz.func21 rfl rfl rfl rfl rfl Recovers.ret rfl (fun cs => ?_);refine ASR.op rfl rfl ((asg rfl).opR _) <| ASR.nil <| af <| aa ?_;show AR _ _ _ _ _ [0, 1] _;refine zm rfl <| zS rfl (mH (n := 0) (t := 0) (k := .i64) Tryz.underlying20 rfl rfl) <| ah <| ax rfl (fun hx => bq hx rfl) (fun _ => ?_);refine aC ?_;exact And.intro rfl (Exists.intro _ (Exists.intro _ ⟨bD rfl, aK [0, 0] rfl, rfl, rfl, rfl⟩))
  show ALeaves _ _ _ _ _ [] .returning [.obj o6 [i64 0], .obj o5 [slE (Enc.prod Enc.int (Enc.prod Enc.str (Enc.prod Enc.str (Enc.sl (Enc.prod Enc.str Enc.str))))) y30 (some t31)], .obj o8 [S y26, .sk t27 y28.length, i64 y29, slE (Enc.prod Enc.int (Enc.prod Enc.str (Enc.prod Enc.str (Enc.sl (Enc.prod Enc.str Enc.str))))) y30 (some t31)], .stk t27 (Enc.str.fl y28), .tok t31 33];obtain ⟨rfl, rfl⟩ := fW H;exact Exists.intro _ (Exists.intro _ ⟨jX rfl ((CellV.one (c := slE _ _ _) 1 aw rfl rfl rfl rfl).oneW (.tok _ _ _)) (CellV.one (c := .v _) 0 cP rfl rfl rfl rfl), aK [] rfl, rfl, rfl⟩)
end Go.Proofs.YteokdkimegepoaaGreatDoor
namespace Go.Pv
def jH : Option Bool :=
some true
def iH (a1 : List ((List UInt8) × List UInt8)) (a3 : List ((List UInt8) × List UInt8)) (rec8 : Int → Option Bool) (y7 : Int) : Option Bool :=
bif decide (y7 < (a1.length : Int)) then
  grd (ce y7 a1.length) <|
  lt (at_ a1 y7) fun x12 =>
  grd (ce y7 a3.length) <|
  lt (at_ a3 y7) fun x15 =>
  bif !((decide (x12.1 = x15.1)) && (decide (x12.2 = x15.2))) then
    some false
  else
    grd (okI (y7 + 1)) <|
    rec8 (y7 + 1)
else
  jH
def iG (a1 : List ((List UInt8) × List UInt8)) (a3 : List ((List UInt8) × List UInt8)) (n : Nat) : Int → Option Bool :=
  loop (fun rec x => iH a1 a3 rec x) n
def lF (F : Nat) (a1 : List ((List UInt8) × List UInt8)) (a3 : List ((List UInt8) × List UInt8)) : Option Bool :=
bif !decide ((a1.length : Int) = (a3.length : Int)) then
  some false
else
  iG a1 a3 F 0
def ng (F : Nat) (a1 : Int) (a2 : List UInt8) (a3 : List UInt8) (a4 : List ((List UInt8) × List UInt8)) (a5 : Int) (a6 : List UInt8) (a7 : List UInt8) (a8 : List ((List UInt8) × List UInt8)) : Option Bool :=
jE (((decide (a1 = a5)) && (decide (a2 = a6))) && (decide (a3 = a7))) (lF F a4 a8) fun x13 =>
some ((((decide (a1 = a5)) && (decide (a2 = a6))) && (decide (a3 = a7))) && x13)
def gk : Option Bool :=
some true
def ff (F : Nat) (a1 : List (Int × (List UInt8) × (List UInt8) × List ((List UInt8) × List UInt8))) (a3 : List (Int × (List UInt8) × (List UInt8) × List ((List UInt8) × List UInt8))) (rec8 : Int → Option Bool) (y7 : Int) : Option Bool :=
bif decide (y7 < (a1.length : Int)) then
  grd (ce y7 a1.length) <|
  lt (at_ a1 y7) fun x12 =>
  grd (ce y7 a3.length) <|
  lt (at_ a3 y7) fun x16 =>
  bnd (ng F x12.1 x12.2.1 x12.2.2.1 x12.2.2.2 x16.1 x16.2.1 x16.2.2.1 x16.2.2.2) fun x19 =>
  bif !x19 then
    some false
  else
    grd (okI (y7 + 1)) <|
    rec8 (y7 + 1)
else
  gk
def dX (F : Nat) (a1 : List (Int × (List UInt8) × (List UInt8) × List ((List UInt8) × List UInt8))) (a3 : List (Int × (List UInt8) × (List UInt8) × List ((List UInt8) × List UInt8))) (n : Nat) : Int → Option Bool :=
  loop (fun rec x => ff F a1 a3 rec x) n
def jd (F : Nat) (a1 : List (Int × (List UInt8) × (List UInt8) × List ((List UInt8) × List UInt8))) (a3 : List (Int × (List UInt8) × (List UInt8) × List ((List UInt8) × List UInt8))) : Option Bool :=
bif !decide ((a1.length : Int) = (a3.length : Int)) then
  some false
else
  dX F a1 a3 F 0
def ko (F : Nat) (a1 : List (Int × (List UInt8) × (List UInt8) × List ((List UInt8) × List UInt8))) (a3 : List (Int × (List UInt8) × (List UInt8) × List ((List UInt8) × List UInt8))) : Option Bool :=
bnd (jd F a1 a3) fun x6 =>
some x6
def im : Option Int :=
some (-1)
def ka (a1 : List UInt8) (a2 : UInt8) (rec6 : Int → Option Int) (y5 : Int) : Option Int :=
bif decide (0 ≤ y5) then
  grd (ce y5 a1.length) <|
  lt (at_ a1 y5) fun x10 =>
  bif decide (x10 = a2) then
    some y5
  else
    grd (okI (y5 - 1)) <|
    rec6 (y5 - 1)
else
  im
def jZ (a1 : List UInt8) (a2 : UInt8) (n : Nat) : Int → Option Int :=
  loop (fun rec x => ka a1 a2 rec x) n
def my (F : Nat) (a1 : List UInt8) (a2 : UInt8) : Option Int :=
grd (okI ((a1.length : Int) - 1)) <|
jZ a1 a2 F ((a1.length : Int) - 1)
def hN (F : Nat) (a1 : List UInt8) (a2 : UInt8) : Option Int :=
bnd (my F a1 a2) fun x4 =>
some x4
def pB (F : Nat) (a1 : List UInt8) : Option ((List UInt8)) :=
bnd (hN F a1 58) fun x3 =>
grd (okI (x3 + 1)) <|
grd (kA (x3 + 1) a1.length) <|
lt (dk a1 (x3 + 1)) fun x7 =>
some x7
end Go.Pv
