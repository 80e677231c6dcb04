/-
  Texts in one (only what ClientModel needs): NumW, RepAP, RepAW, DotP, AvCn, DotW, CliAP.
-/
import Derived.Test.YtgjkjkmmgdbcoaaGreatDoorZClientModel2
import Derived.Test.YtgjkjkmmgdbcoaaGreatDoorShelf
import Derived.Lib.ItoaNum
import Derived.Lib.IndexLaws
import Derived.Test.YtgjkjkmmgdbcoaaGreatDoorChecked
import Derived.Shelf.Bytes.SlCountOne
set_option linter.unusedVariables false
set_option linter.unusedSimpArgs false
namespace Go.Proofs.YtgjkjkmmgdbcoaaGreatDoor
open Go.RowKit Go.Av Go.Pv
theorem en70_num : ∀ (args : Array Value) (w : World), (callFunc 70 args).run Tryz.prog w = .ok (.enter 70 args) w := fun _ _ => by kernel_rfl
theorem en71_num : ∀ (args : Array Value) (w : World), (callFunc 71 args).run Tryz.prog w = .ok (.enter 71 args) w := fun _ _ => by kernel_rfl
theorem rC : ∀ (args : Array Value) (w : World), (callFunc 100 args).run Tryz.prog w = .ok (.enter 100 args) w := fun _ _ => by kernel_rfl
theorem rB : ∀ (args : Array Value) (w : World), (callFunc 120 args).run Tryz.prog w = .ok (.enter 120 args) w := fun _ _ => by kernel_rfl
theorem eX : ∀ (args : Array Value) (w : World), (callFunc 130 args).run Tryz.prog w = .ok (.enter 130 args) w := fun _ _ => by kernel_rfl
theorem rz : ∀ (args : Array Value) (w : World), (callFunc 131 args).run Tryz.prog w = .ok (.enter 131 args) w := fun _ _ => by kernel_rfl
set_option maxRecDepth 100000 in
set_option maxHeartbeats 1000000 in
theorem ef (F : Nat) (a1 : UInt8) (r2 : UInt8) (H : eA F a1 = some r2) : ACalls Tryz.prog 130 [u8 a1] [] (Ret (u8 r2) []) := by
 unfold eA at H
 refine aA Tryz.func130 rfl rfl ?_;show AW _ _ 5 _ _ _;refine aj <| ac ?_;show AR _ _ _ _ _ [0] _;refine za rfl <| ak <| aj <| ac ?_;show AR _ _ _ _ _ [0, 1, 2] _;refine zm rfl <| zS rfl (g_or8 (a := a1) (b := 32) rfl rfl) <| za rfl <| ak <| aR ?_;obtain rfl := aC H;exact And.intro rfl (Exists.intro _ (Exists.intro _ ⟨aV rfl (.refl _), aL [] rfl, rfl, rfl⟩))
abbrev _root_.Go.Av.af := @Bool.eq_false_or_eq_true
set_option maxRecDepth 100000 in
set_option maxHeartbeats 1000000 in
theorem ki (F : Nat) (a1 : List UInt8) (r2 : Bool) (H : gw F a1 = some r2) : ACalls Tryz.prog 131 [S a1] [] (Ret (B r2) []) := by
 unfold gw at H
 refine aA Tryz.func131 rfl rfl ?_;show AW _ _ 94 _ _ _;refine aj <| ac ?_;show AR _ _ _ _ _ [0] _;refine za rfl <| ak <| aj <| ac ?_;show AR _ _ _ _ _ [0] _;refine za rfl <| ak <| aj <| ac ?_;show AR _ _ _ _ _ [0] _;refine za rfl <| ak <| bX (X := (List UInt8)) (fun y15 => ⟨[(0, S y15), (3, .v (.int .i32 94)), (4, i64 0)], [], []⟩) (fun y15 => dq F y15 = some r2) ?_ ?_
 ·refine aj ?_;obtain ⟨g4, H⟩ := cE H;obtain ⟨x5, e6, H⟩ := cc H;obtain ⟨g8, H⟩ := cE H;obtain ⟨x9, e10, H⟩ := cc H;refine ac ?_;show AR _ _ _ _ _ [0, 1, 2, 3, 4, 5, 6, 7, 8, 9, 10, 11, 12] _;refine zm rfl <| zS rfl (bx al rfl) <| zS rfl (ff rfl rfl) <| zm rfl <| aN (l := []) 18 (B ((decide (1 ≤ (a1.length : Int))) && ((decide (x5 = 45)) || (decide (x9 = 43))))) (fun K => ?_) ?_
  ·rcases af (decide (1 ≤ (a1.length : Int))) with h3 | h3
   ·refine zM h3 rfl <| zU h3 rfl (bC al rfl rfl (g4 h3) e6) <| zU h3 rfl (eo (a := x5) (b := 45) rfl rfl) <| zM h3 rfl <| aN (l := [12]) 17 (B ((decide (x5 = 45)) || (decide (x9 = 43)))) (fun K => ?_) ?_
    ·rcases af (decide (x5 = 45)) with h7 | h7
     ·refine zF h7 rfl <| zF h7 rfl <| zF h7 rfl <| zU h3 rfl (ax (av := .v _) rfl h7 rfl) ?_;exact K _ 3 _ (ap (fT h7)) rfl rfl
     ·refine zM h7 rfl <| zU h7 rfl (bC al rfl rfl (g8 (dN h3 (nf h7))) e10) <| zU h7 rfl (eo (a := x9) (b := 43) rfl rfl) <| zU h3 rfl (aw (av := .v _) rfl h7 rfl) ?_;exact K _ 3 _ (ap (fU h7)) rfl rfl
    refine zS rfl (ax (av := .v _) rfl h3 rfl) ?_;exact K _ 5 _ (ap (bZ h3)) rfl rfl
   ·refine zF h3 rfl <| zF h3 rfl <| zF h3 rfl <| zF h3 rfl <| gU rfl rfl rfl rfl rfl <| gU rfl rfl rfl rfl rfl <| gU rfl rfl rfl rfl rfl <| zF h3 rfl <| zS rfl (aw (av := .v _) rfl h3 rfl) ?_;exact K _ 8 _ (ap (ca h3)) rfl rfl
  refine ak <| aG rfl (fun c11 => ?_) (fun c11 => ?_)
  ·replace H := bk c11 H;obtain ⟨g12, H⟩ := aX H;obtain ⟨x13, e14, H⟩ := cc H;refine ac ?_;show AR _ _ _ _ _ [0, 1, 2] _;refine zm rfl <| zS rfl (fW al rfl rfl g12 e14) <| za rfl <| ak ?_;exact Exists.intro x13 ⟨H, aY [] (.cons (.refl _) (.cons (.refl _) (.cons (.refl _) (.nil _)))) rfl⟩
  ·replace H := bb c11 H;refine aM ?_;exact Exists.intro a1 ⟨H, aY [] (.cons (.refl _) (.cons (.refl _) (.cons (.refl _) (.nil _)))) rfl⟩
 rintro y15 H;replace H : dq F y15 = some r2 := H
 unfold dq at H
 refine aj <| ac ?_;show AR _ _ _ _ _ [0] _;refine za rfl <| ak <| bX (X := Int × Int × Bool) (fun (y45, y46, y47) => ⟨[(0, S y15), (3, .v (.int .i32 y45)), (4, i64 y46), (5, B y47)], [], []⟩) (fun (y45, y46, y47) => dr F y15 y45 y46 y47 = some r2) ?_ ?_
 ·refine aj ?_;obtain ⟨g18, H⟩ := cE H;obtain ⟨x19, e20, H⟩ := cc H;obtain ⟨g22, H⟩ := cE H;obtain ⟨x23, e24, H⟩ := cc H;obtain ⟨x25, e26, H⟩ := fE H;obtain ⟨g28, H⟩ := cE H;obtain ⟨x29, e30, H⟩ := cc H;obtain ⟨x31, e32, H⟩ := fE H;obtain ⟨g34, H⟩ := cE H;obtain ⟨x35, e36, H⟩ := cc H;obtain ⟨x37, e38, H⟩ := fE H;refine ac ?_;show AR _ _ _ _ _ [0, 1, 2, 3, 4, 5, 6, 7, 8, 9, 10, 11, 12, 13, 14, 15, 16, 17, 18, 19, 20, 21, 22, 23, 24, 25] _;refine zm rfl <| zS rfl (bx al rfl) <| zS rfl (ff rfl rfl) <| zm rfl <| aN (l := [8, 9, 10, 11, 12, 13, 14, 15, 16, 17, 18, 19, 20, 21, 22, 23, 24, 25]) 28 (B ((decide (2 ≤ (y15.length : Int))) && (decide (x19 = 48)))) (fun K => ?_) ?_
  ·rcases af (decide (2 ≤ (y15.length : Int))) with h17 | h17
   ·refine zM h17 rfl <| zU h17 rfl (bC al rfl rfl (g18 h17) e20) <| zU h17 rfl (eo (a := x19) (b := 48) rfl rfl) <| zS rfl (ax (av := .v _) rfl h17 rfl) ?_;exact K _ 3 _ (ap (bZ h17)) rfl rfl
   ·refine zF h17 rfl <| zF h17 rfl <| zF h17 rfl <| zS rfl (aw (av := .v _) rfl h17 rfl) ?_;exact K _ 3 _ (ap (ca h17)) rfl rfl
  refine zm rfl <| aN (l := []) 46 (B (((decide (2 ≤ (y15.length : Int))) && (decide (x19 = 48))) && (((decide (x25 = 98)) || (decide (x31 = 111))) || (decide (x37 = 120))))) (fun K => ?_) ?_
  ·rcases af ((decide (2 ≤ (y15.length : Int))) && (decide (x19 = 48))) with h21 | h21
   ·refine zM h21 rfl <| zU h21 rfl (bC al rfl rfl (g22 h21) e24) <| zT h21 rfl (aQ rfl eX rfl (ef F x23 x25 (e26 h21)) ?_);refine zU h21 rfl (eo (a := x25) (b := 98) rfl rfl) <| zM h21 rfl <| aN (l := [19, 20, 21, 22, 23, 24, 25]) 39 (B ((decide (x25 = 98)) || (decide (x31 = 111)))) (fun K => ?_) ?_
    ·rcases af (decide (x25 = 98)) with h27 | h27
     ·refine zF h27 rfl <| zF h27 rfl <| zF h27 rfl <| zF h27 rfl <| zU h21 rfl (ax (av := .v _) rfl h27 rfl) ?_;exact K _ 4 _ (ap (fT h27)) rfl rfl
     ·refine zM h27 rfl <| zU h27 rfl (bC al rfl rfl (g28 (dN h21 (nf h27))) e30) <| zT h27 rfl (aQ rfl eX rfl (ef F x29 x31 (e32 (dN h21 (nf h27)))) ?_);refine zU h27 rfl (eo (a := x31) (b := 111) rfl rfl) <| zU h21 rfl (aw (av := .v _) rfl h27 rfl) ?_;exact K _ 4 _ (ap (fU h27)) rfl rfl
    refine zM h21 rfl <| aN (l := [25]) 45 (B (((decide (x25 = 98)) || (decide (x31 = 111))) || (decide (x37 = 120)))) (fun K => ?_) ?_
    ·rcases af ((decide (x25 = 98)) || (decide (x31 = 111))) with h33 | h33
     ·refine zF h33 rfl <| zF h33 rfl <| zF h33 rfl <| zF h33 rfl <| zU h21 rfl (ax (av := .v _) rfl h33 rfl) ?_;exact K _ 4 _ (ap (fT h33)) rfl rfl
     ·refine zM h33 rfl <| zU h33 rfl (bC al rfl rfl (g34 (dN h21 (nf h33))) e36) <| zT h33 rfl (aQ rfl eX rfl (ef F x35 x37 (e38 (dN h21 (nf h33)))) ?_);refine zU h33 rfl (eo (a := x37) (b := 120) rfl rfl) <| zU h21 rfl (aw (av := .v _) rfl h33 rfl) ?_;exact K _ 4 _ (ap (fU h33)) rfl rfl
    refine zS rfl (ax (av := .v _) rfl h21 rfl) ?_;exact K _ 8 _ (ap (bZ h21)) rfl rfl
   ·refine zF h21 rfl <| zF h21 rfl <| zF h21 rfl <| zF h21 rfl <| zF h21 rfl <| gU rfl rfl rfl rfl rfl <| gU rfl rfl rfl rfl rfl <| gU rfl rfl rfl rfl rfl <| gU rfl rfl rfl rfl rfl <| zF h21 rfl <| zF h21 rfl <| gU rfl rfl rfl rfl rfl <| gU rfl rfl rfl rfl rfl <| gU rfl rfl rfl rfl rfl <| gU rfl rfl rfl rfl rfl <| zF h21 rfl <| zS rfl (aw (av := .v _) rfl h21 rfl) ?_;exact K _ 16 _ (ap (ca h21)) rfl rfl
  refine ak <| aG rfl (fun c39 => ?_) (fun c39 => ?_)
  ·replace H := bk c39 H;refine aj <| ac ?_;show AR _ _ _ _ _ [0] _;refine za rfl <| ak <| aj <| ac ?_;show AR _ _ _ _ _ [0] _;refine za rfl <| ak ?_;obtain ⟨g40, H⟩ := aX H;obtain ⟨x41, e42, H⟩ := cc H;obtain ⟨x43, e44, H⟩ := dG H;refine ac ?_;show AR _ _ _ _ _ [0, 1, 2, 3, 4] _;refine zm rfl <| zS rfl (bC al rfl rfl g40 e42) <| ao rfl rfl (aQ rfl eX rfl (ef F x41 x43 e44) ?_);refine zS rfl (eo (a := x43) (b := 120) rfl rfl) <| za rfl <| ak ?_;exact Exists.intro (48, 2, decide (x43 = 120)) ⟨H, aY [] (.cons (.refl _) (.cons (.refl _) (.cons (.refl _) (.cons (.refl _) (.nil _))))) rfl⟩
  ·replace H := bb c39 H;refine aM ?_;exact Exists.intro (94, 0, false) ⟨H, aY [] (.cons (.refl _) (.cons (.refl _) (.cons (.refl _) (.cons (.refl _) (.nil _))))) rfl⟩
 rintro ⟨y45, y46, y47⟩ H;replace H : dr F y15 y45 y46 y47 = some r2 := H
 unfold dr at H
 refine bX (X := Int) (fun y84 => ⟨[(3, .v (.int .i32 y84))], [], []⟩) (fun y84 => dY y84 = some r2) ?_ ?_
 ·refine bi <| dC (X := Nat × Int × Int) (fun (n52, y49, y50) => ⟨[(0, S y15), (3, .v (.int .i32 y49)), (4, i64 y50), (5, B y47)], [], []⟩) (fun (n52, y49, y50) => dt F y15 y47 n52 (y49, y50) = some r2) (fun (n52, y49, y50) => n52) (F, y45, y46) H (aY [] (.cons (.refl _) (.cons (.refl _) (.cons (.refl _) (.cons (.refl _) (.nil _))))) rfl) ?_;rintro ⟨n52, y49, y50⟩ H;obtain ⟨n52, rfl, H⟩ := fg H;replace H : fh F y15 y47 (dt F y15 y47 n52) y49 y50 = some r2 := H
  unfold fh at H
  refine aj <| aj <| ac ?_;show AR _ _ _ _ _ [0, 1, 2, 3] _;refine zm rfl <| zm rfl <| zS rfl (bx al rfl) <| zS rfl (cf rfl rfl) <| ak <| aG rfl (fun c53 => ?_) (fun c53 => ?_)
  ·replace H := bk c53 H;refine aM <| bX (X := Int) (fun y81 => ⟨[(0, S y15), (3, .v (.int .i32 y81)), (4, i64 y50), (5, B y47)], [], []⟩) (fun y81 => cO y50 (dt F y15 y47 n52) y81 = some r2) ?_ ?_
   ·refine bi <| aj <| aj ?_;obtain ⟨g54, H⟩ := aX H;obtain ⟨x55, e56, H⟩ := cc H;obtain ⟨g58, H⟩ := cE H;obtain ⟨x59, e60, H⟩ := cc H;obtain ⟨g63, H⟩ := cE H;obtain ⟨x64, e65, H⟩ := cc H;obtain ⟨x66, e67, H⟩ := fE H;obtain ⟨g69, H⟩ := cE H;obtain ⟨x70, e71, H⟩ := cc H;obtain ⟨x72, e73, H⟩ := fE H;refine ac ?_;show AR _ _ _ _ _ [0, 1, 2, 3, 4, 5, 6, 7, 8, 9, 10, 11, 12, 13, 14, 15, 16, 17, 18, 19, 20, 21, 22, 23, 24, 25, 26] _;refine zm rfl <| zm rfl <| zS rfl (bC al rfl rfl g54 e56) <| zS rfl (dU rfl rfl) <| zm rfl <| aN (l := [10, 11, 12, 13, 14, 15, 16, 17, 18, 19, 20, 21, 22, 23, 24, 25, 26]) 66 (B ((decide (48 ≤ (x55.toNat : Int))) && (decide ((x59.toNat : Int) ≤ 57)))) (fun K => ?_) ?_
    ·rcases af (decide (48 ≤ (x55.toNat : Int))) with h57 | h57
     ·refine zM h57 rfl <| zM h57 rfl <| zU h57 rfl (bC al rfl rfl (g58 h57) e60) <| zU h57 rfl (dU rfl rfl) <| zS rfl (ax (av := .v _) rfl h57 rfl) ?_;exact K _ 4 _ (ap (bZ h57)) rfl rfl
     ·refine zF h57 rfl <| zF h57 rfl <| zF h57 rfl <| zF h57 rfl <| zS rfl (aw (av := .v _) rfl h57 rfl) ?_;exact K _ 4 _ (ap (ca h57)) rfl rfl
    refine zm rfl <| aN (l := []) 83 (B (((decide (48 ≤ (x55.toNat : Int))) && (decide ((x59.toNat : Int) ≤ 57))) || ((y47 && (decide (97 ≤ (x66.toNat : Int)))) && (decide ((x72.toNat : Int) ≤ 102))))) (fun K => ?_) ?_
    ·rcases af ((decide (48 ≤ (x55.toNat : Int))) && (decide ((x59.toNat : Int) ≤ 57))) with h61 | h61
     ·refine zF h61 rfl <| zF h61 rfl <| gU rfl rfl rfl rfl rfl <| gU rfl rfl rfl rfl rfl <| gU rfl rfl rfl rfl rfl <| gU rfl rfl rfl rfl rfl <| gU rfl rfl rfl rfl rfl <| zF h61 rfl <| zF h61 rfl <| gU rfl rfl rfl rfl rfl <| gU rfl rfl rfl rfl rfl <| gU rfl rfl rfl rfl rfl <| gU rfl rfl rfl rfl rfl <| gU rfl rfl rfl rfl rfl <| zF h61 rfl <| zS rfl (ax (av := .v _) rfl h61 rfl) ?_;exact K _ 15 _ (ap (fT h61)) rfl rfl
     ·refine zM h61 rfl <| zM h61 rfl <| aN (l := [19, 20, 21, 22, 23, 24, 25, 26]) 75 (B (y47 && (decide (97 ≤ (x66.toNat : Int))))) (fun K => ?_) ?_
      ·rcases af y47 with h62 | h62
       ·refine zM h62 rfl <| zM h62 rfl <| zU h62 rfl (bC al rfl rfl (g63 (dN (nf h61) h62)) e65) <| zT h62 rfl (aQ rfl eX rfl (ef F x64 x66 (e67 (dN (nf h61) h62))) ?_);refine zU h62 rfl (dU rfl rfl) <| zU h61 rfl (ax (av := .v _) rfl h62 rfl) ?_;exact K _ 5 _ (ap (bZ h62)) rfl rfl
       ·refine zF h62 rfl <| zF h62 rfl <| zF h62 rfl <| zF h62 rfl <| zF h62 rfl <| zU h61 rfl (aw (av := .v _) rfl h62 rfl) ?_;exact K _ 5 _ (ap (ca h62)) rfl rfl
      refine zM h61 rfl <| aN (l := [26]) 82 (B ((y47 && (decide (97 ≤ (x66.toNat : Int)))) && (decide ((x72.toNat : Int) ≤ 102)))) (fun K => ?_) ?_
      ·rcases af (y47 && (decide (97 ≤ (x66.toNat : Int)))) with h68 | h68
       ·refine zM h68 rfl <| zM h68 rfl <| zU h68 rfl (bC al rfl rfl (g69 (dN (nf h61) h68)) e71) <| zT h68 rfl (aQ rfl eX rfl (ef F x70 x72 (e73 (dN (nf h61) h68))) ?_);refine zU h68 rfl (dU rfl rfl) <| zU h61 rfl (ax (av := .v _) rfl h68 rfl) ?_;exact K _ 5 _ (ap (bZ h68)) rfl rfl
       ·refine zF h68 rfl <| zF h68 rfl <| zF h68 rfl <| zF h68 rfl <| zF h68 rfl <| zU h61 rfl (aw (av := .v _) rfl h68 rfl) ?_;exact K _ 5 _ (ap (ca h68)) rfl rfl
      refine zS rfl (aw (av := .v _) rfl h61 rfl) ?_;exact K _ 5 _ (ap (fU h61)) rfl rfl
    refine ak <| aG rfl (fun c74 => ?_) (fun c74 => ?_)
    ·replace H := bk c74 H;refine aj <| ac ?_;show AR _ _ _ _ _ [0] _;refine za rfl <| ak <| dk ?_;exact Exists.intro 48 ⟨H, aY [] (.cons (.refl _) (.cons (.refl _) (.cons (.refl _) (.cons (.refl _) (.nil _))))) rfl⟩
    ·replace H := bb c74 H;refine aM <| aj <| aj ?_;obtain ⟨g75, H⟩ := aX H;obtain ⟨x76, e77, H⟩ := cc H;refine ac ?_;show AR _ _ _ _ _ [0, 1, 2, 3] _;refine zm rfl <| zm rfl <| zS rfl (bC al rfl rfl g75 e77) <| zS rfl (eo (a := x76) (b := 95) rfl rfl) <| ak <| aG rfl (fun c78 => ?_) (fun c78 => ?_)
     ·replace H := bk c78 H;refine aj <| aj <| ac ?_;show AR _ _ _ _ _ [0, 1] _;refine zm rfl <| zS rfl (eE rfl rfl) <| ak <| aG rfl (fun c79 => ?_) (fun c79 => ?_)
      ·replace H := bk c79 H;refine aj <| ac ?_;show AR _ _ _ _ _ [0] _;refine za rfl <| ak <| aR ?_;obtain rfl := aC H;exact And.intro rfl (Exists.intro _ (Exists.intro _ ⟨aV rfl (.refl _), aL [] rfl, rfl, rfl⟩))
      ·replace H := bb c79 H;refine aM <| aj <| ac ?_;show AR _ _ _ _ _ [0] _;refine za rfl <| ak <| dk ?_;exact Exists.intro 95 ⟨H, aY [] (.cons (.refl _) (.cons (.refl _) (.cons (.refl _) (.cons (.refl _) (.nil _))))) rfl⟩
     ·replace H := bb c78 H;refine aM <| aj <| aj <| ac ?_;show AR _ _ _ _ _ [0, 1] _;refine zm rfl <| zS rfl (bN rfl rfl) <| ak <| aG rfl (fun c80 => ?_) (fun c80 => ?_)
      ·replace H := bk c80 H;refine aj <| ac ?_;show AR _ _ _ _ _ [0] _;refine za rfl <| ak <| aR ?_;obtain rfl := aC H;exact And.intro rfl (Exists.intro _ (Exists.intro _ ⟨aV rfl (.refl _), aL [] rfl, rfl, rfl⟩))
      ·replace H := bb c80 H;refine aM <| ac ?_;show AR _ _ _ _ _ [0] _;refine za rfl <| ak ?_;exact Exists.intro 33 ⟨H, aY [] (.cons (.refl _) (.cons (.refl _) (.cons (.refl _) (.cons (.refl _) (.nil _))))) rfl⟩
   rintro y81 H;replace H : cO y50 (dt F y15 y47 n52) y81 = some r2 := H
   unfold cO at H
   obtain ⟨g83, H⟩ := aX H;refine ac ?_;show AR _ _ _ _ _ [0, 1, 2] _;refine zm rfl <| zS rfl (eZ rfl rfl g83) <| za rfl <| ak ?_;exact Exists.intro (n52, y81, y50 + 1) ⟨H, Nat.lt_succ_self _, aY [] (.cons (.refl _) (.cons (.refl _) (.cons (.refl _) (.cons (.refl _) (.nil _))))) rfl⟩
  ·replace H := bb c53 H;refine dk ?_;exact Exists.intro y49 ⟨H, aY [] (.cons (.refl _) (.nil _)) rfl⟩
 rintro y84 H;replace H : dY y84 = some r2 := H
 unfold dY at H
 refine aj <| ac ?_;show AR _ _ _ _ _ [0, 1, 2] _;refine zm rfl <| zS rfl (eE rfl rfl) <| za rfl <| ak <| aR ?_;obtain rfl := aC H;exact And.intro rfl (Exists.intro _ (Exists.intro _ ⟨aV rfl (.refl _), aL [] rfl, rfl, rfl⟩))
abbrev _root_.Go.Av.bB := @Tryz.underlying126
abbrev _root_.Go.Av.aJ := @Tryz.underlying5
set_option maxRecDepth 100000 in
set_option maxHeartbeats 1000000 in
theorem lU (F : Nat) (a1 : List UInt8) (a2 : Int) (a3 : Int) (r4 : Int) (r5 : Int) (H : fJ F a1 a2 a3 = some (r4, r5)) : ACalls Tryz.prog 120 [S a1, i64 a2, i64 a3] [] (Ret (.tup [.v (.int .u64 r4), fp 126 .i64 r5]) []) := by
 unfold fJ at H
 refine aA Tryz.func120 rfl rfl ?_;show AW _ _ 172 _ _ _;refine aj <| ac ?_;show AR _ _ _ _ _ [0, 1] _;refine za rfl <| za rfl <| ak <| aj <| aj <| ac ?_;show AR _ _ _ _ _ [0, 1] _;refine zm rfl <| zS rfl (iM rfl rfl) <| ak <| aG rfl (fun c6 => ?_) (fun c6 => ?_)
 ·replace H := bk c6 H;refine aj <| ac ?_;show AR _ _ _ _ _ [0, 1, 2] _;refine zS rfl (bm (a := .v _) bB rfl rfl) <| za rfl <| zS rfl (ay (av := .ifc _ _) rfl) <| ak <| aR ?_;obtain ⟨rfl, rfl⟩ := fD H;exact And.intro rfl (Exists.intro _ (Exists.intro _ ⟨bK rfl (.refl _) (.refl _), aL [] rfl, rfl, rfl⟩))
 ·replace H := bb c6 H;refine aM <| aj <| ac ?_;show AR _ _ _ _ _ [0, 1, 2] _;refine zm rfl <| zS rfl (bN rfl rfl) <| za rfl <| ak <| aj <| ac ?_;show AR _ _ _ _ _ [0, 1] _;refine zm rfl <| za rfl <| ak <| bX (X := Unit) (fun _ => ⟨[(0, S a1), (1, i64 a2), (2, i64 a3), (8, B (decide (a2 = 0))), (9, S a1)], [], []⟩) (fun _ => ei F a1 a2 a3 = some (r4, r5)) ?_ ?_
  ·refine bi <| aj <| ac ?_;show AR _ _ _ _ _ [0, 1, 2, 3, 4, 5, 6] _;refine zm rfl <| zS rfl (dU rfl rfl) <| zm rfl <| aN (l := [6]) 31 (B ((decide (2 ≤ a2)) && (decide (a2 ≤ 36)))) (fun K => ?_) ?_
   ·rcases af (decide (2 ≤ a2)) with h7 | h7
    ·refine zM h7 rfl <| zU h7 rfl (dU rfl rfl) <| zS rfl (ax (av := .v _) rfl h7 rfl) ?_;exact K _ 2 _ (ap (bZ h7)) rfl rfl
    ·refine zF h7 rfl <| zF h7 rfl <| zS rfl (aw (av := .v _) rfl h7 rfl) ?_;exact K _ 2 _ (ap (ca h7)) rfl rfl
   refine za rfl <| ak ?_;obtain ⟨g9, H⟩ := aX H;refine aG rfl (fun _ => ?_) (fun hx => ib g9 hx);refine aM ?_;exact Exists.intro () ⟨H, aY [] (.cons (.refl _) (.cons (.refl _) (.cons (.refl _) (.cons (.refl _) (.cons (.refl _) (.nil _)))))) rfl⟩
  rintro _ H;replace H : ei F a1 a2 a3 = some (r4, r5) := H
  unfold ei at H
  refine bX (X := Unit) (fun _ => ⟨[(0, S a1), (1, i64 a2), (2, i64 64), (8, B (decide (a2 = 0))), (9, S a1)], [], []⟩) (fun _ => ej F a1 a2 = some (r4, r5)) ?_ ?_
  ·refine aj <| ac ?_;show AR _ _ _ _ _ [0, 1] _;refine zm rfl <| zS rfl (bN rfl rfl) <| ak ?_;obtain ⟨g12, H⟩ := aX H;refine aG rfl (fun _ => ?_) (fun hx => ib g12 hx);refine ac ?_;show AR _ _ _ _ _ [0] _;refine za rfl <| ak ?_;exact Exists.intro () ⟨H, aY [] (.cons (.refl _) (.cons (.refl _) (.cons (.refl _) (.cons (.refl _) (.cons (.refl _) (.nil _)))))) rfl⟩
  rintro _ H;replace H : ej F a1 a2 = some (r4, r5) := H
  unfold ej at H
  refine aj <| ac ?_;show AR _ _ _ _ _ [0] _;refine za rfl <| ak <| bX (X := Int) (fun y17 => ⟨[(0, S a1), (1, i64 a2), (2, i64 64), (8, B (decide (a2 = 0))), (9, S a1), (10, .v (.int .u64 y17))], [], []⟩) (fun y17 => dg F a1 a2 y17 = some (r4, r5)) ?_ ?_
  ·refine aj <| ac ?_;show AR _ _ _ _ _ [0] _;refine zm rfl <| ak <| bi <| aj <| ac ?_;show AR _ _ _ _ _ [0, 1] _;refine zS rfl (bN rfl rfl) <| za rfl <| ak <| aG rfl (fun c14 => ?_) (fun c14 => ?_)
   ·replace H := bk c14 H;refine ac ?_;show AR _ _ _ _ _ [0] _;refine za rfl <| ak ?_;exact Exists.intro 1844674407370955162 ⟨H, aY [] (.cons (.refl _) (.cons (.refl _) (.cons (.refl _) (.cons (.refl _) (.cons (.refl _) (.cons (.refl _) (.nil _))))))) rfl⟩
   ·replace H := bb c14 H;refine aj <| ac ?_;show AR _ _ _ _ _ [0, 1] _;refine zS rfl (bN rfl rfl) <| za rfl <| ak <| aG rfl (fun c15 => ?_) (fun c15 => ?_)
    ·replace H := bk c15 H;refine ac ?_;show AR _ _ _ _ _ [0] _;refine za rfl <| ak ?_;exact Exists.intro 1152921504606846976 ⟨H, aY [] (.cons (.refl _) (.cons (.refl _) (.cons (.refl _) (.cons (.refl _) (.cons (.refl _) (.cons (.refl _) (.nil _))))))) rfl⟩
    ·replace H := bb c15 H;obtain ⟨g16, H⟩ := aX H;refine ac ?_;show AR _ _ _ _ _ [0, 1, 2, 3, 4] _;refine zm rfl <| zS rfl (cU (by kernel_rfl) Tryz.underlying140 rfl) <| zS rfl (iv rfl rfl (of_decide_eq_true g16)) <| zS rfl (kF rfl rfl) <| za rfl <| ak ?_;exact Exists.intro (IntKind.u64.wrap ((IntKind.u64.wrap (Int.tdiv 18446744073709551615 (IntKind.u64.wrap a2))) + 1)) ⟨H, aY [] (.cons (.refl _) (.cons (.refl _) (.cons (.refl _) (.cons (.refl _) (.cons (.refl _) (.cons (.refl _) (.nil _))))))) rfl⟩
  rintro y17 H;replace H : dg F a1 a2 y17 = some (r4, r5) := H
  unfold dg at H
  refine aj ?_;obtain ⟨g19, H⟩ := aX H;refine ac ?_;show AR _ _ _ _ _ [0, 1, 2, 3, 4] _;refine zm rfl <| zS rfl (cU (by kernel_rfl) Tryz.underlying120 rfl) <| zS rfl (qu rfl rfl (of_decide_eq_true g19)) <| zS rfl (kE rfl rfl) <| za rfl <| ak <| aj <| ac ?_;show AR _ _ _ _ _ [0] _;refine za rfl <| ak <| aj <| ac ?_;show AR _ _ _ _ _ [0] _;refine za rfl <| ak <| bX (X := Bool × Int) (fun (y53, y54) => ⟨[(9, S a1), (12, B y53), (13, .v (.int .u64 y54))], [], []⟩) (fun (y53, y54) => ek F a1 y53 y54 = some (r4, r5)) ?_ ?_
  ·refine aj ?_;obtain ⟨g20, H⟩ := aX H;refine ac ?_;show AR _ _ _ _ _ [0, 1, 2, 3] _;refine zm rfl <| zX rfl (ie (bytes := 1) al aa aJ rfl g20) ?_;rintro _ _ ⟨t21, rfl, rfl⟩;refine zS rfl (aU aa rfl) <| zm rfl <| ak <| bi <| dC (X := Nat × Bool × Int × Int) (fun (n26, y22, y23, y24) => ⟨[(1, i64 a2), (8, B (decide (a2 = 0))), (9, S a1), (10, .v (.int .u64 y17)), (11, .v (.int .u64 (IntKind.u64.wrap ((IntKind.u64.wrap (1 * 2 ^ min (Int.toNat (IntKind.u64.wrap 64)) IntKind.u64.bits)) - 1)))), (12, B y22), (13, .v (.int .u64 y23)), (99, slE Enc.byte a1 (some t21)), (100, i64 (a1.length : Int)), (101, i64 y24)], [], [.tok t21 5]⟩) (fun (n26, y22, y23, y24) => cm F a1 a2 y17 n26 (y22, y23, y24) = some (r4, r5)) (fun (n26, y22, y23, y24) => n26) (F, false, 0, 0) H (aY [0] (.cons (.refl _) (.cons (.refl _) (.cons (.refl _) (.cons (.refl _) (.cons (.refl _) (.cons (.refl _) (.cons (.refl _) (.cons (.refl _) (.cons (.refl _) (.cons (.refl _) (.nil _))))))))))) rfl) ?_;rintro ⟨n26, y22, y23, y24⟩ H;obtain ⟨n26, rfl, H⟩ := fg H;replace H : el F a1 a2 y17 (cm F a1 a2 y17 n26) y22 y23 y24 = some (r4, r5) := H
   unfold el at H
   refine aj <| ac ?_;show AR _ _ _ _ _ [0] _;refine zS rfl (cf rfl rfl) <| ak <| aj <| aG rfl (fun c27 => ?_) (fun c27 => ?_)
   ·replace H := bk c27 H;refine aM <| bX (X := Bool × Int) (fun (y49, y50) => ⟨[(1, i64 a2), (8, B (decide (a2 = 0))), (9, S a1), (10, .v (.int .u64 y17)), (11, .v (.int .u64 (IntKind.u64.wrap ((IntKind.u64.wrap (1 * 2 ^ min (Int.toNat (IntKind.u64.wrap 64)) IntKind.u64.bits)) - 1)))), (12, B y49), (13, .v (.int .u64 y50)), (99, slE Enc.byte a1 (some t21)), (100, i64 (a1.length : Int)), (101, i64 y24)], [], [.tok t21 5]⟩) (fun (y49, y50) => dy y24 (cm F a1 a2 y17 n26) y49 y50 = some (r4, r5)) ?_ ?_
    ·refine bi <| aj ?_;obtain ⟨g28, H⟩ := aX H;obtain ⟨x29, e30, H⟩ := cc H;refine ac ?_;show AR _ _ _ _ _ [0, 1, 2] _;refine zS rfl (bq (E := Enc.byte) aa (by kernel_rfl) rfl rfl g28 e30) <| zS rfl (aI aJ rfl rfl) <| za rfl <| ak <| aj <| ac ?_;show AR _ _ _ _ _ [0] _;refine za rfl <| ak <| bX (X := UInt8) (fun y43 => ⟨[(1, i64 a2), (8, B (decide (a2 = 0))), (9, S a1), (10, .v (.int .u64 y17)), (11, .v (.int .u64 (IntKind.u64.wrap ((IntKind.u64.wrap (1 * 2 ^ min (Int.toNat (IntKind.u64.wrap 64)) IntKind.u64.bits)) - 1)))), (12, B y22), (13, .v (.int .u64 y23)), (16, u8 y43), (99, slE Enc.byte a1 (some t21)), (100, i64 (a1.length : Int)), (101, i64 y24)], [], [.tok t21 5]⟩) (fun y43 => dh a2 y17 y22 y23 y24 (cm F a1 a2 y17 n26) y43 = some (r4, r5)) ?_ ?_
     ·refine bi <| aj <| ac ?_;show AR _ _ _ _ _ [0, 1, 2, 3, 4, 5] _;refine zm rfl <| zS rfl (eo (a := x29) (b := 95) rfl rfl) <| zm rfl <| aN (l := [5]) 111 (B ((decide (x29 = 95)) && (decide (a2 = 0)))) (fun K => ?_) ?_
      ·rcases af (decide (x29 = 95)) with h31 | h31
       ·refine zM h31 rfl <| zS rfl (ax (av := .v _) rfl h31 rfl) ?_;exact K _ 1 _ (ap (bZ h31)) rfl rfl
       ·refine zF h31 rfl <| zS rfl (aw (av := .v _) rfl h31 rfl) ?_;exact K _ 1 _ (ap (ca h31)) rfl rfl
      refine za rfl <| ak <| aG rfl (fun c32 => ?_) (fun c32 => ?_)
      ·replace H := bk c32 H;refine aj <| ac ?_;show AR _ _ _ _ _ [0] _;refine za rfl <| ak <| dk ?_;exact Exists.intro (true, y23) ⟨H, aY [0] (.cons (.refl _) (.cons (.refl _) (.cons (.refl _) (.cons (.refl _) (.cons (.refl _) (.cons (.refl _) (.cons (.refl _) (.cons (.refl _) (.cons (.refl _) (.cons (.refl _) (.nil _))))))))))) rfl⟩
      ·replace H := bb c32 H;refine aj <| ac ?_;show AR _ _ _ _ _ [0, 1, 2, 3, 4, 5, 6] _;refine zm rfl <| zS rfl (dU rfl rfl) <| zm rfl <| aN (l := [6]) 118 (B ((decide (48 ≤ (x29.toNat : Int))) && (decide ((x29.toNat : Int) ≤ 57)))) (fun K => ?_) ?_
       ·rcases af (decide (48 ≤ (x29.toNat : Int))) with h33 | h33
        ·refine zM h33 rfl <| zU h33 rfl (dU rfl rfl) <| zS rfl (ax (av := .v _) rfl h33 rfl) ?_;exact K _ 2 _ (ap (bZ h33)) rfl rfl
        ·refine zF h33 rfl <| zF h33 rfl <| zS rfl (aw (av := .v _) rfl h33 rfl) ?_;exact K _ 2 _ (ap (ca h33)) rfl rfl
       refine za rfl <| ak <| aG rfl (fun c34 => ?_) (fun c34 => ?_)
       ·replace H := bk c34 H;refine ac ?_;show AR _ _ _ _ _ [0, 1, 2] _;refine zm rfl <| zS rfl (oC (a := x29) (b := 48) rfl rfl) <| za rfl <| ak ?_;exact Exists.intro (x29 - 48) ⟨H, aY [0] (.cons (.refl _) (.cons (.refl _) (.cons (.refl _) (.cons (.refl _) (.cons (.refl _) (.cons (.refl _) (.cons (.refl _) (.cons (.refl _) (.cons (.refl _) (.cons (.refl _) (.cons (.refl _) (.nil _)))))))))))) rfl⟩
       ·replace H := bb c34 H;refine aj ?_;obtain ⟨x35, e36, H⟩ := dG H;obtain ⟨x38, e39, H⟩ := fE H;refine ac ?_;show AR _ _ _ _ _ [0, 1, 2, 3, 4, 5, 6, 7, 8] _;refine zm rfl <| ao rfl rfl (aQ rfl eX rfl (ef F x29 x35 e36) ?_);refine zS rfl (dU rfl rfl) <| zm rfl <| aN (l := [8]) 129 (B ((decide (97 ≤ (x35.toNat : Int))) && (decide ((x38.toNat : Int) ≤ 122)))) (fun K => ?_) ?_
        ·rcases af (decide (97 ≤ (x35.toNat : Int))) with h37 | h37
         ·refine zM h37 rfl <| zT h37 rfl (aQ rfl eX rfl (ef F x29 x38 (e39 h37)) ?_);refine zU h37 rfl (dU rfl rfl) <| zS rfl (ax (av := .v _) rfl h37 rfl) ?_;exact K _ 3 _ (ap (bZ h37)) rfl rfl
         ·refine zF h37 rfl <| zF h37 rfl <| zF h37 rfl <| zS rfl (aw (av := .v _) rfl h37 rfl) ?_;exact K _ 3 _ (ap (ca h37)) rfl rfl
        refine za rfl <| ak <| aG rfl (fun c40 => ?_) (fun c40 => ?_)
        ·replace H := bk c40 H;obtain ⟨x41, e42, H⟩ := dG H;refine ac ?_;show AR _ _ _ _ _ [0, 1, 2, 3, 4] _;refine zm rfl <| ao rfl rfl (aQ rfl eX rfl (ef F x29 x41 e42) ?_);refine zS rfl (oC (a := x41) (b := 97) rfl rfl) <| zS rfl (g_add8 (a := x41 - 97) (b := 10) rfl rfl) <| za rfl <| ak ?_;exact Exists.intro ((x41 - 97) + 10) ⟨H, aY [0] (.cons (.refl _) (.cons (.refl _) (.cons (.refl _) (.cons (.refl _) (.cons (.refl _) (.cons (.refl _) (.cons (.refl _) (.cons (.refl _) (.cons (.refl _) (.cons (.refl _) (.cons (.refl _) (.nil _)))))))))))) rfl⟩
        ·replace H := bb c40 H;refine aj <| ac ?_;show AR _ _ _ _ _ [0, 1, 2] _;refine zS rfl (bm (a := .v _) bB rfl rfl) <| za rfl <| zS rfl (ay (av := .ifc _ _) rfl) <| ak <| aR ?_;obtain ⟨rfl, rfl⟩ := fD H;exact And.intro rfl (Exists.intro _ (Exists.intro _ ⟨bK rfl (.refl _) (.refl _), aL [] rfl, rfl, rfl⟩))
     rintro y43 H;replace H : dh a2 y17 y22 y23 y24 (cm F a1 a2 y17 n26) y43 = some (r4, r5) := H
     unfold dh at H
     refine aj <| aj <| ac ?_;show AR _ _ _ _ _ [0, 1, 2, 3] _;refine zm rfl <| zm rfl <| zS rfl (pV (by kernel_rfl) aJ rfl) <| zS rfl (ff rfl rfl) <| ak <| aG rfl (fun c45 => ?_) (fun c45 => ?_)
     ·replace H := bk c45 H;refine aj <| ac ?_;show AR _ _ _ _ _ [0, 1, 2] _;refine zS rfl (bm (a := .v _) bB rfl rfl) <| za rfl <| zS rfl (ay (av := .ifc _ _) rfl) <| ak <| aR ?_;obtain ⟨rfl, rfl⟩ := fD H;exact And.intro rfl (Exists.intro _ (Exists.intro _ ⟨bK rfl (.refl _) (.refl _), aL [] rfl, rfl, rfl⟩))
     ·replace H := bb c45 H;refine aM <| aj <| aj <| ac ?_;show AR _ _ _ _ _ [0, 1, 2] _;refine zm rfl <| zm rfl <| zS rfl (ff rfl rfl) <| ak <| aG rfl (fun c46 => ?_) (fun c46 => ?_)
      ·replace H := bk c46 H;refine aj <| ac ?_;show AR _ _ _ _ _ [0, 1, 2, 3] _;refine zm rfl <| zS rfl (bm (a := .v _) bB rfl rfl) <| za rfl <| zS rfl (ay (av := .ifc _ _) rfl) <| ak <| aR ?_;obtain ⟨rfl, rfl⟩ := fD H;exact And.intro rfl (Exists.intro _ (Exists.intro _ ⟨bK rfl (.refl _) (.refl _), aL [] rfl, rfl, rfl⟩))
      ·replace H := bb c46 H;refine aM <| aj <| ac ?_;show AR _ _ _ _ _ [0, 1, 2, 3, 4] _;refine zm rfl <| zm rfl <| zS rfl (cU (by kernel_rfl) Tryz.underlying140 rfl) <| zS rfl (pp rfl rfl) <| za rfl <| ak <| aj <| ac ?_;show AR _ _ _ _ _ [0, 1, 2, 3, 4] _;refine zm rfl <| zm rfl <| zS rfl (cU (k' := .u8) (n := (y43.toNat : Int)) (by kernel_rfl) Tryz.underlying140 rfl) <| zS rfl (kF rfl rfl) <| za rfl <| ak <| aj <| aj <| ac ?_;show AR _ _ _ _ _ [0, 1, 2, 3, 4, 5, 6, 7] _;refine zm rfl <| zm rfl <| zS rfl (cf rfl rfl) <| zm rfl <| aN (l := []) 159 (B ((decide (IntKind.u64.wrap ((IntKind.u64.wrap (y23 * (IntKind.u64.wrap a2))) + (IntKind.u64.wrap (y43.toNat : Int))) < IntKind.u64.wrap (y23 * (IntKind.u64.wrap a2)))) || (decide (IntKind.u64.wrap ((IntKind.u64.wrap (1 * 2 ^ min (Int.toNat (IntKind.u64.wrap 64)) IntKind.u64.bits)) - 1) < IntKind.u64.wrap ((IntKind.u64.wrap (y23 * (IntKind.u64.wrap a2))) + (IntKind.u64.wrap (y43.toNat : Int))))))) (fun K => ?_) ?_
       ·rcases af (decide (IntKind.u64.wrap ((IntKind.u64.wrap (y23 * (IntKind.u64.wrap a2))) + (IntKind.u64.wrap (y43.toNat : Int))) < IntKind.u64.wrap (y23 * (IntKind.u64.wrap a2)))) with h47 | h47
        ·refine zF h47 rfl <| zF h47 rfl <| zF h47 rfl <| zS rfl (ax (av := .v _) rfl h47 rfl) ?_;exact K _ 3 _ (ap (fT h47)) rfl rfl
        ·refine zM h47 rfl <| zM h47 rfl <| zU h47 rfl (ii rfl rfl) <| zS rfl (aw (av := .v _) rfl h47 rfl) ?_;exact K _ 3 _ (ap (fU h47)) rfl rfl
       refine ak <| aG rfl (fun c48 => ?_) (fun c48 => ?_)
       ·replace H := bk c48 H;refine aj <| ac ?_;show AR _ _ _ _ _ [0, 1, 2, 3] _;refine zm rfl <| zS rfl (bm (a := .v _) bB rfl rfl) <| za rfl <| zS rfl (ay (av := .ifc _ _) rfl) <| ak <| aR ?_;obtain ⟨rfl, rfl⟩ := fD H;exact And.intro rfl (Exists.intro _ (Exists.intro _ ⟨bK rfl (.refl _) (.refl _), aL [] rfl, rfl, rfl⟩))
       ·replace H := bb c48 H;refine aM <| ac ?_;show AR _ _ _ _ _ [0, 1] _;refine zm rfl <| za rfl <| ak ?_;exact Exists.intro (y22, IntKind.u64.wrap ((IntKind.u64.wrap (y23 * (IntKind.u64.wrap a2))) + (IntKind.u64.wrap (y43.toNat : Int)))) ⟨H, aY [0] (.cons (.refl _) (.cons (.refl _) (.cons (.refl _) (.cons (.refl _) (.cons (.refl _) (.cons (.refl _) (.cons (.refl _) (.cons (.refl _) (.cons (.refl _) (.cons (.refl _) (.nil _))))))))))) rfl⟩
    rintro ⟨y49, y50⟩ H;replace H : dy y24 (cm F a1 a2 y17 n26) y49 y50 = some (r4, r5) := H
    unfold dy at H
    obtain ⟨g52, H⟩ := aX H;refine ac ?_;show AR _ _ _ _ _ [0, 1] _;refine zS rfl (eZ rfl rfl g52) <| zm rfl <| ak ?_;exact Exists.intro (n26, y49, y50, y24 + 1) ⟨H, Nat.lt_succ_self _, aY [0] (.cons (.refl _) (.cons (.refl _) (.cons (.refl _) (.cons (.refl _) (.cons (.refl _) (.cons (.refl _) (.cons (.refl _) (.cons (.refl _) (.cons (.refl _) (.cons (.refl _) (.nil _))))))))))) rfl⟩
   ·replace H := bb c27 H;refine dk ?_;exact Exists.intro (y22, y23) ⟨H, aY [] (.cons (.refl _) (.cons (.refl _) (.cons (.refl _) (.nil _)))) rfl⟩
  rintro ⟨y53, y54⟩ H;replace H : ek F a1 y53 y54 = some (r4, r5) := H
  unfold ek at H
  refine aj <| aj ?_;obtain ⟨x57, e58, H⟩ := fE H;refine ac ?_;show AR _ _ _ _ _ [0, 1, 2, 3, 4, 5] _;refine zm rfl <| zm rfl <| aN (l := []) 169 (B (y53 && (!x57))) (fun K => ?_) ?_
  ·rcases af y53 with h56 | h56
   ·refine zM h56 rfl <| zT h56 rfl (aQ rfl rz rfl (ki F a1 x57 (e58 h56)) ?_);refine zU h56 rfl (dP rfl) <| zS rfl (ax (av := .v _) rfl h56 rfl) ?_;exact K _ 3 _ (ap (bZ h56)) rfl rfl
   ·refine zF h56 rfl <| zF h56 rfl <| zF h56 rfl <| zS rfl (aw (av := .v _) rfl h56 rfl) ?_;exact K _ 3 _ (ap (ca h56)) rfl rfl
  refine ak <| aG rfl (fun c59 => ?_) (fun c59 => ?_)
  ·replace H := bk c59 H;refine aj <| ac ?_;show AR _ _ _ _ _ [0, 1, 2] _;refine zS rfl (bm (a := .v _) bB rfl rfl) <| za rfl <| zS rfl (ay (av := .ifc _ _) rfl) <| ak <| aR ?_;obtain ⟨rfl, rfl⟩ := fD H;exact And.intro rfl (Exists.intro _ (Exists.intro _ ⟨bK rfl (.refl _) (.refl _), aL [] rfl, rfl, rfl⟩))
  ·replace H := bb c59 H;refine aM <| aj <| ac ?_;show AR _ _ _ _ _ [0, 1, 2] _;refine zm rfl <| za rfl <| za rfl <| ak <| aR ?_;obtain ⟨rfl, rfl⟩ := fD H;exact And.intro rfl (Exists.intro _ (Exists.intro _ ⟨bK rfl (.refl _) (.refl _), aL [] rfl, rfl, rfl⟩))
abbrev _root_.Go.Av.df := @Tryz.underlying76
set_option maxRecDepth 100000 in
set_option maxHeartbeats 1000000 in
theorem lV (F : Nat) (a1 : List UInt8) (a2 : Int) (a3 : Int) (r4 : Int) (r5 : Int) (H : fK F a1 a2 a3 = some (r4, r5)) : ACalls Tryz.prog 100 [S a1, i64 a2, i64 a3] [] (Ret (.tup [i64 r4, fp 126 .i64 r5]) []) := by
 unfold fK at H
 refine aA Tryz.func100 rfl rfl ?_;show AW _ _ 73 _ _ _;refine aj <| ac ?_;show AR _ _ _ _ _ [0, 1] _;refine za rfl <| za rfl <| ak <| aj <| aj <| ac ?_;show AR _ _ _ _ _ [0, 1] _;refine zm rfl <| zS rfl (iM rfl rfl) <| ak <| aG rfl (fun c6 => ?_) (fun c6 => ?_)
 ·replace H := bk c6 H;refine aj <| ac ?_;show AR _ _ _ _ _ [0, 1, 2] _;refine zS rfl (bm (a := .v _) bB rfl rfl) <| za rfl <| zS rfl (ay (av := .ifc _ _) rfl) <| ak <| aR ?_;obtain ⟨rfl, rfl⟩ := fD H;exact And.intro rfl (Exists.intro _ (Exists.intro _ ⟨bK rfl (.refl _) (.refl _), aL [] rfl, rfl, rfl⟩))
 ·replace H := bb c6 H;refine aM <| aj <| ac ?_;show AR _ _ _ _ _ [0] _;refine za rfl <| ak <| bX (X := (List UInt8) × Bool) (fun (y18, y19) => ⟨[(0, S y18), (1, i64 a2), (2, i64 a3), (8, B y19)], [], []⟩) (fun (y18, y19) => cL F a2 a3 y18 y19 = some (r4, r5)) ?_ ?_
  ·refine aj ?_;obtain ⟨g7, H⟩ := aX H;obtain ⟨x8, e9, H⟩ := cc H;refine ac ?_;show AR _ _ _ _ _ [0, 1] _;refine zm rfl <| zS rfl (bC al rfl rfl g7 e9) <| ak <| bi <| aj <| ac ?_;show AR _ _ _ _ _ [0, 1] _;refine zS rfl (eo (a := x8) (b := 43) rfl rfl) <| za rfl <| ak <| aG rfl (fun c10 => ?_) (fun c10 => ?_)
   ·replace H := bk c10 H;obtain ⟨g11, H⟩ := aX H;obtain ⟨x12, e13, H⟩ := cc H;refine ac ?_;show AR _ _ _ _ _ [0, 1, 2] _;refine zm rfl <| zS rfl (fW al rfl rfl g11 e13) <| za rfl <| ak ?_;exact Exists.intro (x12, false) ⟨H, aY [] (.cons (.refl _) (.cons (.refl _) (.cons (.refl _) (.cons (.refl _) (.nil _))))) rfl⟩
   ·replace H := bb c10 H;refine aj <| ac ?_;show AR _ _ _ _ _ [0, 1] _;refine zS rfl (eo (a := x8) (b := 45) rfl rfl) <| za rfl <| ak <| aG rfl (fun c14 => ?_) (fun c14 => ?_)
    ·replace H := bk c14 H;refine aj ?_;obtain ⟨g15, H⟩ := aX H;obtain ⟨x16, e17, H⟩ := cc H;refine ac ?_;show AR _ _ _ _ _ [0, 1, 2] _;refine zm rfl <| zS rfl (fW al rfl rfl g15 e17) <| za rfl <| ak <| ac ?_;show AR _ _ _ _ _ [0] _;refine za rfl <| ak ?_;exact Exists.intro (x16, true) ⟨H, aY [] (.cons (.refl _) (.cons (.refl _) (.cons (.refl _) (.cons (.refl _) (.nil _))))) rfl⟩
    ·replace H := bb c14 H;refine aM ?_;exact Exists.intro (a1, false) ⟨H, aY [] (.cons (.refl _) (.cons (.refl _) (.cons (.refl _) (.cons (.refl _) (.nil _))))) rfl⟩
  rintro ⟨y18, y19⟩ H;replace H : cL F a2 a3 y18 y19 = some (r4, r5) := H
  unfold cL at H
  refine aj <| ac ?_;show AR _ _ _ _ _ [0] _;refine za rfl <| ak <| aj ?_;obtain ⟨x21, x22, e23, H⟩ := dL H;refine ac ?_;show AR _ _ _ _ _ [0, 1, 2, 3, 4, 5, 6, 7, 8] _;refine zm rfl <| zm rfl <| zm rfl <| ao rfl rfl (aQ rfl rB rfl (lU F y18 a2 a3 x21 x22 e23) ?_);refine zS rfl (ag (av := .tup _) rfl) <| zS rfl (aF (av := .v _) rfl rfl) <| zS rfl (aF (av := fp _ _ _) rfl rfl) <| za rfl <| zS rfl (ay (av := fp _ _ _) rfl) <| ak <| aj <| aj <| ac ?_;show AR _ _ _ _ _ [0, 1, 2, 3, 4, 5, 6] _;refine zS rfl (ag (av := fp _ _ _) rfl) <| zS rfl (ke df rfl rfl) <| zm rfl <| aN (l := []) 38 (B ((!decide (x22 = 0)) && (!decide (x22 = 1)))) (fun K => ?_) ?_
  ·rcases af (!decide (x22 = 0)) with h24 | h24
   ·refine zU h24 rfl (ag (av := fp _ _ _) rfl) <| zU h24 rfl (bm (a := .v _) bB rfl rfl) <| zU h24 rfl (qY (m := 1) df rfl bB (by kernel_rfl) (by decide) rfl rfl) <| zS rfl (ax (av := .v _) rfl h24 rfl) ?_;exact K _ 3 _ (ap (bZ h24)) rfl rfl
   ·refine zF h24 rfl <| zF h24 rfl <| zF h24 rfl <| zS rfl (aw (av := .v _) rfl h24 rfl) ?_;exact K _ 3 _ (ap (ca h24)) rfl rfl
  refine ak <| aG rfl (fun c25 => ?_) (fun c25 => ?_)
  ·replace H := bk c25 H;refine aj <| ac ?_;show AR _ _ _ _ _ [0, 1, 2] _;refine zS rfl (ag (av := fp _ _ _) rfl) <| za rfl <| zS rfl (ay (av := fp _ _ _) rfl) <| ak <| aR ?_;obtain ⟨rfl, rfl⟩ := fD H;exact And.intro rfl (Exists.intro _ (Exists.intro _ ⟨bK rfl (.refl _) (.refl _), aL [] rfl, rfl, rfl⟩))
  ·replace H := bb c25 H;refine aM <| bX (X := Unit) (fun _ => ⟨[(2, i64 64), (8, B y19), (9, .v (.int .u64 x21))], [], []⟩) (fun _ => dz y19 x21 = some (r4, r5)) ?_ ?_
   ·refine aj <| ac ?_;show AR _ _ _ _ _ [0, 1] _;refine zm rfl <| zS rfl (bN rfl rfl) <| ak ?_;obtain ⟨g27, H⟩ := aX H;refine aG rfl (fun _ => ?_) (fun hx => ib g27 hx);refine ac ?_;show AR _ _ _ _ _ [0] _;refine za rfl <| ak ?_;exact Exists.intro () ⟨H, aY [] (.cons (.refl _) (.cons (.refl _) (.cons (.refl _) (.nil _)))) rfl⟩
   rintro _ H;replace H : dz y19 x21 = some (r4, r5) := H
   unfold dz at H
   refine aj ?_;obtain ⟨g29, H⟩ := aX H;refine ac ?_;show AR _ _ _ _ _ [0, 1, 2, 3, 4] _;refine zm rfl <| zS rfl (OpS.eq (av' := i64 63) (kg rfl rfl (by decide)) rfl) <| zS rfl (cU (by kernel_rfl) Tryz.underlying120 rfl) <| zS rfl (qu rfl rfl (of_decide_eq_true g29)) <| za rfl <| ak <| aj <| aj <| ac ?_;show AR _ _ _ _ _ [0, 1, 2, 3, 4, 5, 6] _;refine zm rfl <| zS rfl (dP rfl) <| zm rfl <| aN (l := []) 52 (B ((!y19) && (decide (IntKind.u64.wrap (1 * 2 ^ min (Int.toNat (IntKind.u64.wrap 63)) IntKind.u64.bits) ≤ x21)))) (fun K => ?_) ?_
   ·rcases af (!y19) with h30 | h30
    ·refine zM h30 rfl <| zM h30 rfl <| zU h30 rfl (ff rfl rfl) <| zS rfl (ax (av := .v _) rfl h30 rfl) ?_;exact K _ 3 _ (ap (bZ h30)) rfl rfl
    ·refine zF h30 rfl <| zF h30 rfl <| zF h30 rfl <| zS rfl (aw (av := .v _) rfl h30 rfl) ?_;exact K _ 3 _ (ap (ca h30)) rfl rfl
   refine ak <| aG rfl (fun c31 => ?_) (fun c31 => ?_)
   ·replace H := bk c31 H;refine aj <| ac ?_;show AR _ _ _ _ _ [0, 1, 2, 3, 4, 5] _;refine zm rfl <| zS rfl (kE rfl rfl) <| zS rfl (cU (by kernel_rfl) Tryz.underlying2 rfl) <| zS rfl (bm (a := .v _) bB rfl rfl) <| za rfl <| zS rfl (ay (av := .ifc _ _) rfl) <| ak <| aR ?_;obtain ⟨rfl, rfl⟩ := fD H;exact And.intro rfl (Exists.intro _ (Exists.intro _ ⟨bK rfl (.refl _) (.refl _), aL [] rfl, rfl, rfl⟩))
   ·replace H := bb c31 H;refine aM <| aj <| aj <| ac ?_;show AR _ _ _ _ _ [0, 1, 2, 3, 4, 5] _;refine zm rfl <| zm rfl <| aN (l := []) 62 (B (y19 && (decide (IntKind.u64.wrap (1 * 2 ^ min (Int.toNat (IntKind.u64.wrap 63)) IntKind.u64.bits) < x21)))) (fun K => ?_) ?_
    ·rcases af y19 with h32 | h32
     ·refine zM h32 rfl <| zM h32 rfl <| zU h32 rfl (ii rfl rfl) <| zS rfl (ax (av := .v _) rfl h32 rfl) ?_;exact K _ 3 _ (ap (bZ h32)) rfl rfl
     ·refine zF h32 rfl <| zF h32 rfl <| zF h32 rfl <| zS rfl (aw (av := .v _) rfl h32 rfl) ?_;exact K _ 3 _ (ap (ca h32)) rfl rfl
    refine ak <| aG rfl (fun c33 => ?_) (fun c33 => ?_)
    ·replace H := bk c33 H;refine aj <| ac ?_;show AR _ _ _ _ _ [0, 1, 2, 3, 4, 5] _;refine zm rfl <| zS rfl (cU (by kernel_rfl) Tryz.underlying2 rfl) <| zS rfl (mB rfl) <| zS rfl (bm (a := .v _) bB rfl rfl) <| za rfl <| zS rfl (ay (av := .ifc _ _) rfl) <| ak <| aR ?_;obtain ⟨rfl, rfl⟩ := fD H;exact And.intro rfl (Exists.intro _ (Exists.intro _ ⟨bK rfl (.refl _) (.refl _), aL [] rfl, rfl, rfl⟩))
    ·replace H := bb c33 H;refine aM <| aj <| ac ?_;show AR _ _ _ _ _ [0, 1, 2] _;refine zm rfl <| zS rfl (cU (by kernel_rfl) Tryz.underlying2 rfl) <| za rfl <| ak <| bX (X := Int) (fun y35 => ⟨[(11, i64 y35)], [], []⟩) (fun y35 => dA y35 = some (r4, r5)) ?_ ?_
     ·refine aj <| ac ?_;show AR _ _ _ _ _ [0] _;refine zm rfl <| ak <| aG rfl (fun c34 => ?_) (fun c34 => ?_)
      ·replace H := bk c34 H;refine ac ?_;show AR _ _ _ _ _ [0, 1, 2] _;refine zm rfl <| zS rfl (mB rfl) <| za rfl <| ak ?_;exact Exists.intro (IntKind.i64.wrap (0 - (IntKind.i64.wrap x21))) ⟨H, aY [] (.cons (.refl _) (.nil _)) rfl⟩
      ·replace H := bb c34 H;refine aM ?_;exact Exists.intro (IntKind.i64.wrap x21) ⟨H, aY [] (.cons (.refl _) (.nil _)) rfl⟩
     rintro y35 H;replace H : dA y35 = some (r4, r5) := H
     unfold dA at H
     refine aj <| ac ?_;show AR _ _ _ _ _ [0, 1, 2] _;refine zm rfl <| za rfl <| za rfl <| ak <| aR ?_;obtain ⟨rfl, rfl⟩ := fD H;exact And.intro rfl (Exists.intro _ (Exists.intro _ ⟨bK rfl (.refl _) (.refl _), aL [] rfl, rfl, rfl⟩))
abbrev _root_.Go.Av.aq := @Tryz.underlying3
set_option maxRecDepth 100000 in
set_option maxHeartbeats 1000000 in
theorem qH (F : Nat) (a1 : List UInt8) (r2 : Int) (r3 : Int) (H : gG F a1 = some (r2, r3)) : ACalls Tryz.prog 70 [S a1] [] (Ret (.tup [i64 r2, fp 126 .i64 r3]) []) := by
 unfold gG at H
 refine aA Tryz.func70 rfl rfl ?_;show AW _ _ 77 _ _ _;refine aj <| ac ?_;show AR _ _ _ _ _ [0, 1] _;refine za rfl <| za rfl <| ak <| aj <| ac ?_;show AR _ _ _ _ _ [0, 1, 2] _;refine zm rfl <| zS rfl (bx al rfl) <| za rfl <| ak <| bX (X := Unit) (fun _ => ⟨[(0, S a1)], [], []⟩) (fun _ => gL F a1 = some (r2, r3)) ?_ ?_
 ·refine aj <| ac ?_;show AR _ _ _ _ _ [0, 1, 2, 3, 4, 5, 6, 7, 8, 9, 10, 11, 12, 13, 14, 15, 16, 17] _;refine zm rfl <| zF rfl rfl <| zF rfl rfl <| zF rfl rfl <| gU rfl rfl rfl rfl rfl <| gU rfl rfl rfl rfl rfl <| zF rfl rfl <| zS rfl (aw (av := .v _) rfl rfl rfl) <| zm rfl <| zM rfl rfl <| zM rfl rfl <| zU rfl rfl (cf rfl rfl) <| zM rfl rfl <| aN (l := [16, 17]) 28 (B ((decide (0 < (a1.length : Int))) && (decide ((a1.length : Int) < 19)))) (fun K => ?_) ?_
  ·rcases af (decide (0 < (a1.length : Int))) with h4 | h4
   ·refine zM h4 rfl <| zU h4 rfl (cf rfl rfl) <| zU rfl rfl (ax (av := .v _) rfl h4 rfl) ?_;exact K _ 2 _ (ap (bZ h4)) rfl rfl
   ·refine zF h4 rfl <| zF h4 rfl <| zU rfl rfl (aw (av := .v _) rfl h4 rfl) ?_;exact K _ 2 _ (ap (ca h4)) rfl rfl
  refine zU rfl rfl (ax (av := .v _) rfl rfl rfl) <| zS rfl (aw (av := .v _) rfl rfl rfl) <| ak <| aG rfl (fun c5 => ?_) (fun c5 => ?_)
  ·replace H := bk c5 H;refine aj <| ac ?_;show AR _ _ _ _ _ [0, 1] _;refine zm rfl <| za rfl <| ak <| bX (X := (List UInt8)) (fun y18 => ⟨[(0, S y18), (5, S a1)], [], []⟩) (fun y18 => eM F a1 y18 = some (r2, r3)) ?_ ?_
   ·refine aj ?_;obtain ⟨g6, H⟩ := aX H;obtain ⟨x7, e8, H⟩ := cc H;obtain ⟨g10, H⟩ := cE H;obtain ⟨x11, e12, H⟩ := cc H;refine ac ?_;show AR _ _ _ _ _ [0, 1, 2, 3, 4, 5, 6, 7] _;refine zm rfl <| zS rfl (bC al rfl rfl g6 e8) <| zS rfl (eo (a := x7) (b := 45) rfl rfl) <| zm rfl <| aN (l := []) 39 (B ((decide (x7 = 45)) || (decide (x11 = 43)))) (fun K => ?_) ?_
    ·rcases af (decide (x7 = 45)) with h9 | h9
     ·refine zF h9 rfl <| zF h9 rfl <| zF h9 rfl <| zS rfl (ax (av := .v _) rfl h9 rfl) ?_;exact K _ 3 _ (ap (fT h9)) rfl rfl
     ·refine zM h9 rfl <| zU h9 rfl (bC al rfl rfl (g10 (nf h9)) e12) <| zU h9 rfl (eo (a := x11) (b := 43) rfl rfl) <| zS rfl (aw (av := .v _) rfl h9 rfl) ?_;exact K _ 3 _ (ap (fU h9)) rfl rfl
    refine ak <| aG rfl (fun c13 => ?_) (fun c13 => ?_)
    ·replace H := bk c13 H;refine aj ?_;obtain ⟨g14, H⟩ := aX H;obtain ⟨x15, e16, H⟩ := cc H;refine ac ?_;show AR _ _ _ _ _ [0, 1, 2] _;refine zm rfl <| zS rfl (fW al rfl rfl g14 e16) <| za rfl <| ak <| aj <| ac ?_;show AR _ _ _ _ _ [0, 1, 2] _;refine zm rfl <| zS rfl (bx al rfl) <| zS rfl (cf rfl rfl) <| ak <| aG rfl (fun c17 => ?_) (fun c17 => ?_)
     ·replace H := bk c17 H;refine aj <| ac ?_;show AR _ _ _ _ _ [0, 1, 2] _;refine zS rfl (bm (a := .v _) bB rfl rfl) <| za rfl <| zS rfl (ay (av := .ifc _ _) rfl) <| ak <| aR ?_;obtain ⟨rfl, rfl⟩ := fD H;exact And.intro rfl (Exists.intro _ (Exists.intro _ ⟨bK rfl (.refl _) (.refl _), aL [] rfl, rfl, rfl⟩))
     ·replace H := bb c17 H;refine aM ?_;exact Exists.intro x15 ⟨H, aY [] (.cons (.refl _) (.cons (.refl _) (.nil _))) rfl⟩
    ·replace H := bb c13 H;refine aM ?_;exact Exists.intro a1 ⟨H, aY [] (.cons (.refl _) (.cons (.refl _) (.nil _))) rfl⟩
   rintro y18 H;replace H : eM F a1 y18 = some (r2, r3) := H
   unfold eM at H
   refine aj <| ac ?_;show AR _ _ _ _ _ [0] _;refine za rfl <| ak <| bX (X := Int) (fun y34 => ⟨[(5, S a1), (6, i64 y34)], [], []⟩) (fun y34 => eN a1 y34 = some (r2, r3)) ?_ ?_
   ·refine aj ?_;obtain ⟨g20, H⟩ := aX H;refine ac ?_;show AR _ _ _ _ _ [0, 1, 2, 3] _;refine zm rfl <| zX rfl (ie (bytes := 1) al aa aJ rfl g20) ?_;rintro _ _ ⟨t21, rfl, rfl⟩;refine zS rfl (aU aa rfl) <| zm rfl <| ak <| bi <| dC (X := Nat × Int × Int) (fun (n25, y22, y23) => ⟨[(5, S a1), (6, i64 y22), (47, slE Enc.byte y18 (some t21)), (48, i64 (y18.length : Int)), (49, i64 y23)], [], [.tok t21 5]⟩) (fun (n25, y22, y23) => fq a1 y18 n25 (y22, y23) = some (r2, r3)) (fun (n25, y22, y23) => n25) (F, 0, 0) H (aY [0] (.cons (.refl _) (.cons (.refl _) (.cons (.refl _) (.cons (.refl _) (.cons (.refl _) (.nil _)))))) rfl) ?_;rintro ⟨n25, y22, y23⟩ H;obtain ⟨n25, rfl, H⟩ := fg H;replace H : ft a1 y18 (fq a1 y18 n25) y22 y23 = some (r2, r3) := H
    unfold ft at H
    refine aj <| ac ?_;show AR _ _ _ _ _ [0] _;refine zS rfl (cf rfl rfl) <| ak <| aj <| aG rfl (fun c26 => ?_) (fun c26 => ?_)
    ·replace H := bk c26 H;refine aM <| aj <| bi <| aj ?_;obtain ⟨g27, H⟩ := aX H;obtain ⟨x28, e29, H⟩ := cc H;refine ac ?_;show AR _ _ _ _ _ [0, 1, 2] _;refine zS rfl (bq (E := Enc.byte) aa (by kernel_rfl) rfl rfl g27 e29) <| zS rfl (aI aJ rfl rfl) <| za rfl <| ak <| aj <| ac ?_;show AR _ _ _ _ _ [0, 1, 2] _;refine zm rfl <| zS rfl (oC (a := x28) (b := 48) rfl rfl) <| za rfl <| ak <| aj <| aj <| ac ?_;show AR _ _ _ _ _ [0, 1] _;refine zm rfl <| zS rfl (ii rfl rfl) <| ak <| aG rfl (fun c30 => ?_) (fun c30 => ?_)
     ·replace H := bk c30 H;refine aj <| ac ?_;show AR _ _ _ _ _ [0, 1, 2] _;refine zS rfl (bm (a := .v _) bB rfl rfl) <| za rfl <| zS rfl (ay (av := .ifc _ _) rfl) <| ak <| aR ?_;obtain ⟨rfl, rfl⟩ := fD H;exact And.intro rfl (Exists.intro _ (Exists.intro _ ⟨bK rfl (.refl _) (.refl _), aL [] rfl, rfl, rfl⟩))
     ·replace H := bb c30 H;refine aM ?_;obtain ⟨g31, H⟩ := aX H;obtain ⟨g32, H⟩ := aX H;refine ac ?_;show AR _ _ _ _ _ [0, 1, 2, 3, 4, 5] _;refine zm rfl <| zS rfl (g_mul rfl rfl g31) <| zm rfl <| zS rfl (oX (c := x28 - 48) (by kernel_rfl) aq rfl) <| zS rfl (eZ rfl rfl g32) <| za rfl <| ak ?_;obtain ⟨g33, H⟩ := aX H;refine ac ?_;show AR _ _ _ _ _ [0, 1] _;refine zS rfl (eZ rfl rfl g33) <| zm rfl <| ak ?_;exact Exists.intro (n25, (y22 * 10) + ((x28 - 48).toNat : Int), y23 + 1) ⟨H, Nat.lt_succ_self _, aY [0] (.cons (.refl _) (.cons (.refl _) (.cons (.refl _) (.cons (.refl _) (.cons (.refl _) (.nil _)))))) rfl⟩
    ·replace H := bb c26 H;refine dk ?_;exact Exists.intro y22 ⟨H, aY [] (.cons (.refl _) (.cons (.refl _) (.nil _))) rfl⟩
   rintro y34 H;replace H : eN a1 y34 = some (r2, r3) := H
   unfold eN at H
   refine bX (X := Int) (fun y41 => ⟨[(6, i64 y41)], [], []⟩) (fun y41 => eO y41 = some (r2, r3)) ?_ ?_
   ·refine aj ?_;obtain ⟨g36, H⟩ := aX H;obtain ⟨x37, e38, H⟩ := cc H;refine ac ?_;show AR _ _ _ _ _ [0, 1, 2] _;refine zm rfl <| zS rfl (bC al rfl rfl g36 e38) <| zS rfl (eo (a := x37) (b := 45) rfl rfl) <| ak <| aG rfl (fun c39 => ?_) (fun c39 => ?_)
    ·replace H := bk c39 H;obtain ⟨g40, H⟩ := aX H;refine ac ?_;show AR _ _ _ _ _ [0, 1, 2] _;refine zm rfl <| zS rfl (g_neg rfl g40) <| za rfl <| ak ?_;exact Exists.intro (0 - y34) ⟨H, aY [] (.cons (.refl _) (.nil _)) rfl⟩
    ·replace H := bb c39 H;refine aM ?_;exact Exists.intro y34 ⟨H, aY [] (.cons (.refl _) (.nil _)) rfl⟩
   rintro y41 H;replace H : eO y41 = some (r2, r3) := H
   unfold eO at H
   refine aj <| ac ?_;show AR _ _ _ _ _ [0, 1, 2] _;refine zm rfl <| za rfl <| za rfl <| ak <| aR ?_;obtain ⟨rfl, rfl⟩ := fD H;exact And.intro rfl (Exists.intro _ (Exists.intro _ ⟨bK rfl (.refl _) (.refl _), aL [] rfl, rfl, rfl⟩))
  ·replace H := bb c5 H;refine aM ?_;exact Exists.intro () ⟨H, aY [] (.cons (.refl _) (.nil _)) rfl⟩
 rintro _ H;replace H : gL F a1 = some (r2, r3) := H
 unfold gL at H
 refine aj ?_;obtain ⟨x44, x45, e46, H⟩ := dL H;refine ac ?_;show AR _ _ _ _ _ [0, 1, 2, 3, 4, 5, 6] _;refine zm rfl <| ao rfl rfl (aQ rfl rC rfl (lV F a1 10 0 x44 x45 e46) ?_);refine zS rfl (ag (av := .tup _) rfl) <| zS rfl (aF (av := .v _) rfl rfl) <| zS rfl (aF (av := fp _ _ _) rfl rfl) <| za rfl <| zS rfl (ay (av := fp _ _ _) rfl) <| ak <| aj <| ac ?_;show AR _ _ _ _ _ [0, 1, 2, 3] _;refine zm rfl <| zS rfl (ag (av := fp _ _ _) rfl) <| za rfl <| zS rfl (ay (av := fp _ _ _) rfl) <| ak <| aR ?_;obtain ⟨rfl, rfl⟩ := fD H;exact And.intro rfl (Exists.intro _ (Exists.intro _ ⟨bK rfl (.refl _) (.refl _), aL [] rfl, rfl, rfl⟩))
set_option maxRecDepth 100000 in
set_option maxHeartbeats 1000000 in
theorem ja (F : Nat) (a1 : List UInt8) (r2 : Int) (r3 : Int) (H : cT F a1 = some (r2, r3)) : ACalls Tryz.prog 47 [S a1] [] (Ret (.tup [i64 r2, eAny 129 r3]) []) := by
 unfold cT at H
 refine aA Tryz.func47 rfl rfl ?_;show AW _ _ 18 _ _ _;refine aj <| ac ?_;show AR _ _ _ _ _ [0, 1] _;refine za rfl <| za rfl <| ak <| aj ?_;obtain ⟨x4, x5, e6, H⟩ := dL H;refine ac ?_;show AR _ _ _ _ _ [0, 1, 2, 3, 4, 5, 6] _;refine zm rfl <| ao rfl rfl (aQ rfl en70_num rfl (qH F a1 x4 x5 e6) ?_);refine zS rfl (ag (av := .tup _) rfl) <| zS rfl (aF (av := .v _) rfl rfl) <| zS rfl (aF (av := fp _ _ _) rfl rfl) <| za rfl <| zS rfl (ay (av := fp _ _ _) rfl) <| ak <| aj <| aj <| ac ?_;show AR _ _ _ _ _ [0, 1] _;refine zS rfl (ag (av := fp _ _ _) rfl) <| zS rfl (ke df rfl rfl) <| ak <| aG rfl (fun c7 => ?_) (fun c7 => ?_)
 ·replace H := bk c7 H;refine aj ?_;obtain ⟨g8, H⟩ := aX H;obtain ⟨g9, H⟩ := aX H;refine ac ?_;show AR _ _ _ _ _ [0, 1, 2, 3, 4, 5] _;refine zm rfl <| zm rfl <| zS rfl (ag (av := fp _ _ _) rfl) <| ao rfl rfl (aQ rfl en71_num rfl (oY _ _ _ _ x5 (dV g8) (of_decide_eq_true g9)) ?_);refine za rfl <| zS rfl (ay (av := .ifc _ _) rfl) <| ak <| aR ?_;obtain ⟨rfl, rfl⟩ := fD H;exact And.intro rfl (Exists.intro _ (Exists.intro _ ⟨bK rfl (.refl _) (.ifc _ _), aL [] rfl, rfl, rfl⟩))
 ·replace H := bb c7 H;refine aM <| aj <| ac ?_;show AR _ _ _ _ _ [0, 1, 2] _;refine zm rfl <| za rfl <| za rfl <| ak <| aR ?_;obtain ⟨rfl, rfl⟩ := fD H;exact And.intro rfl (Exists.intro _ (Exists.intro _ ⟨bK rfl (.refl _) (.refl _), aL [] rfl, rfl, rfl⟩))
end Go.Proofs.YtgjkjkmmgdbcoaaGreatDoor
namespace Go.Pv
def fe (F : Nat) (a1 : List UInt8) (a3 : UInt8) : Option Int :=
lt (Go.Lib.indexByte a1 a3) fun x5 =>
some x5
def iB (F : Nat) (a1 : List UInt8) : Option (Int × Bool) :=
hP (cT F a1) fun x4 x5 =>
dT ((decide (x5 = 0)) && (decide ((a1.length : Int) ≤ 3))) (okI x4) <|
lt (Go.Lib.itoa x4) fun x10 =>
some (x4, (((decide (x5 = 0)) && (decide ((a1.length : Int) ≤ 3))) && (decide (x10 = a1))) && (decide (0 ≤ x4)))
def gh (y45 : Int) (y46 : Int) (y47 : Int) : Option (Int × Int × Int) :=
some (y45, y46, y47)
def gW (a1 : Int) (y39 : Int) (y40 : Int) (y41 : Int) : Option (Int × Int × Int) :=
grd (okDiv a1 100) <|
bif decide (y39 = a1 / 100) then
  gh y39 y40 y41
else
  gh 0 0 0
def ji (F : Nat) (a1 : Int) (x12 : List (List UInt8)) (rec24 : (Int × Int × Int × Int) → Option (Int × Int × Int)) (y20 : Int) (y21 : Int) (y22 : Int) (y23 : Int) : Option (Int × Int × Int) :=
bif decide (y20 < (x12.length : Int)) then
  grd (cA y20 x12.length) <|
  lt (at_ x12 y20) fun x28 =>
  hP (iB F x28) fun x30 x31 =>
  bif !x31 then
    some (0, 0, 0)
  else
    grd (cA y20 3) <|
    grd (cA y20 3) <|
    lt (List.set ([y21, y22, y23] : List Int) (Int.toNat y20) x30) fun x36 =>
    grd (okI (y20 + 1)) <|
    rec24 (y20 + 1, x36.getD 0 0, x36.getD 1 0, x36.getD 2 0)
else
  gW a1 y21 y22 y23
def jh (F : Nat) (a1 : Int) (x12 : List (List UInt8)) (n : Nat) : (Int × Int × Int × Int) → Option (Int × Int × Int) :=
  loop (fun rec x => ji F a1 x12 rec x.1 x.2.1 x.2.2.1 x.2.2.2) n
def mz (F : Nat) (a1 : Int) (a2 : List UInt8) : Option (Int × Int × Int) :=
grd (okS a2.length) <|
lt (Go.Lib.cut a2 ([32] : List UInt8)) fun x8 =>
grd (okS x8.1.length) <|
grd (decide (1 ≤ ([46] : List UInt8).length)) <|
lt (Go.Lib.split x8.1 ([46] : List UInt8)) fun x12 =>
dT (!(!decide ((x12.length : Int) = 3))) (okDiv a1 100) <|
bif (!decide ((x12.length : Int) = 3)) || (decide (a1 / 100 = 3)) then
  some (0, 0, 0)
else
  jh F a1 x12 F (0, 0, 0, 0)
def eP (F : Nat) (a1 : Bool) : Option (Res Unit) :=
bif !a1 then
  some (Res.pan 0)
else
  some (Res.ok ())
def hH {σ : Type} (F : Nat) (k : σ → (List UInt8) → Option (σ × Option Bool)) (rec7 : ((List UInt8) × σ) → Option (σ × Bool × (List UInt8))) (y4 : List UInt8) (y5 : σ) : Option (σ × Bool × (List UInt8)) :=
bnd (fe F y4 10) fun x9 =>
bif decide (x9 < 0) then
  bndk (eP F (decide ((y4.length : Int) < 512))) (fun p14 =>
    some (y5, true, [])) fun x12 =>
  some (y5, false, y4)
else
  js ((decide (x9 < 512)) && (decide (0 < x9))) (fe F y4 13) fun x17 =>
  dT ((decide (x9 < 512)) && (decide (0 < x9))) (okI (x9 - 1)) <|
  bndk (eP F (((decide (x9 < 512)) && (decide (0 < x9))) && (decide (x17 = x9 - 1)))) (fun p22 =>
    some (y5, true, [])) fun x20 =>
  grd (okI (x9 - 1)) <|
  grd (iW (x9 - 1) y4.length) <|
  lt (to_ y4 (x9 - 1)) fun x25 =>
  bnd (k y5 x25) fun x27 =>
  bndo x27.2 (some (x27.1, true, [])) fun x29 =>
  bif !x29 then
    some (x27.1, false, y4)
  else
    grd (okI (x9 + 1)) <|
    grd (iW (x9 + 1) y4.length) <|
    lt (gr y4 (x9 + 1)) fun x36 =>
    rec7 (x36, x27.1)
def hC {σ : Type} (F : Nat) (k : σ → (List UInt8) → Option (σ × Option Bool)) (n : Nat) : ((List UInt8) × σ) → Option (σ × Bool × (List UInt8)) :=
  loop (fun rec x => hH F k rec x.1 x.2) n
def ka (F : Nat) {σ : Type} (k : σ → (List UInt8) → Option (σ × Option Bool)) (st0 : σ) (a2 : List UInt8) : Option (σ × Bool × (List UInt8)) :=
hC F k F (a2, st0)
def la (F : Nat) (a1 : List UInt8) : Option Unit :=
some ()
def my (F : Nat) (a1 : Int) (a2 : List (List UInt8)) (a3 : Int) (a4 : Int) (a5 : Int) (a6 : Int) (a8 : List (Int × (List (List UInt8)) × Int × Int × Int)) (a11 : Int) : Option ((List (Int × (List (List UInt8)) × Int × Int × Int)) × Int) :=
grd (eW (a8.length + ([(a1, a2, (a3, a4, a5))] : List (Int × (List (List UInt8)) × Int × Int × Int)).length)) <|
lt (a8 ++ ([(a1, a2, (a3, a4, a5))] : List (Int × (List (List UInt8)) × Int × Int × Int))) fun x17 =>
some (x17, a6)
def iC (F : Nat) (y16 : Int) (y20 : List (Int × (List (List UInt8)) × Int × Int × Int)) (y22 : Int) (x24 : List UInt8) (x40 : Int) (y58 : List (List UInt8)) : Option ((Int × Int × (List (List UInt8)) × (List (Int × (List (List UInt8)) × Int × Int × Int)) × Int) × (Option Bool)) :=
grd (okI ((x24.length : Int) + 2)) <|
grd (okI (y16 + ((x24.length : Int) + 2))) <|
grd (cA 3 x24.length) <|
lt (at_ x24 3) fun x64 =>
bif decide (x64 = 32) then
  grd (iW 4 x24.length) <|
  lt (gr x24 4) fun x68 =>
  kB (mz F x40 x68) fun x70 x71 x72 =>
  hP (my F x40 y58 x70 x71 x72 (y16 + ((x24.length : Int) + 2)) y20 y22) fun x74 x75 =>
  some ((y16 + ((x24.length : Int) + 2), 0, [], x74, x75), some true)
else
  some ((y16 + ((x24.length : Int) + 2), x40, y58, y20, y22), some true)
def gM (F : Nat) (y16 : Int) (y17 : Int) (y18 : List (List UInt8)) (y20 : List (Int × (List (List UInt8)) × Int × Int × Int)) (y22 : Int) (x24 : List UInt8) : Option ((Int × Int × (List (List UInt8)) × (List (Int × (List (List UInt8)) × Int × Int × Int)) × Int) × (Option Bool)) :=
dT (decide (4 ≤ (x24.length : Int))) (cA 3 x24.length) <|
lt (at_ x24 3) fun x27 =>
dT ((decide (4 ≤ (x24.length : Int))) && (!(decide (x27 = 45)))) (cA 3 x24.length) <|
lt (at_ x24 3) fun x31 =>
bndk (eP F (((decide (4 ≤ (x24.length : Int))) && ((decide (x27 = 45)) || (decide (x31 = 32)))) && (decide ((y18.length : Int) < 100)))) (fun p36 =>
  some ((y16, y17, y18, y20, y22), none)) fun x34 =>
grd (iW 3 x24.length) <|
lt (to_ x24 3) fun x38 =>
hP (iB F x38) fun x40 x41 =>
bndk (eP F (((x41 && (decide (200 ≤ x40))) && (decide (x40 ≤ 599))) && ((decide ((y18.length : Int) = 0)) || (decide (x40 = y17))))) (fun p49 =>
  some ((y16, y17, y18, y20, y22), none)) fun x47 =>
grd (iW 4 x24.length) <|
lt (gr x24 4) fun x51 =>
grd (eW (y18.length + ([x51] : List (List UInt8)).length)) <|
lt (y18 ++ ([x51] : List (List UInt8))) fun x55 =>
iC F y16 y20 y22 x24 x40 x55
def kL (F : Nat) (a1 : List UInt8) (a4 : List (Int × (List (List UInt8)) × Int × Int × Int)) (a7 : Int) : Option ((List (Int × (List (List UInt8)) × Int × Int × Int)) × Int × Bool) :=
bnd (la F a1) fun _ =>
kB (ka F (fun s x => gM F s.1 s.2.1 s.2.2.1 s.2.2.2.1 s.2.2.2.2 x) (0, 0, [], a4, a7) a1) fun x79 x80 x81 =>
bif x80 then
  some (x79.2.2.2.1, x79.2.2.2.2, true)
else
  some (x79.2.2.2.1, x79.2.2.2.2, false)
def oh (F : Nat) : Option Unit :=
some ()
def iD (F : Nat) (a4 : Bool) (y21 : List UInt8) : Option ((List (Int × (List (List UInt8)) × Int × Int × Int)) × (List UInt8) × Bool) :=
kB (kL F y21 [] 0) fun x26 x27 x28 =>
bif x28 then
  some (x26, [], true)
else
grd (iW x27 y21.length) <|
lt (gr y21 x27) fun x35 =>
grd (okS x35.length) <|
some (x26, x35, a4)
def og (F : Nat) (a2 : List UInt8) (a4 : Bool) (a5 : List UInt8) : Option ((List (Int × (List (List UInt8)) × Int × Int × Int)) × (List UInt8) × Bool) :=
bif a4 then
  some ([], a2, a4)
else
  grd (eW (a2.length + a5.length)) <|
  lt (a2 ++ a5) fun x16 =>
  iD F a4 x16
end Go.Pv
namespace Go.Proofs.YtgjkjkmmgdbcoaaGreatDoor
open Go.RowKit Go.Av Go.Pv
theorem cS : ∀ (args : Array Value) (w : World), (callFunc 30 args).run Tryz.prog w = .ok (.enter 30 args) w := fun _ _ => by kernel_rfl
theorem rl : ∀ (args : Array Value) (w : World), (callFunc 44 args).run Tryz.prog w = .ok (.enter 44 args) w := fun _ _ => by kernel_rfl
theorem rh : ∀ (args : Array Value) (w : World), (callFunc 47 args).run Tryz.prog w = .ok (.enter 47 args) w := fun _ _ => by kernel_rfl
theorem nE : ∀ (args : Array Value) (w : World), (callFunc 54 args).run Tryz.prog w = .ok (.enter 54 args) w := fun _ _ => by kernel_rfl
theorem nD : ∀ (args : Array Value) (w : World), (callFunc 55 args).run Tryz.prog w = .ok (.enter 55 args) w := fun _ _ => by kernel_rfl
theorem rf : ∀ (args : Array Value) (w : World), (callFunc 56 args).run Tryz.prog w = .ok (.enter 56 args) w := fun _ _ => by kernel_rfl
theorem re : ∀ (args : Array Value) (w : World), (callFunc 76 args).run Tryz.prog w = .ok (.enter 76 args) w := fun _ _ => by kernel_rfl
theorem fC : ∀ (args : Array Value) (w : World), (callFunc 77 args).run Tryz.prog w = .ok (.enter 77 args) w := fun _ _ => by kernel_rfl
theorem nC : ∀ (args : Array Value) (w : World), (callFunc 78 args).run Tryz.prog w = .ok (.enter 78 args) w := fun _ _ => by kernel_rfl
theorem rd : ∀ (args : Array Value) (w : World), (callFunc 79 args).run Tryz.prog w = .ok (.enter 79 args) w := fun _ _ => by kernel_rfl
theorem ld : ∀ (args : Array Value) (w : World), (callFunc 91 args).run Tryz.prog w = .ok (.enter 91 args) w := fun _ _ => by kernel_rfl
theorem qe : ∀ (args : Array Value) (w : World), (callFunc 107 args).run Tryz.prog w = .ok (.enter 107 args) w := fun _ _ => by kernel_rfl
theorem qd : ∀ (args : Array Value) (w : World), (callFunc 108 args).run Tryz.prog w = .ok (.enter 108 args) w := fun _ _ => by kernel_rfl
theorem qc : ∀ (args : Array Value) (w : World), (callFunc 109 args).run Tryz.prog w = .ok (.enter 109 args) w := fun _ _ => by kernel_rfl
set_option maxRecDepth 100000 in
set_option maxHeartbeats 1000000 in
theorem fF (F : Nat) (a1 : List UInt8) (q2 : Option Nat) (a3 : UInt8) (r4 : Int) (H : fe F a1 a3 = some r4) : ACalls Tryz.prog 91 [slE Enc.byte a1 q2, u8 a3] [] (Ret (i64 r4) []) := by
 unfold fe at H
 refine aA Tryz.func91 rfl rfl ?_;show AW _ _ 8 _ _ _;refine aj <| ac ?_;show AR _ _ _ _ _ [0] _;refine za rfl <| ak <| aj ?_;obtain ⟨x5, e6, H⟩ := cc H;refine ac ?_;show AR _ _ _ _ _ [0, 1, 2, 3] _;refine zS rfl (ag (av := slE _ _ _) rfl) <| zm rfl <| zR rfl (show OpR _ _ _ _ (i64 x5) _ from by subst e6; exact mO ⟨Tryz.func113, by kernel_rfl, by kernel_rfl, by kernel_rfl, by kernel_rfl⟩ rfl rfl) <| za rfl <| ak <| aR ?_;obtain rfl := aC H;exact And.intro rfl (Exists.intro _ (Exists.intro _ ⟨aV rfl (.refl _), aL [] rfl, rfl, rfl⟩))
set_option maxRecDepth 100000 in
set_option maxHeartbeats 1000000 in
theorem kr (F : Nat) (a1 : List UInt8) (r2 : Int) (r3 : Bool) (H : iB F a1 = some (r2, r3)) : ACalls Tryz.prog 78 [S a1] [] (Ret (.tup [i64 r2, B r3]) []) := by
 unfold iB at H
 refine aA Tryz.func78 rfl rfl ?_;show AW _ _ 29 _ _ _;refine aj <| ac ?_;show AR _ _ _ _ _ [0, 1] _;refine za rfl <| za rfl <| ak <| aj ?_;obtain ⟨x4, x5, e6, H⟩ := dL H;refine ac ?_;show AR _ _ _ _ _ [0, 1, 2, 3, 4, 5, 6] _;refine zm rfl <| ao rfl rfl (aQ rfl rh rfl (ja F a1 x4 x5 e6) ?_);refine zS rfl (ag (av := .tup _) rfl) <| zS rfl (aF (av := .v _) rfl rfl) <| zS rfl (aF (av := eAny _ _) rfl rfl) <| za rfl <| zS rfl (ay (av := eAny _ _) rfl) <| ak <| aj ?_;obtain ⟨g9, H⟩ := cE H;obtain ⟨x10, e11, H⟩ := cc H;refine ac ?_;show AR _ _ _ _ _ [0, 1, 2, 3, 4, 5, 6, 7, 8, 9, 10, 11, 12, 13, 14, 15, 16, 17, 18, 19] _;refine zm rfl <| zS rfl (ag (av := eAny _ _) rfl) <| zS rfl (mn df rfl rfl) <| zm rfl <| aN (l := [8, 9, 10, 11, 12, 13, 14, 15, 16, 17, 18, 19]) 18 (B ((decide (x5 = 0)) && (decide ((a1.length : Int) ≤ 3)))) (fun K => ?_) ?_
 ·rcases af (decide (x5 = 0)) with h7 | h7
  ·refine zM h7 rfl <| zU h7 rfl (bx al rfl) <| zU h7 rfl (dU rfl rfl) <| zS rfl (ax (av := .v _) rfl h7 rfl) ?_;exact K _ 3 _ (ap (bZ h7)) rfl rfl
  ·refine zF h7 rfl <| zF h7 rfl <| zF h7 rfl <| zS rfl (aw (av := .v _) rfl h7 rfl) ?_;exact K _ 3 _ (ap (ca h7)) rfl rfl
 refine zm rfl <| aN (l := [14, 15, 16, 17, 18, 19]) 24 (B (((decide (x5 = 0)) && (decide ((a1.length : Int) ≤ 3))) && (decide (x10 = a1)))) (fun K => ?_) ?_
 ·rcases af ((decide (x5 = 0)) && (decide ((a1.length : Int) ≤ 3))) with h8 | h8
  ·refine zM h8 rfl <| zT h8 rfl (aQ rfl qd rfl (show ACalls _ _ _ [] (Ret (S x10) []) from by subst e11; exact oZ x4 (pF (g9 h8))) ?_);refine zM h8 rfl <| zU h8 rfl (iM rfl rfl) <| zS rfl (ax (av := .v _) rfl h8 rfl) ?_;exact K _ 4 _ (ap (bZ h8)) rfl rfl
  ·refine zF h8 rfl <| zF h8 rfl <| zF h8 rfl <| zF h8 rfl <| zS rfl (aw (av := .v _) rfl h8 rfl) ?_;exact K _ 4 _ (ap (ca h8)) rfl rfl
 refine zm rfl <| aN (l := [18, 19]) 28 (B ((((decide (x5 = 0)) && (decide ((a1.length : Int) ≤ 3))) && (decide (x10 = a1))) && (decide (0 ≤ x4)))) (fun K => ?_) ?_
 ·rcases af (((decide (x5 = 0)) && (decide ((a1.length : Int) ≤ 3))) && (decide (x10 = a1))) with h12 | h12
  ·refine zM h12 rfl <| zU h12 rfl (ff rfl rfl) <| zS rfl (ax (av := .v _) rfl h12 rfl) ?_;exact K _ 2 _ (ap (bZ h12)) rfl rfl
  ·refine zF h12 rfl <| zF h12 rfl <| zS rfl (aw (av := .v _) rfl h12 rfl) ?_;exact K _ 2 _ (ap (ca h12)) rfl rfl
 refine za rfl <| za rfl <| ak <| aR ?_;obtain ⟨rfl, rfl⟩ := fD H;exact And.intro rfl (Exists.intro _ (Exists.intro _ ⟨bK rfl (.refl _) (.refl _), aL [] rfl, rfl, rfl⟩))
abbrev _root_.Go.Av.cu := @Tryz.underlying39
set_option maxRecDepth 100000 in
set_option maxHeartbeats 1000000 in
theorem pJ (F : Nat) (a1 : Int) (a2 : List UInt8) (r3 : Int) (r4 : Int) (r5 : Int) (H : mz F a1 a2 = some (r3, r4, r5)) : ACalls Tryz.prog 79 [i64 a1, S a2] [] (Ret (.agg [i64 r3, i64 r4, i64 r5]) []) := by
 unfold mz at H
 refine aA Tryz.func79 rfl rfl ?_;show AW _ _ 57 _ _ _;refine aj <| ac ?_;show AR _ _ _ _ _ [0] _;refine zX rfl (bQ (zs := [.int .i64 0, .int .i64 0, .int .i64 0]) (by kernel_rfl)) ?_;rintro _ _ ⟨o6, rfl, rfl⟩;refine ak <| aj ?_;obtain ⟨g7, H⟩ := aX H;obtain ⟨x8, e9, H⟩ := cc H;refine ac ?_;show AR _ _ _ _ _ [0, 1, 2, 3, 4, 5, 6, 7, 8] _;refine zm rfl <| ao rfl rfl (aQ rfl rl rfl (show ACalls _ _ _ [] (Ret (.tup [S x8.1, S x8.2.1, B x8.2.2]) []) from by subst e9; exact oo a2 ([32] : List UInt8) (dV g7)) ?_);refine zS rfl (ag (av := .tup _) rfl) <| zS rfl (aF (av := .v _) rfl rfl) <| zS rfl (aF (av := .v _) rfl rfl) <| zS rfl (aF (av := .v _) rfl rfl) <| za rfl <| za rfl <| za rfl <| ak <| aj ?_;obtain ⟨g10, H⟩ := aX H;obtain ⟨g11, H⟩ := aX H;obtain ⟨x12, e13, H⟩ := cc H;refine ac ?_;show AR _ _ _ _ _ [0, 1, 2] _;refine zm rfl <| ao rfl rfl (aQ rfl qc rfl (show ACalls _ _ _ [] (Ret (slE Enc.str x12 none) []) from by subst e13; exact qX x8.1 ([46] : List UInt8) (dV g10) (of_decide_eq_true g11)) ?_);refine zS rfl (ay (av := slE _ _ _) rfl) <| ak <| aj <| aj ?_;obtain ⟨g15, H⟩ := cE H;refine ac ?_;show AR _ _ _ _ _ [0, 1, 2, 3, 4, 5, 6, 7] _;refine zS rfl (ag (av := slE _ _ _) rfl) <| zS rfl (aU az rfl) <| zS rfl (eE rfl rfl) <| zm rfl <| aN (l := []) 28 (B ((!decide ((x12.length : Int) = 3)) || (decide (a1 / 100 = 3)))) (fun K => ?_) ?_
 ·rcases af (!decide ((x12.length : Int) = 3)) with h14 | h14
  ·refine zF h14 rfl <| zF h14 rfl <| zF h14 rfl <| zS rfl (ax (av := .v _) rfl h14 rfl) ?_;exact K _ 3 _ (ap (fT h14)) rfl rfl
  ·refine zM h14 rfl <| zU h14 rfl (g_quo rfl rfl (g15 (nf h14))) <| zU h14 rfl (bN rfl rfl) <| zS rfl (aw (av := .v _) rfl h14 rfl) ?_;exact K _ 3 _ (ap (fU h14)) rfl rfl
 refine ak <| aG rfl (fun c16 => ?_) (fun c16 => ?_)
 ·replace H := bk c16 H;refine aj <| ac ?_;show AR _ _ _ _ _ [0, 1] _;refine zR rfl (bR (i := 0) (n := 3) cu rfl (by kernel_rfl) rfl rfl (ab rfl)) <| s0 rfl rfl (aP (i := 0) (vs := [i64 0, i64 0, i64 0]) (by kernel_rfl) rfl rfl (by simp [bw, slE]) rfl (ab rfl)) <| ak <| aR ?_;obtain ⟨rfl, rfl, rfl⟩ := gC H;exact And.intro rfl (Exists.intro _ (Exists.intro _ ⟨dD (eL rfl (dI (off := 0) (cs := [i64 0, i64 0, i64 0]) (n := 3) 0 cu rfl (by kernel_rfl) rfl rfl (ab rfl))), aL [] rfl, rfl, rfl⟩))
 ·replace H := bb c16 H;refine aM <| aj <| ac ?_;show AR _ _ _ _ _ [0] _;refine zX rfl (bQ (zs := [.int .i64 0, .int .i64 0, .int .i64 0]) (by kernel_rfl)) ?_;rintro _ _ ⟨o17, rfl, rfl⟩;refine ak <| bX (X := Int × Int × Int) (fun (y39, y40, y41) => ⟨[(0, i64 a1), (4, .pt o6 0), (9, .pt o17 0)], [], [.obj o17 [i64 y39, i64 y40, i64 y41], .obj o6 [i64 0, i64 0, i64 0]]⟩) (fun (y39, y40, y41) => gW a1 y39 y40 y41 = some (r3, r4, r5)) ?_ ?_
  ·refine aj <| ac ?_;show AR _ _ _ _ _ [0, 1, 2] _;refine zS rfl (ag (av := slE _ _ _) rfl) <| zS rfl (aU az rfl) <| zm rfl <| ak <| bi <| dC (X := Nat × Int × Int × Int × Int) (fun (n25, y20, y21, y22, y23) => ⟨[(0, i64 a1), (4, .pt o6 0), (8, slE Enc.str x12 none), (9, .pt o17 0), (31, i64 (x12.length : Int)), (32, i64 y20)], [], [.obj o17 [i64 y21, i64 y22, i64 y23], .obj o6 [i64 0, i64 0, i64 0]]⟩) (fun (n25, y20, y21, y22, y23) => jh F a1 x12 n25 (y20, y21, y22, y23) = some (r3, r4, r5)) (fun (n25, y20, y21, y22, y23) => n25) (F, 0, 0, 0, 0) H (aY [0, 0] (.cons (.refl _) (.cons (.refl _) (.cons (.refl _) (.cons (.refl _) (.cons (.refl _) (.cons (.refl _) (.nil _))))))) rfl) ?_;rintro ⟨n25, y20, y21, y22, y23⟩ H;obtain ⟨n25, rfl, H⟩ := fg H;replace H : ji F a1 x12 (jh F a1 x12 n25) y20 y21 y22 y23 = some (r3, r4, r5) := H
   unfold ji at H
   refine aj <| ac ?_;show AR _ _ _ _ _ [0] _;refine zS rfl (cf rfl rfl) <| ak <| aj <| aG rfl (fun c26 => ?_) (fun c26 => ?_)
   ·replace H := bk c26 H;refine aM <| aj <| bi <| aj <| ac ?_;show AR _ _ _ _ _ [0, 1] _;refine zm rfl <| za rfl <| ak <| aj ?_;obtain ⟨g27, H⟩ := aX H;obtain ⟨x28, e29, H⟩ := cc H;obtain ⟨x30, x31, e32, H⟩ := dL H;refine ac ?_;show AR _ _ _ _ _ [0, 1, 2, 3, 4, 5, 6, 7, 8, 9] _;refine zS rfl (ag (av := slE _ _ _) rfl) <| zm rfl <| zS rfl (bq (E := Enc.str) az (by kernel_rfl) rfl rfl g27 e29) <| zS rfl (aI al rfl rfl) <| ao rfl rfl (aQ rfl nC rfl (kr F x28 x30 x31 e32) ?_);refine zS rfl (ag (av := .tup _) rfl) <| zS rfl (aF (av := .v _) rfl rfl) <| zS rfl (aF (av := .v _) rfl rfl) <| za rfl <| za rfl <| ak <| aj <| aj <| ac ?_;show AR _ _ _ _ _ [0, 1] _;refine zm rfl <| zS rfl (dP rfl) <| ak <| aG rfl (fun c33 => ?_) (fun c33 => ?_)
    ·replace H := bk c33 H;refine aj <| ac ?_;show AR _ _ _ _ _ [0, 1] _;refine zR rfl (bR (i := 1) (n := 3) cu rfl (by kernel_rfl) rfl rfl (ab rfl)) <| s0 rfl rfl (aP (i := 1) (vs := [i64 0, i64 0, i64 0]) (by kernel_rfl) rfl rfl (by simp [bw, slE]) rfl (ab rfl)) <| ak <| aR ?_;obtain ⟨rfl, rfl, rfl⟩ := gC H;exact And.intro rfl (Exists.intro _ (Exists.intro _ ⟨dD (eL rfl (dI (off := 0) (cs := [i64 0, i64 0, i64 0]) (n := 3) 1 cu rfl (by kernel_rfl) rfl rfl (ab rfl))), aL [] rfl, rfl, rfl⟩))
    ·replace H := bb c33 H;refine aM ?_;obtain ⟨g34, H⟩ := aX H;obtain ⟨g35, H⟩ := aX H;obtain ⟨x36, e37, H⟩ := cc H;refine ac ?_;show AR _ _ _ _ _ [0, 1, 2, 3] _;refine zm rfl <| zm rfl <| zS rfl (jW cu (by kernel_rfl) rfl rfl g34) <| s0 rfl rfl (pd (pre := []) (post := []) (l := ([y21, y22, y23] : List Int)) (vs := [i64 (x36.getD 0 0), i64 (x36.getD 1 0), i64 (x36.getD 2 0)]) (n := 3) (k := 0) (by kernel_rfl) rfl rfl rfl rfl rfl g35 e37 rfl) <| ak ?_;obtain ⟨g38, H⟩ := aX H;refine ac ?_;show AR _ _ _ _ _ [0, 1] _;refine zS rfl (eZ rfl rfl g38) <| zm rfl <| ak ?_;exact Exists.intro (n25, y20 + 1, x36.getD 0 0, x36.getD 1 0, x36.getD 2 0) ⟨H, Nat.lt_succ_self _, aY [0, 0] (.cons (.refl _) (.cons (.refl _) (.cons (.refl _) (.cons (.refl _) (.cons (.refl _) (.cons (.refl _) (.nil _))))))) rfl⟩
   ·replace H := bb c26 H;refine dk ?_;exact Exists.intro (y21, y22, y23) ⟨H, aY [0, 0] (.cons (.refl _) (.cons (.refl _) (.cons (.refl _) (.nil _)))) rfl⟩
  rintro ⟨y39, y40, y41⟩ H;replace H : gW a1 y39 y40 y41 = some (r3, r4, r5) := H
  unfold gW at H
  refine bX (X := Int × Int × Int) (fun (y45, y46, y47) => ⟨[(4, .pt o6 0)], [], [.obj o6 [i64 y45, i64 y46, i64 y47]]⟩) (fun (y45, y46, y47) => gh y45 y46 y47 = some (r3, r4, r5)) ?_ ?_
  ·refine aj ?_;obtain ⟨g43, H⟩ := aX H;refine ac ?_;show AR _ _ _ _ _ [0, 1, 2, 3, 4] _;refine zS rfl (gV (Ar := 0) (k := 1) (m := 0) cu (by kernel_rfl) rfl rfl rfl (by decide)) <| zR rfl (ai (i := 0) aq rfl rfl rfl rfl) <| zm rfl <| zS rfl (g_quo rfl rfl g43) <| zS rfl (bN rfl rfl) <| ak <| aG rfl (fun c44 => ?_) (fun c44 => ?_)
   ·replace H := bk c44 H;refine ac ?_;show AR _ _ _ _ _ [0, 1] _;refine zR rfl (bR (i := 0) (n := 3) cu rfl (by kernel_rfl) rfl rfl (ab rfl)) <| s0 rfl rfl (aP (i := 1) (vs := [i64 y39, i64 y40, i64 y41]) (by kernel_rfl) rfl rfl (by simp [bw, slE]) rfl (ab rfl)) <| ak ?_;exact Exists.intro (y39, y40, y41) ⟨H, aY [1] (.cons (.refl _) (.nil _)) rfl⟩
   ·replace H := bb c44 H;refine aM ?_;exact Exists.intro (0, 0, 0) ⟨H, aY [1] (.cons (.refl _) (.nil _)) rfl⟩
  rintro ⟨y45, y46, y47⟩ H;replace H : gh y45 y46 y47 = some (r3, r4, r5) := H
  unfold gh at H
  refine aj <| ac ?_;show AR _ _ _ _ _ [0, 1] _;refine zR rfl (bR (i := 0) (n := 3) cu rfl (by kernel_rfl) rfl rfl (ab rfl)) <| s0 rfl rfl (aP (i := 0) (vs := [i64 y45, i64 y46, i64 y47]) (by kernel_rfl) rfl rfl (by simp [bw, slE]) rfl (ab rfl)) <| ak <| aR ?_;obtain ⟨rfl, rfl, rfl⟩ := gC H;exact And.intro rfl (Exists.intro _ (Exists.intro _ ⟨dD (eL rfl (dI (off := 0) (cs := [i64 y45, i64 y46, i64 y47]) (n := 3) 0 cu rfl (by kernel_rfl) rfl rfl (ab rfl))), aL [] rfl, rfl, rfl⟩))
set_option maxRecDepth 100000 in
set_option maxHeartbeats 1000000 in
theorem kq (F : Nat) (a1 : Bool) (rv : Res Unit) (H : eP F a1 = some rv) : ACalls Tryz.prog 77 [B a1] [] (PanOr (fun (r : Unit) => (Ret (.tup []) [])) (fun e => lC (.iface 87 (.agg #[]))) rv) := by
 unfold eP at H
 refine aA Tryz.func77 rfl rfl ?_;show AW _ _ 6 _ _ _;refine aj <| ac ?_;show AR _ _ _ _ _ [0, 1] _;refine zm rfl <| zS rfl (dP rfl) <| ak <| aG rfl (fun c2 => ?_) (fun c2 => ?_)
 ·replace H := bk c2 H;obtain rfl := aC H;refine ac ?_;show AR _ _ _ _ _ [0, 1, 2] _;refine zS rfl (fR (zs := []) (ps := []) (cs := []) (by kernel_rfl) rfl rfl) <| zS rfl (bm (a := .agg _) Tryz.underlying87 rfl rfl) <| ao rfl rfl (AO.panicT (c := lC (.iface 87 (.agg #[]))) rfl rfl ?_);exact And.intro rfl (Exists.intro [] ⟨cq _, rfl, rfl⟩)
 ·replace H := bb c2 H;refine aM ?_;obtain rfl := aC H;exact And.intro rfl (Exists.intro _ (Exists.intro _ ⟨bc rfl, aL [] rfl, rfl, rfl⟩))
theorem fc (F : Nat) (a1 : Bool) (H : eP F a1 = some (Res.ok ())) : ACalls Tryz.prog 77 [B a1] [] (Ret (.tup []) []) := kq F a1 _ H
theorem eR (F : Nat) (a1 : Bool) (e : Int) (H : eP F a1 = some (Res.pan e)) : ACalls Tryz.prog 77 [B a1] [] (fun ae A' => ae = .pan ((fun e => lC (.iface 87 (.agg #[]))) e) ∧ A' = []) := kq F a1 _ H
set_option maxRecDepth 100000 in
set_option maxHeartbeats 1000000 in
theorem nS (F : Nat) {σ τ : Type} (T : σ → τ → List Chunk) (Tp : σ → τ → List Chunk) (k : σ → (List UInt8) → Option (σ × Option Bool)) (o : Nat) (hY : ∀ (s : σ) (t : τ) (x : List UInt8) (rv : σ × Option Bool), k s x = some rv → fS Tryz.prog o [S x] (T s t) fun ae A' => ∃ t', ae = outc (lC (.iface 87 (.agg #[]))) rv.2 ∧ A' = outT T Tp rv t') (st0 : σ) (tt0 : τ) (o1 : Nat) (a2 : List UInt8) (rs : σ) (rb : Bool) (r3 : List UInt8) (H : ka F k st0 a2 = some (rs, rb, r3)) : ACalls Tryz.prog 107 [.yl o, .pt o1 0] ([.obj o1 [slE Enc.byte a2 none]] ++ T st0 tt0) (fun e A' => ∃ tz, (rb = false ∧ e = .ret (.tup []) ∧ A' = [.obj o1 [slE Enc.byte r3 none]] ++ T rs tz) ∨ (rb = true ∧ e = .pan (lC (.iface 87 (.agg #[]))) ∧ (A' = T rs tz ∨ A' = Tp rs tz))) := by
 unfold ka at H
 refine aA Tryz.func107 rfl rfl ?_;show AW _ _ 38 _ _ _;refine bi <| dC (X := Nat × (List UInt8) × σ × τ) (fun (n8, y4, y5, t6) => ⟨[(0, .yl o), (1, .pt o1 0)], [], ([.obj o1 [slE Enc.byte y4 none]] ++ T y5 t6)⟩) (fun (n8, y4, y5, t6) => hC F k n8 (y4, y5) = some (rs, rb, r3)) (fun (n8, y4, y5, t6) => n8) (F, a2, st0, tt0) H (WK.atT 1 [0] (.cons (.refl _) (.cons (.refl _) (.nil _))) rfl) ?_;rintro ⟨n8, y4, y5, t6⟩ H;obtain ⟨n8, rfl, H⟩ := fg H;replace H : hH F k (hC F k n8) y4 y5 = some (rs, rb, r3) := H
 unfold hH at H
 refine bi <| aj ?_;obtain ⟨x9, e10, H⟩ := dG H;refine ac ?_;show AR _ _ _ _ _ [0, 1, 2] _;refine zR rfl (ai (i := 0) aa rfl rfl rfl rfl) <| ao rfl rfl (aQ rfl ld rfl (fF F y4 none 10 x9 e10) ?_);refine za rfl <| ak <| aj <| aj <| ac ?_;show AR _ _ _ _ _ [0, 1] _;refine zm rfl <| zS rfl (cf rfl rfl) <| ak <| aG rfl (fun c11 => ?_) (fun c11 => ?_)
 ·replace H := bk c11 H;refine aj ?_
  rcases Or.symm (oI H) with ⟨p14, e13, H⟩ | ⟨x12, e13, H⟩
  ·obtain ⟨rfl, rfl, rfl⟩ := gC H;refine ac ?_;show AR _ _ _ _ _ [0, 1, 2, 3] _;refine zR rfl (ai (i := 0) aa rfl rfl rfl rfl) <| zS rfl (aU aa rfl) <| zS rfl (cf rfl rfl) <| ao rfl rfl (AO.callPan (c := lC (.iface 87 (.agg #[]))) [] rfl fC rfl (eR F (decide ((y4.length : Int) < 512)) p14 e13) rfl ?_);exact And.intro rfl (Exists.intro _ ⟨Sub.atT 1 [] rfl, t6, .inr ⟨rfl, rfl, .inl rfl⟩⟩)
  refine ac ?_;show AR _ _ _ _ _ [0, 1, 2, 3] _;refine zR rfl (ai (i := 0) aa rfl rfl rfl rfl) <| zS rfl (aU aa rfl) <| zS rfl (cf rfl rfl) <| ao rfl rfl (aQ rfl fC rfl (fc F (decide ((y4.length : Int) < 512)) e13) ?_);refine ak <| aR ?_;obtain ⟨rfl, rfl, rfl⟩ := gC H;exact And.intro rfl (Exists.intro _ (Exists.intro _ ⟨bc rfl, Sub.atT 1 [0] rfl, t6, .inl ⟨rfl, rfl, rfl⟩⟩))
 ·replace H := bb c11 H;refine aM <| aj ?_;obtain ⟨x17, e18, H⟩ := fE H;obtain ⟨g19, H⟩ := cE H
  rcases Or.symm (oI H) with ⟨p22, e21, H⟩ | ⟨x20, e21, H⟩
  ·obtain ⟨rfl, rfl, rfl⟩ := gC H;refine ac ?_;show AR _ _ _ _ _ [0, 1, 2, 3, 4, 5, 6, 7, 8, 9, 10, 11, 12, 13] _;refine zm rfl <| zS rfl (cf rfl rfl) <| zm rfl <| aN (l := [6, 7, 8, 9, 10, 11, 12, 13]) 17 (B ((decide (x9 < 512)) && (decide (0 < x9)))) (fun K => ?_) ?_
   ·rcases af (decide (x9 < 512)) with h15 | h15
    ·refine zM h15 rfl <| zU h15 rfl (ii rfl rfl) <| zS rfl (ax (av := .v _) rfl h15 rfl) ?_;exact K _ 2 _ (ap (bZ h15)) rfl rfl
    ·refine zF h15 rfl <| zF h15 rfl <| zS rfl (aw (av := .v _) rfl h15 rfl) ?_;exact K _ 2 _ (ap (ca h15)) rfl rfl
   refine zm rfl <| aN (l := [13]) 24 (B (((decide (x9 < 512)) && (decide (0 < x9))) && (decide (x17 = x9 - 1)))) (fun K => ?_) ?_
   ·rcases af ((decide (x9 < 512)) && (decide (0 < x9))) with h16 | h16
    ·refine zT h16 rfl (bM rfl rfl (ai (i := 0) aa rfl rfl rfl rfl) ?_);refine zT h16 rfl (aQ rfl ld rfl (fF F y4 none 13 x17 (e18 h16)) ?_);refine zM h16 rfl <| zU h16 rfl (kg rfl rfl (g19 h16)) <| zU h16 rfl (bN rfl rfl) <| zS rfl (ax (av := .v _) rfl h16 rfl) ?_;exact K _ 5 _ (ap (bZ h16)) rfl rfl
    ·refine zF h16 rfl <| zF h16 rfl <| zF h16 rfl <| zF h16 rfl <| zF h16 rfl <| zS rfl (aw (av := .v _) rfl h16 rfl) ?_;exact K _ 5 _ (ap (ca h16)) rfl rfl
   refine ao rfl rfl (AO.callPan (c := lC (.iface 87 (.agg #[]))) [] rfl fC rfl (eR F (((decide (x9 < 512)) && (decide (0 < x9))) && (decide (x17 = x9 - 1))) p22 e21) rfl ?_);exact And.intro rfl (Exists.intro _ ⟨Sub.atT 1 [] rfl, t6, .inr ⟨rfl, rfl, .inl rfl⟩⟩)
  refine ac ?_;show AR _ _ _ _ _ [0, 1, 2, 3, 4, 5, 6, 7, 8, 9, 10, 11, 12, 13] _;refine zm rfl <| zS rfl (cf rfl rfl) <| zm rfl <| aN (l := [6, 7, 8, 9, 10, 11, 12, 13]) 17 (B ((decide (x9 < 512)) && (decide (0 < x9)))) (fun K => ?_) ?_
  ·rcases af (decide (x9 < 512)) with h15 | h15
   ·refine zM h15 rfl <| zU h15 rfl (ii rfl rfl) <| zS rfl (ax (av := .v _) rfl h15 rfl) ?_;exact K _ 2 _ (ap (bZ h15)) rfl rfl
   ·refine zF h15 rfl <| zF h15 rfl <| zS rfl (aw (av := .v _) rfl h15 rfl) ?_;exact K _ 2 _ (ap (ca h15)) rfl rfl
  refine zm rfl <| aN (l := [13]) 24 (B (((decide (x9 < 512)) && (decide (0 < x9))) && (decide (x17 = x9 - 1)))) (fun K => ?_) ?_
  ·rcases af ((decide (x9 < 512)) && (decide (0 < x9))) with h16 | h16
   ·refine zT h16 rfl (bM rfl rfl (ai (i := 0) aa rfl rfl rfl rfl) ?_);refine zT h16 rfl (aQ rfl ld rfl (fF F y4 none 13 x17 (e18 h16)) ?_);refine zM h16 rfl <| zU h16 rfl (kg rfl rfl (g19 h16)) <| zU h16 rfl (bN rfl rfl) <| zS rfl (ax (av := .v _) rfl h16 rfl) ?_;exact K _ 5 _ (ap (bZ h16)) rfl rfl
   ·refine zF h16 rfl <| zF h16 rfl <| zF h16 rfl <| zF h16 rfl <| zF h16 rfl <| zS rfl (aw (av := .v _) rfl h16 rfl) ?_;exact K _ 5 _ (ap (ca h16)) rfl rfl
  refine ao rfl rfl (aQ rfl fC rfl (fc F (((decide (x9 < 512)) && (decide (0 < x9))) && (decide (x17 = x9 - 1))) e21) ?_);refine ak <| aj <| aj ?_;obtain ⟨g23, H⟩ := aX H;obtain ⟨g24, H⟩ := aX H;obtain ⟨x25, e26, H⟩ := cc H;obtain ⟨x27, e28, H⟩ := dG H
  rcases bndo_s H with ⟨h30, H⟩ | ⟨x29, h30, H⟩
  ·obtain ⟨rfl, rfl, rfl⟩ := gC H;refine ac ?_;show AR _ _ _ _ _ [0, 1, 2, 3, 4, 5, 6, 7] _;refine zS rfl (ag (av := .yl _) rfl) <| zR rfl (ai (i := 0) aa rfl rfl rfl rfl) <| zm rfl <| zS rfl (kg rfl rfl g23) <| zS rfl (ot (E := Enc.byte) aa (by kernel_rfl) rfl rfl g24 e26) <| zS rfl (cB aa aJ al rfl) <| ao rfl rfl (AO.yieldPan 1 rfl rfl rfl (hY _ _ _ _ e28) h30 fun t32 => ?_);exact And.intro rfl (Exists.intro _ ⟨Sub.atT 1 [] rfl, t32, .inr ⟨rfl, rfl, .inr rfl⟩⟩)
  refine ac ?_;show AR _ _ _ _ _ [0, 1, 2, 3, 4, 5, 6, 7] _;refine zS rfl (ag (av := .yl _) rfl) <| zR rfl (ai (i := 0) aa rfl rfl rfl rfl) <| zm rfl <| zS rfl (kg rfl rfl g23) <| zS rfl (ot (E := Enc.byte) aa (by kernel_rfl) rfl rfl g24 e26) <| zS rfl (cB aa aJ al rfl) <| ao rfl rfl (AO.yieldOk (b := x29) 1 rfl rfl rfl (hY _ _ _ _ e28) h30 fun t31 => ?_);show AR _ _ _ _ _ _ ⟨_, _, ([.obj o1 [slE Enc.byte y4 none]] ++ T x27.1 t31)⟩;refine zS rfl (dP rfl) <| ak <| aG rfl (fun c33 => ?_) (fun c33 => ?_)
  ·replace H := bk c33 H;refine aR ?_;obtain ⟨rfl, rfl, rfl⟩ := gC H;exact And.intro rfl (Exists.intro _ (Exists.intro _ ⟨bc rfl, Sub.atT 1 [0] rfl, t31, .inl ⟨rfl, rfl, rfl⟩⟩))
  ·replace H := bb c33 H;refine aM ?_;obtain ⟨g34, H⟩ := aX H;obtain ⟨g35, H⟩ := aX H;obtain ⟨x36, e37, H⟩ := cc H;refine ac ?_;show AR _ _ _ _ _ [0, 1, 2, 3, 4] _;refine zR rfl (ai (i := 0) aa rfl rfl rfl rfl) <| zm rfl <| zS rfl (eZ rfl rfl g34) <| zS rfl (cR (E := Enc.byte) aa (by kernel_rfl) rfl rfl g35 e37) <| s0 rfl rfl (ar (i := 0) (c := slE _ _ _) (by kernel_rfl) rfl rfl rfl rfl (ab rfl)) <| ak ?_;exact Exists.intro (n8, x36, x27.1, t31) ⟨H, Nat.lt_succ_self _, WK.atT 1 [0] (.cons (.refl _) (.cons (.refl _) (.nil _))) rfl⟩
set_option maxRecDepth 100000 in
set_option maxHeartbeats 1000000 in
theorem oK (F : Nat) (a1 : List UInt8) (H : la F a1 = some ()) : ACalls Tryz.prog 76 [slE Enc.byte a1 none] [] (fun e A' => ∃ ob1 : Nat, e = .ret (.fn (.func 107) [] [.pt ob1 0]) ∧ A' = [.obj ob1 [slE Enc.byte a1 none]]) := by
 unfold la at H
 refine aA Tryz.func76 rfl rfl ?_;show AW _ _ 4 _ _ _;refine aj <| ac ?_;show AR _ _ _ _ _ [0, 1] _;refine zX rfl (jH rfl (.inl rfl)) ?_;rintro _ _ ⟨o2, rfl, rfl⟩;refine za rfl <| ak <| aj <| ac ?_;show AR _ _ _ _ _ [0, 1] _;refine zS rfl (fN rfl rfl) <| zS rfl (ay (av := .fn _ _ _) rfl) <| ak <| aR ?_;exact And.intro rfl (Exists.intro _ (Exists.intro _ ⟨aV rfl (.refl _), aL [0] rfl, o2, rfl, rfl⟩))
abbrev _root_.Go.Av.bJ := @Tryz.underlying41
abbrev _root_.Go.Av.cg := @Tryz.underlying47
set_option maxRecDepth 100000 in
set_option maxHeartbeats 1000000 in
theorem pI (F : Nat) (a1 : Int) (a2 : List (List UInt8)) (a3 : Int) (a4 : Int) (a5 : Int) (a6 : Int) (o7 : Nat) (a8 : List (Int × (List (List UInt8)) × Int × Int × Int)) (t9 : Nat) (o10 : Nat) (a11 : Int) (r12 : List (Int × (List (List UInt8)) × Int × Int × Int)) (r14 : Int) (H : my F a1 a2 a3 a4 a5 a6 a8 a11 = some (r12, r14)) : ACalls Tryz.prog 56 [.agg [i64 a1, slE Enc.str a2 none, i64 a3, i64 a4, i64 a5], i64 a6, .pt o7 0, .pt o10 0] [.obj o7 [slE (aD Enc.int (aD (Enc.sl Enc.str) (aD Enc.int (aD Enc.int Enc.int)))) a8 (some t9)], .tok t9 41, .obj o10 [i64 a11]] (fun e A' => e = .ret (.tup []) ∧ ∃ t13, A' = [.obj o7 [slE (aD Enc.int (aD (Enc.sl Enc.str) (aD Enc.int (aD Enc.int Enc.int)))) r12 (some t13)], .tok t13 41, .obj o10 [i64 r14]]) := by
 unfold my at H
 refine aA Tryz.func56 rfl rfl ?_;show AW _ _ 11 _ _ _;refine aj <| ac ?_;show AR _ _ _ _ _ [0] _;refine zR rfl (cM rfl (.inr ⟨_, rfl⟩)) <| ak ?_;obtain ⟨g16, H⟩ := aX H;obtain ⟨x17, e18, H⟩ := cc H;refine ac ?_;show AR _ _ _ _ _ [0, 1, 2, 3, 4, 5, 6] _;refine zR rfl (ai (i := 0) cg rfl rfl rfl rfl) <| zS rfl (bt bJ rfl (n := 5) (by kernel_rfl) rfl (ab rfl)) <| zR rfl (nW (E := (aD Enc.int (aD (Enc.sl Enc.str) (aD Enc.int (aD Enc.int Enc.int))))) (bytes := 56) (zs := [.int .i64 0, .slice none 0 0, .int .i64 0, .int .i64 0, .int .i64 0]) (l := ([(a1, a2, (a3, a4, a5))] : List (Int × (List (List UInt8)) × Int × Int × Int))) cg (by kernel_rfl) (by kernel_rfl) rfl rfl rfl rfl rfl) <| zX rfl (dK (E := (aD Enc.int (aD (Enc.sl Enc.str) (aD Enc.int (aD Enc.int Enc.int))))) (bytes := 56) 1 cg cg rfl (by kernel_rfl) rfl rfl rfl rfl g16 e18) ?_;rintro _ _ ⟨t15, rfl, rfl⟩;refine zm rfl <| s0 rfl rfl (ar (i := 0) (c := slE _ _ _) (by kernel_rfl) rfl rfl rfl rfl (ab rfl)) <| s0 rfl rfl (ar (i := 2) (c := .v _) (by kernel_rfl) rfl rfl rfl rfl (ab rfl)) <| ak ?_;obtain ⟨rfl, rfl⟩ := fD H;exact And.intro rfl (Exists.intro _ (Exists.intro _ ⟨bc rfl, aL [0, 0, 0] rfl, rfl, t15, rfl⟩))
set_option maxRecDepth 100000 in
set_option maxHeartbeats 1000000 in
theorem mU (F : Nat) (a1 : List UInt8) (q2 : Option Nat) (o3 : Nat) (a4 : List (Int × (List (List UInt8)) × Int × Int × Int)) (t5 : Nat) (o6 : Nat) (a7 : Int) (r8 : List (Int × (List (List UInt8)) × Int × Int × Int)) (r10 : Int) (rb : Bool) (H : kL F a1 a4 a7 = some (r8, r10, rb)) : ACalls Tryz.prog 55 [slE Enc.byte a1 q2, .fn (.func 56) [] [.pt o3 0, .pt o6 0]] [.obj o3 [slE (aD Enc.int (aD (Enc.sl Enc.str) (aD Enc.int (aD Enc.int Enc.int)))) a4 (some t5)], .tok t5 41, .obj o6 [i64 a7]] (fun e A' => ∃ t9, A' = [.obj o3 [slE (aD Enc.int (aD (Enc.sl Enc.str) (aD Enc.int (aD Enc.int Enc.int)))) r8 (some t9)], .tok t9 41, .obj o6 [i64 r10]] ∧ ((rb = false ∧ e = .ret (.tup [])) ∨ (rb = true ∧ e = .pan (lC (.iface 87 (.agg #[])))))) := by
 unfold kL at H
 refine kX Tryz.func55 rfl rfl ?_;show AWV _ 87 _ _ _;refine AWV.seq <| AWV.of <| ac ?_;show AR _ _ _ _ _ [0] _;refine zR rfl (cM rfl (.inl rfl)) <| ak ?_;show AWV _ _ _ _ _;refine AWV.seq <| AWV.of <| ac ?_;show AR _ _ _ _ _ [0] _;refine zX rfl (bQ (zs := [.int .i64 0, .slice none 0 0, .int .i64 0, .int .i64 0, .int .i64 0]) (by kernel_rfl)) ?_;rintro _ _ ⟨o11, rfl, rfl⟩;refine ak ?_;show AWV _ _ _ _ _
 refine AWV.nil_objAt 0 1 1 9 rfl rfl fun t12 => ?_
 show AWV _ _ _ _ ⟨_, _, [.tok t12 9, .obj o11 [i64 0, slE Enc.str [] (some t12), i64 0, i64 0, i64 0], .obj o3 [slE (aD Enc.int (aD (Enc.sl Enc.str) (aD Enc.int (aD Enc.int Enc.int)))) a4 (some t5)], .tok t5 41, .obj o6 [i64 a7]]⟩;refine AWV.seq <| AWV.of <| ac ?_;show AR _ _ _ _ _ [0, 1] _;refine zX rfl (bQ (zs := [.int .i64 0]) (by kernel_rfl)) ?_;rintro _ _ ⟨o13, rfl, rfl⟩;refine s0 rfl rfl (ar (i := 0) (c := .v _) (by kernel_rfl) rfl rfl rfl rfl (ab rfl)) <| ak ?_;show AWV _ _ _ _ _;refine AWV.seq <| AWV.of ?_;obtain ⟨_, e14, H⟩ := dG H;refine ac ?_;show AR _ _ _ _ _ [0, 1] _;refine zS rfl (ag (av := slE _ _ _) rfl) <| ao rfl rfl (co [] rfl re rfl (kz (.cons (.tok _ _ _) (.nil)) (oK F a1 e14)) rfl (fun c A' h => by obtain ⟨_, h, _⟩ := h; cases h) ?_)
 rintro av A' ⟨o15, h, rfl⟩; cases h
 refine ak ?_;show AWV _ _ _ _ _;refine AWV.block ?_;obtain ⟨x79, x80, x81, e82, H⟩ := fV H;refine pn (α := List UInt8) (σ := Int × Int × (List (List UInt8)) × (List (Int × (List (List UInt8)) × Int × Int × Int)) × Int) (τ := Nat × Nat) (lC (.iface 87 (.agg #[]))) (fun x => [S x]) (fun s t => [.obj o13 [i64 s.1], .obj o11 [i64 s.2.1, slE Enc.str s.2.2.1 (some t.1), i64 0, i64 0, i64 0], .obj o3 [slE (aD Enc.int (aD (Enc.sl Enc.str) (aD Enc.int (aD Enc.int Enc.int)))) s.2.2.2.1 (some t.2)], .obj o6 [i64 s.2.2.2.2], .tok t.1 9, .tok t.2 41]) (fun _ => none) (fun s x => gM F s.1 s.2.1 s.2.2.1 s.2.2.2.1 s.2.2.2.2 x) (0, 0, [], a4, a7) (t12, t5) x79 x80 [0] [0, 1, 1, 2, 0, 0] rfl qe (fun _ => rfl) (by decide) rfl rfl rfl (fun o T' Tp hY => nS F T' Tp _ o hY _ _ o15 a1 x79 x80 x81 e82) ?_ ?_ ?_
 ·rintro l ⟨y16, y17, y18, y20, y22⟩ ⟨t19, t21⟩ x24 rv H;replace H : gM F y16 y17 y18 y20 y22 x24 = some rv := H
  unfold gM at H
  refine ⟨rfl, ?_⟩;show AW _ _ _ _ _ ⟨(11, S x24) :: _, [], _⟩;refine ac ?_;show AR _ _ _ _ _ [0] _;refine za rfl <| ak <| bi <| aj ?_;obtain ⟨g26, H⟩ := cE H;obtain ⟨x27, e28, H⟩ := cc H;obtain ⟨g30, H⟩ := cE H;obtain ⟨x31, e32, H⟩ := cc H
  rcases Or.symm (oI H) with ⟨p36, e35, H⟩ | ⟨x34, e35, H⟩
  ·obtain rfl := aC H;refine ac ?_;show AR _ _ _ _ _ [0, 1, 2, 3, 4, 5, 6, 7, 8, 9, 10, 11, 12, 13, 14, 15, 16, 17, 18, 19] _;refine zm rfl <| zS rfl (bx al rfl) <| zS rfl (ff rfl rfl) <| zm rfl <| aN (l := [13, 14, 15, 16, 17, 18, 19]) 24 (B ((decide (4 ≤ (x24.length : Int))) && ((decide (x27 = 45)) || (decide (x31 = 32))))) (fun K => ?_) ?_
   ·rcases af (decide (4 ≤ (x24.length : Int))) with h25 | h25
    ·refine zM h25 rfl <| zU h25 rfl (bC al rfl rfl (g26 h25) e28) <| zU h25 rfl (eo (a := x27) (b := 45) rfl rfl) <| zM h25 rfl <| aN (l := [12, 13, 14, 15, 16, 17, 18, 19]) 23 (B ((decide (x27 = 45)) || (decide (x31 = 32)))) (fun K => ?_) ?_
     ·rcases af (decide (x27 = 45)) with h29 | h29
      ·refine zF h29 rfl <| zF h29 rfl <| zF h29 rfl <| zU h25 rfl (ax (av := .v _) rfl h29 rfl) ?_;exact K _ 3 _ (ap (fT h29)) rfl rfl
      ·refine zM h29 rfl <| zU h29 rfl (bC al rfl rfl (g30 (dN h25 (nf h29))) e32) <| zU h29 rfl (eo (a := x31) (b := 32) rfl rfl) <| zU h25 rfl (aw (av := .v _) rfl h29 rfl) ?_;exact K _ 3 _ (ap (fU h29)) rfl rfl
     refine zS rfl (ax (av := .v _) rfl h25 rfl) ?_;exact K _ 5 _ (ap (bZ h25)) rfl rfl
    ·refine zF h25 rfl <| zF h25 rfl <| zF h25 rfl <| zF h25 rfl <| gU rfl rfl rfl rfl rfl <| gU rfl rfl rfl rfl rfl <| gU rfl rfl rfl rfl rfl <| zF h25 rfl <| zS rfl (aw (av := .v _) rfl h25 rfl) ?_;exact K _ 8 _ (ap (ca h25)) rfl rfl
   refine zm rfl <| aN (l := [19]) 30 (B (((decide (4 ≤ (x24.length : Int))) && ((decide (x27 = 45)) || (decide (x31 = 32)))) && (decide ((y18.length : Int) < 100)))) (fun K => ?_) ?_
   ·rcases af ((decide (4 ≤ (x24.length : Int))) && ((decide (x27 = 45)) || (decide (x31 = 32)))) with h33 | h33
    ·refine zU h33 rfl (ah (n := 1) (by kernel_rfl) rfl) <| zT h33 rfl (bM rfl rfl (ai (i := 1) az rfl rfl rfl rfl) ?_);refine zU h33 rfl (aU az rfl) <| zU h33 rfl (cf rfl rfl) <| zS rfl (ax (av := .v _) rfl h33 rfl) ?_;exact K _ 4 _ (ap (bZ h33)) rfl rfl
    ·refine zF h33 rfl <| zF h33 rfl <| zF h33 rfl <| zF h33 rfl <| zS rfl (aw (av := .v _) rfl h33 rfl) ?_;exact K _ 4 _ (ap (ca h33)) rfl rfl
   refine ao rfl rfl (AO.callPan (c := lC (.iface 87 (.agg #[]))) [] rfl fC rfl (eR F (((decide (4 ≤ (x24.length : Int))) && ((decide (x27 = 45)) || (decide (x31 = 32)))) && (decide ((y18.length : Int) < 100))) p36 e35) rfl ?_);exact ⟨rfl, rfl, rfl, (t19, t21), aL [0, 0, 0, 0, 0, 0] rfl⟩
  refine ac ?_;show AR _ _ _ _ _ [0, 1, 2, 3, 4, 5, 6, 7, 8, 9, 10, 11, 12, 13, 14, 15, 16, 17, 18, 19] _;refine zm rfl <| zS rfl (bx al rfl) <| zS rfl (ff rfl rfl) <| zm rfl <| aN (l := [13, 14, 15, 16, 17, 18, 19]) 24 (B ((decide (4 ≤ (x24.length : Int))) && ((decide (x27 = 45)) || (decide (x31 = 32))))) (fun K => ?_) ?_
  ·rcases af (decide (4 ≤ (x24.length : Int))) with h25 | h25
   ·refine zM h25 rfl <| zU h25 rfl (bC al rfl rfl (g26 h25) e28) <| zU h25 rfl (eo (a := x27) (b := 45) rfl rfl) <| zM h25 rfl <| aN (l := [12, 13, 14, 15, 16, 17, 18, 19]) 23 (B ((decide (x27 = 45)) || (decide (x31 = 32)))) (fun K => ?_) ?_
    ·rcases af (decide (x27 = 45)) with h29 | h29
     ·refine zF h29 rfl <| zF h29 rfl <| zF h29 rfl <| zU h25 rfl (ax (av := .v _) rfl h29 rfl) ?_;exact K _ 3 _ (ap (fT h29)) rfl rfl
     ·refine zM h29 rfl <| zU h29 rfl (bC al rfl rfl (g30 (dN h25 (nf h29))) e32) <| zU h29 rfl (eo (a := x31) (b := 32) rfl rfl) <| zU h25 rfl (aw (av := .v _) rfl h29 rfl) ?_;exact K _ 3 _ (ap (fU h29)) rfl rfl
    refine zS rfl (ax (av := .v _) rfl h25 rfl) ?_;exact K _ 5 _ (ap (bZ h25)) rfl rfl
   ·refine zF h25 rfl <| zF h25 rfl <| zF h25 rfl <| zF h25 rfl <| gU rfl rfl rfl rfl rfl <| gU rfl rfl rfl rfl rfl <| gU rfl rfl rfl rfl rfl <| zF h25 rfl <| zS rfl (aw (av := .v _) rfl h25 rfl) ?_;exact K _ 8 _ (ap (ca h25)) rfl rfl
  refine zm rfl <| aN (l := [19]) 30 (B (((decide (4 ≤ (x24.length : Int))) && ((decide (x27 = 45)) || (decide (x31 = 32)))) && (decide ((y18.length : Int) < 100)))) (fun K => ?_) ?_
  ·rcases af ((decide (4 ≤ (x24.length : Int))) && ((decide (x27 = 45)) || (decide (x31 = 32)))) with h33 | h33
   ·refine zU h33 rfl (ah (n := 1) (by kernel_rfl) rfl) <| zT h33 rfl (bM rfl rfl (ai (i := 1) az rfl rfl rfl rfl) ?_);refine zU h33 rfl (aU az rfl) <| zU h33 rfl (cf rfl rfl) <| zS rfl (ax (av := .v _) rfl h33 rfl) ?_;exact K _ 4 _ (ap (bZ h33)) rfl rfl
   ·refine zF h33 rfl <| zF h33 rfl <| zF h33 rfl <| zF h33 rfl <| zS rfl (aw (av := .v _) rfl h33 rfl) ?_;exact K _ 4 _ (ap (ca h33)) rfl rfl
  refine ao rfl rfl (aQ rfl fC rfl (fc F (((decide (4 ≤ (x24.length : Int))) && ((decide (x27 = 45)) || (decide (x31 = 32)))) && (decide ((y18.length : Int) < 100))) e35) ?_);refine ak <| aj ?_;obtain ⟨g37, H⟩ := aX H;obtain ⟨x38, e39, H⟩ := cc H;obtain ⟨x40, x41, e42, H⟩ := dL H;refine ac ?_;show AR _ _ _ _ _ [0, 1, 2, 3, 4, 5, 6, 7] _;refine zm rfl <| zS rfl (g_to_str al rfl rfl g37 e39) <| ao rfl rfl (aQ rfl nC rfl (kr F x38 x40 x41 e42) ?_);refine zS rfl (ag (av := .tup _) rfl) <| zS rfl (aF (av := .v _) rfl rfl) <| zS rfl (aF (av := .v _) rfl rfl) <| za rfl <| za rfl <| ak <| aj ?_
  rcases Or.symm (oI H) with ⟨p49, e48, H⟩ | ⟨x47, e48, H⟩
  ·obtain rfl := aC H;refine ac ?_;show AR _ _ _ _ _ [0, 1, 2, 3, 4, 5, 6, 7, 8, 9, 10, 11, 12, 13, 14, 15, 16, 17, 18, 19, 20, 21] _;refine zm rfl <| zm rfl <| aN (l := [5, 6, 7, 8, 9, 10, 11, 12, 13, 14, 15, 16, 17, 18, 19, 20, 21]) 42 (B (x41 && (decide (200 ≤ x40)))) (fun K => ?_) ?_
   ·rcases af x41 with h43 | h43
    ·refine zM h43 rfl <| zU h43 rfl (ff rfl rfl) <| zS rfl (ax (av := .v _) rfl h43 rfl) ?_;exact K _ 2 _ (ap (bZ h43)) rfl rfl
    ·refine zF h43 rfl <| zF h43 rfl <| zS rfl (aw (av := .v _) rfl h43 rfl) ?_;exact K _ 2 _ (ap (ca h43)) rfl rfl
   refine zm rfl <| aN (l := [9, 10, 11, 12, 13, 14, 15, 16, 17, 18, 19, 20, 21]) 46 (B ((x41 && (decide (200 ≤ x40))) && (decide (x40 ≤ 599)))) (fun K => ?_) ?_
   ·rcases af (x41 && (decide (200 ≤ x40))) with h44 | h44
    ·refine zM h44 rfl <| zU h44 rfl (dU rfl rfl) <| zS rfl (ax (av := .v _) rfl h44 rfl) ?_;exact K _ 2 _ (ap (bZ h44)) rfl rfl
    ·refine zF h44 rfl <| zF h44 rfl <| zS rfl (aw (av := .v _) rfl h44 rfl) ?_;exact K _ 2 _ (ap (ca h44)) rfl rfl
   refine zm rfl <| aN (l := [21]) 58 (B (((x41 && (decide (200 ≤ x40))) && (decide (x40 ≤ 599))) && ((decide ((y18.length : Int) = 0)) || (decide (x40 = y17))))) (fun K => ?_) ?_
   ·rcases af ((x41 && (decide (200 ≤ x40))) && (decide (x40 ≤ 599))) with h45 | h45
    ·refine zU h45 rfl (ah (n := 1) (by kernel_rfl) rfl) <| zT h45 rfl (bM rfl rfl (ai (i := 1) az rfl rfl rfl rfl) ?_);refine zU h45 rfl (aU az rfl) <| zU h45 rfl (bN rfl rfl) <| zM h45 rfl <| aN (l := [20, 21]) 57 (B ((decide ((y18.length : Int) = 0)) || (decide (x40 = y17)))) (fun K => ?_) ?_
     ·rcases af (decide ((y18.length : Int) = 0)) with h46 | h46
      ·refine zF h46 rfl <| zF h46 rfl <| zF h46 rfl <| zF h46 rfl <| zU h45 rfl (ax (av := .v _) rfl h46 rfl) ?_;exact K _ 4 _ (ap (fT h46)) rfl rfl
      ·refine zM h46 rfl <| zU h46 rfl (ah (n := 0) (by kernel_rfl) rfl) <| zT h46 rfl (bM rfl rfl (ai (i := 1) aq rfl rfl rfl rfl) ?_);refine zU h46 rfl (bN rfl rfl) <| zU h45 rfl (aw (av := .v _) rfl h46 rfl) ?_;exact K _ 4 _ (ap (fU h46)) rfl rfl
     refine zS rfl (ax (av := .v _) rfl h45 rfl) ?_;exact K _ 6 _ (ap (bZ h45)) rfl rfl
    ·refine zF h45 rfl <| zF h45 rfl <| zF h45 rfl <| zF h45 rfl <| zF h45 rfl <| gU rfl rfl rfl rfl rfl <| gU rfl rfl rfl rfl rfl <| gU rfl rfl rfl rfl rfl <| gU rfl rfl rfl rfl rfl <| zF h45 rfl <| zS rfl (aw (av := .v _) rfl h45 rfl) ?_;exact K _ 10 _ (ap (ca h45)) rfl rfl
   refine ao rfl rfl (AO.callPan (c := lC (.iface 87 (.agg #[]))) [] rfl fC rfl (eR F (((x41 && (decide (200 ≤ x40))) && (decide (x40 ≤ 599))) && ((decide ((y18.length : Int) = 0)) || (decide (x40 = y17)))) p49 e48) rfl ?_);exact ⟨rfl, rfl, rfl, (t19, t21), aL [0, 0, 0, 0, 0, 0] rfl⟩
  refine ac ?_;show AR _ _ _ _ _ [0, 1, 2, 3, 4, 5, 6, 7, 8, 9, 10, 11, 12, 13, 14, 15, 16, 17, 18, 19, 20, 21] _;refine zm rfl <| zm rfl <| aN (l := [5, 6, 7, 8, 9, 10, 11, 12, 13, 14, 15, 16, 17, 18, 19, 20, 21]) 42 (B (x41 && (decide (200 ≤ x40)))) (fun K => ?_) ?_
  ·rcases af x41 with h43 | h43
   ·refine zM h43 rfl <| zU h43 rfl (ff rfl rfl) <| zS rfl (ax (av := .v _) rfl h43 rfl) ?_;exact K _ 2 _ (ap (bZ h43)) rfl rfl
   ·refine zF h43 rfl <| zF h43 rfl <| zS rfl (aw (av := .v _) rfl h43 rfl) ?_;exact K _ 2 _ (ap (ca h43)) rfl rfl
  refine zm rfl <| aN (l := [9, 10, 11, 12, 13, 14, 15, 16, 17, 18, 19, 20, 21]) 46 (B ((x41 && (decide (200 ≤ x40))) && (decide (x40 ≤ 599)))) (fun K => ?_) ?_
  ·rcases af (x41 && (decide (200 ≤ x40))) with h44 | h44
   ·refine zM h44 rfl <| zU h44 rfl (dU rfl rfl) <| zS rfl (ax (av := .v _) rfl h44 rfl) ?_;exact K _ 2 _ (ap (bZ h44)) rfl rfl
   ·refine zF h44 rfl <| zF h44 rfl <| zS rfl (aw (av := .v _) rfl h44 rfl) ?_;exact K _ 2 _ (ap (ca h44)) rfl rfl
  refine zm rfl <| aN (l := [21]) 58 (B (((x41 && (decide (200 ≤ x40))) && (decide (x40 ≤ 599))) && ((decide ((y18.length : Int) = 0)) || (decide (x40 = y17))))) (fun K => ?_) ?_
  ·rcases af ((x41 && (decide (200 ≤ x40))) && (decide (x40 ≤ 599))) with h45 | h45
   ·refine zU h45 rfl (ah (n := 1) (by kernel_rfl) rfl) <| zT h45 rfl (bM rfl rfl (ai (i := 1) az rfl rfl rfl rfl) ?_);refine zU h45 rfl (aU az rfl) <| zU h45 rfl (bN rfl rfl) <| zM h45 rfl <| aN (l := [20, 21]) 57 (B ((decide ((y18.length : Int) = 0)) || (decide (x40 = y17)))) (fun K => ?_) ?_
    ·rcases af (decide ((y18.length : Int) = 0)) with h46 | h46
     ·refine zF h46 rfl <| zF h46 rfl <| zF h46 rfl <| zF h46 rfl <| zU h45 rfl (ax (av := .v _) rfl h46 rfl) ?_;exact K _ 4 _ (ap (fT h46)) rfl rfl
     ·refine zM h46 rfl <| zU h46 rfl (ah (n := 0) (by kernel_rfl) rfl) <| zT h46 rfl (bM rfl rfl (ai (i := 1) aq rfl rfl rfl rfl) ?_);refine zU h46 rfl (bN rfl rfl) <| zU h45 rfl (aw (av := .v _) rfl h46 rfl) ?_;exact K _ 4 _ (ap (fU h46)) rfl rfl
    refine zS rfl (ax (av := .v _) rfl h45 rfl) ?_;exact K _ 6 _ (ap (bZ h45)) rfl rfl
   ·refine zF h45 rfl <| zF h45 rfl <| zF h45 rfl <| zF h45 rfl <| zF h45 rfl <| gU rfl rfl rfl rfl rfl <| gU rfl rfl rfl rfl rfl <| gU rfl rfl rfl rfl rfl <| gU rfl rfl rfl rfl rfl <| zF h45 rfl <| zS rfl (aw (av := .v _) rfl h45 rfl) ?_;exact K _ 10 _ (ap (ca h45)) rfl rfl
  refine ao rfl rfl (aQ rfl fC rfl (fc F (((x41 && (decide (200 ≤ x40))) && (decide (x40 ≤ 599))) && ((decide ((y18.length : Int) = 0)) || (decide (x40 = y17)))) e48) ?_);refine ak <| bX (X := (List (List UInt8)) × Nat) (fun (y58, t59) => ⟨[(3, .cp [.fn (.func 56) [] [.pt o3 0, .pt o6 0]]), (4, .pt o11 0), (5, .pt o13 0), (6, S x24), (7, i64 x40)], [], [.obj o13 [i64 y16], .obj o11 [i64 x40, slE Enc.str y58 (some t59), i64 0, i64 0, i64 0], .obj o3 [slE (aD Enc.int (aD (Enc.sl Enc.str) (aD Enc.int (aD Enc.int Enc.int)))) y20 (some t21)], .obj o6 [i64 y22], .tok t59 9, .tok t21 41]⟩) (fun (y58, t59) => iC F y16 y20 y22 x24 x40 y58 = some rv) ?_ ?_
  ·obtain ⟨g50, H⟩ := aX H;obtain ⟨x51, e52, H⟩ := cc H;obtain ⟨g54, H⟩ := aX H;obtain ⟨x55, e56, H⟩ := cc H;refine lI (by kernel_rfl) (by kernel_rfl) ?_;show AI _ _ _ _ _ 11 (Array.replicate 11 false) _;refine zk 0 rfl (mv rfl) ?_;show AI _ _ _ _ _ _ #[true, false, false, false, false, false, false, false, false, false, false] _;refine zk 1 rfl (ah (n := 1) (by kernel_rfl) rfl) ?_;show AI _ _ _ _ _ _ #[true, true, false, false, false, false, false, false, false, false, false] _;refine zk 3 rfl (mv rfl) ?_;show AI _ _ _ _ _ _ #[true, true, false, true, false, false, false, false, false, false, false] _;refine zk 4 rfl (fW al rfl rfl g50 e52) ?_;show AI _ _ _ _ _ _ #[true, true, false, true, true, false, false, false, false, false, false] _;refine cj (i := 2) (j := 5) (by kernel_rfl) rfl rfl rfl rfl ?_ ?_
   ·refine aH rfl (ai (i := 1) az rfl rfl rfl rfl) ?_;show AI _ _ _ _ _ _ #[true, true, true, true, true, false, false, false, false, false, false] _;refine zk 7 rfl (ah (n := 0) (by kernel_rfl) rfl) ?_;show AI _ _ _ _ _ _ #[true, true, true, true, true, false, false, true, false, false, false] _;refine aE (i := 5) (by kernel_rfl) rfl rfl <| aH rfl (bU (E := Enc.str) (bytes := 16) (xs := [.tmp 64]) (l := ([x51] : List (List UInt8))) az (by kernel_rfl) rfl rfl (by decide) rfl rfl) ?_;show AI _ _ _ _ _ _ #[true, true, true, true, true, true, false, true, false, false, false] _;refine aE (i := 6) (by kernel_rfl) rfl rfl <| dc rfl (dK (E := Enc.str) (bytes := 16) 4 az az rfl (by kernel_rfl) rfl rfl rfl rfl g54 e56) ?_;rintro _ _ ⟨t53, rfl, rfl⟩;show AI _ _ _ _ _ _ #[true, true, true, true, true, true, true, true, false, false, false] _;refine aE (i := 8) (by kernel_rfl) rfl rfl <| bE (ar (i := 1) (c := .v _) (by kernel_rfl) rfl rfl rfl rfl (ab rfl)) ?_;show AI _ _ _ _ _ _ #[true, true, true, true, true, true, true, true, true, false, false] _;refine zk 9 rfl (ah (n := 1) (by kernel_rfl) rfl) ?_;show AI _ _ _ _ _ _ #[true, true, true, true, true, true, true, true, true, true, false] _;refine aE (i := 10) (by kernel_rfl) rfl rfl <| bE (ar (i := 1) (c := slE _ _ _) (by kernel_rfl) rfl rfl rfl rfl (ab rfl)) ?_
    show AI _ _ _ _ _ _ #[true, true, true, true, true, true, true, true, true, true, true] _;refine aZ rfl ?_;exact Exists.intro (x55, t53) ⟨H, aY [0, 0, 0, 0, 0, 0] (.cons (.refl _) (.cons (.refl _) (.cons (.refl _) (.cons (.refl _) (.cons (.refl _) (.nil _)))))) rfl⟩
   ·refine aH rfl (bU (E := Enc.str) (bytes := 16) (xs := [.tmp 64]) (l := ([x51] : List (List UInt8))) az (by kernel_rfl) rfl rfl (by decide) rfl rfl) ?_;show AI _ _ _ _ _ _ #[true, true, false, true, true, true, false, false, false, false, false] _;refine aE (i := 2) (by kernel_rfl) rfl rfl <| aH rfl (ai (i := 1) az rfl rfl rfl rfl) ?_;show AI _ _ _ _ _ _ #[true, true, true, true, true, true, false, false, false, false, false] _;refine zk 7 rfl (ah (n := 0) (by kernel_rfl) rfl) ?_;show AI _ _ _ _ _ _ #[true, true, true, true, true, true, false, true, false, false, false] _;refine aE (i := 6) (by kernel_rfl) rfl rfl <| dc rfl (dK (E := Enc.str) (bytes := 16) 4 az az rfl (by kernel_rfl) rfl rfl rfl rfl g54 e56) ?_;rintro _ _ ⟨t57, rfl, rfl⟩;show AI _ _ _ _ _ _ #[true, true, true, true, true, true, true, true, false, false, false] _;refine aE (i := 8) (by kernel_rfl) rfl rfl <| bE (ar (i := 1) (c := .v _) (by kernel_rfl) rfl rfl rfl rfl (ab rfl)) ?_;show AI _ _ _ _ _ _ #[true, true, true, true, true, true, true, true, true, false, false] _;refine zk 9 rfl (ah (n := 1) (by kernel_rfl) rfl) ?_;show AI _ _ _ _ _ _ #[true, true, true, true, true, true, true, true, true, true, false] _;refine aE (i := 10) (by kernel_rfl) rfl rfl <| bE (ar (i := 1) (c := slE _ _ _) (by kernel_rfl) rfl rfl rfl rfl (ab rfl)) ?_
    show AI _ _ _ _ _ _ #[true, true, true, true, true, true, true, true, true, true, true] _;refine aZ rfl ?_;exact Exists.intro (x55, t57) ⟨H, aY [0, 0, 0, 0, 0, 0] (.cons (.refl _) (.cons (.refl _) (.cons (.refl _) (.cons (.refl _) (.cons (.refl _) (.nil _)))))) rfl⟩
  rintro ⟨y58, t59⟩ H;replace H : iC F y16 y20 y22 x24 x40 y58 = some rv := H
  unfold iC at H
  refine aj ?_;obtain ⟨g61, H⟩ := aX H;obtain ⟨g62, H⟩ := aX H;refine ac ?_;show AR _ _ _ _ _ [0, 1, 2, 3, 4, 5] _;refine zR rfl (ai (i := 0) aq rfl rfl rfl rfl) <| zm rfl <| zS rfl (bx al rfl) <| zS rfl (eZ rfl rfl g61) <| zS rfl (eZ rfl rfl g62) <| s0 rfl rfl (ar (i := 0) (c := .v _) (by kernel_rfl) rfl rfl rfl rfl (ab rfl)) <| ak <| aj ?_;obtain ⟨g63, H⟩ := aX H;obtain ⟨x64, e65, H⟩ := cc H;refine ac ?_;show AR _ _ _ _ _ [0, 1, 2] _;refine zm rfl <| zS rfl (bC al rfl rfl g63 e65) <| zS rfl (eo (a := x64) (b := 32) rfl rfl) <| ak <| aG rfl (fun c66 => ?_) (fun c66 => ?_)
  ·replace H := bk c66 H;refine aj ?_;obtain ⟨g67, H⟩ := aX H;obtain ⟨x68, e69, H⟩ := cc H;obtain ⟨x70, x71, x72, e73, H⟩ := fV H;refine ac ?_;show AR _ _ _ _ _ [0, 1, 2, 3, 4, 5] _;refine zm rfl <| zm rfl <| zS rfl (fW al rfl rfl g67 e69) <| ao rfl rfl (aQ rfl rd rfl (pJ F x40 x68 x70 x71 x72 e73) ?_);refine zS rfl (ah (n := 2) (by kernel_rfl) rfl) <| s0 rfl rfl (aP (i := 1) (vs := [i64 x70, i64 x71, i64 x72]) (by kernel_rfl) rfl rfl (by simp [bw, slE]) rfl (ab rfl)) <| ak <| aj ?_;obtain ⟨x74, x75, e76, H⟩ := dL H;refine ac ?_;show AR _ _ _ _ _ [0, 1, 2, 3] _;refine zS rfl (aI Tryz.underlying90 rfl rfl) <| zR rfl (oa (cs := [i64 x40, slE Enc.str y58 (some t59), i64 x70, i64 x71, i64 x72]) (bR (i := 1) (n := 5) bJ rfl (by kernel_rfl) rfl rfl (ab rfl)) (.cons (.refl _) (.cons (.tok _ _ _) (.cons (.refl _) (.cons (.refl _) (.cons (.refl _) (.nil))))))) <| zR rfl (ai (i := 0) aq rfl rfl rfl rfl) <| ao rfl rfl (AO.callFAt [2, 4, 2] rfl (.inl rfl) rf rfl (pI F x40 y58 x70 x71 x72 (y16 + ((x24.length : Int) + 2)) o3 y20 t21 o6 y22 x74 x75 e76) rfl (fun c A' h => by cases h.1) ?_)
   rintro av A' ⟨h, t77, rfl⟩; cases h
   refine ak <| ac ?_;show AR _ _ _ _ _ [0, 1] _;refine zS rfl (fR (zs := [.int .i64 0, .slice none 0 0, .int .i64 0, .int .i64 0, .int .i64 0]) (ps := [(0, 1), (1, 1), (2, 3)]) (cs := [i64 0, gu, i64 0, i64 0, i64 0]) (by kernel_rfl) rfl rfl) <| s0 rfl rfl (aP (i := 4) (vs := [i64 0, gu, i64 0, i64 0, i64 0]) (by kernel_rfl) rfl rfl (by simp [bw, slE]) rfl (ab rfl)) ?_
   refine AR.nil_objAt 4 1 1 9 rfl rfl fun t78 => ?_
   show AR _ _ _ _ _ _ ⟨_, _, [.tok t78 9, .obj o3 [slE (aD Enc.int (aD (Enc.sl Enc.str) (aD Enc.int (aD Enc.int Enc.int)))) x74 (some t77)], .tok t77 41, .obj o6 [i64 x75], .obj o13 [i64 (y16 + ((x24.length : Int) + 2))], .obj o11 [i64 0, slE Enc.str [] (some t78), i64 0, i64 0, i64 0], .tok t59 9]⟩;refine ak ?_;obtain rfl := aC H;exact ⟨rfl, rfl, (t78, t77), aL [4, 4, 1, 2, 0, 0] rfl⟩
  ·replace H := bb c66 H;refine aM ?_;obtain rfl := aC H;exact ⟨rfl, rfl, (t59, t21), aL [0, 0, 0, 0, 0, 0] rfl⟩
 ·rintro h89 o88 ⟨t86, t87⟩;replace H := bk h89 H;obtain ⟨rfl, rfl, rfl⟩ := gC H;exact Exists.intro _ (And.intro (Unmark.at 0 rfl (.nil _)) (Exists.intro _ ⟨aL [2, 4, 2] rfl, t87, rfl, .inr ⟨rfl, rfl⟩⟩))
 rintro h89 o85 ⟨t83, t84⟩;replace H := bb h89 H;obtain ⟨rfl, rfl, rfl⟩ := gC H;exact Exists.intro _ (And.intro (Unmark.at 0 rfl (.nil _)) (Exists.intro _ (Exists.intro _ ⟨bc rfl, aL [3, 5, 3] rfl, t84, rfl, .inl ⟨rfl, rfl⟩⟩)))
theorem nT (F : Nat) (a1 : List UInt8) (q2 : Option Nat) (o3 : Nat) (a4 : List (Int × (List (List UInt8)) × Int × Int × Int)) (t5 : Nat) (o6 : Nat) (a7 : Int) (r8 : List (Int × (List (List UInt8)) × Int × Int × Int)) (r10 : Int) (H : kL F a1 a4 a7 = some (r8, r10, false)) : ACalls Tryz.prog 55 [slE Enc.byte a1 q2, .fn (.func 56) [] [.pt o3 0, .pt o6 0]] [.obj o3 [slE (aD Enc.int (aD (Enc.sl Enc.str) (aD Enc.int (aD Enc.int Enc.int)))) a4 (some t5)], .tok t5 41, .obj o6 [i64 a7]] (fun e A' => e = .ret (.tup []) ∧ ∃ t9, A' = [.obj o3 [slE (aD Enc.int (aD (Enc.sl Enc.str) (aD Enc.int (aD Enc.int Enc.int)))) r8 (some t9)], .tok t9 41, .obj o6 [i64 r10]]) :=
 (mU F a1 q2 o3 a4 t5 o6 a7 r8 r10 false H).mono fun e A' h => by obtain ⟨t9, h, ⟨h1, h2⟩ | ⟨h1, h2⟩⟩ := h <;> first | exact ⟨h2, t9, h⟩ | cases h1
theorem mI (F : Nat) (a1 : List UInt8) (q2 : Option Nat) (o3 : Nat) (a4 : List (Int × (List (List UInt8)) × Int × Int × Int)) (t5 : Nat) (o6 : Nat) (a7 : Int) (r8 : List (Int × (List (List UInt8)) × Int × Int × Int)) (r10 : Int) (H : kL F a1 a4 a7 = some (r8, r10, true)) : ACalls Tryz.prog 55 [slE Enc.byte a1 q2, .fn (.func 56) [] [.pt o3 0, .pt o6 0]] [.obj o3 [slE (aD Enc.int (aD (Enc.sl Enc.str) (aD Enc.int (aD Enc.int Enc.int)))) a4 (some t5)], .tok t5 41, .obj o6 [i64 a7]] (fun e A' => e = .pan (lC (.iface 87 (.agg #[]))) ∧ ∃ t9, A' = [.obj o3 [slE (aD Enc.int (aD (Enc.sl Enc.str) (aD Enc.int (aD Enc.int Enc.int)))) r8 (some t9)], .tok t9 41, .obj o6 [i64 r10]]) :=
 (mU F a1 q2 o3 a4 t5 o6 a7 r8 r10 true H).mono fun e A' h => by obtain ⟨t9, h, ⟨h1, h2⟩ | ⟨h1, h2⟩⟩ := h <;> first | exact ⟨h2, t9, h⟩ | cases h1
set_option maxRecDepth 100000 in
set_option maxHeartbeats 1000000 in
theorem qJ (F : Nat) (H : oh F = some ()) : ACalls Tryz.prog 35 [] [] (fun e A' => ∃ ob1 : Nat, e = .ret (.pt ob1 0) ∧ A' = [.obj ob1 [gu, B false]]) := by
 unfold oh at H
 refine aA Tryz.func35 rfl rfl ?_;show AW _ _ 3 _ _ _;refine aj <| ac ?_;show AR _ _ _ _ _ [0] _;refine za rfl <| ak <| aj <| ac ?_;show AR _ _ _ _ _ [0, 1, 2] _;refine zS rfl (fR (zs := [.slice none 0 0, .bool false]) (ps := [(0, 1), (1, 1)]) (cs := [gu, B false]) (by kernel_rfl) rfl rfl) <| zX rfl (jH rfl (.inr ⟨_, rfl⟩)) ?_;rintro _ _ ⟨o1, rfl, rfl⟩;refine zS rfl (ay (av := .pt _ _) rfl) <| ak <| aR ?_;exact And.intro rfl (Exists.intro _ (Exists.intro _ ⟨aV rfl (.refl _), aL [0] rfl, o1, rfl, rfl⟩))
abbrev _root_.Go.Av.aK := @Tryz.underlying58
set_option maxRecDepth 100000 in
set_option maxHeartbeats 1000000 in
theorem qI (F : Nat) (o1 : Nat) (a2 : List UInt8) (t3 : Nat) (a4 : Bool) (a5 : List UInt8) (q6 : Option Nat) (r7 : List (Int × (List (List UInt8)) × Int × Int × Int)) (r8 : List UInt8) (r10 : Bool) (H : og F a2 a4 a5 = some (r7, r8, r10)) : ACalls Tryz.prog 36 [.pt o1 0, slE Enc.byte a5 q6] [.obj o1 [slE Enc.byte a2 (some t3), B a4], .tok t3 5] (fun e A' => e = .ret (slE (aD Enc.int (aD (Enc.sl Enc.str) (aD Enc.int (aD Enc.int Enc.int)))) r7 none) ∧ ∃ t9, A' = [.obj o1 [slE Enc.byte r8 (some t9), B r10], .tok t9 5]) := by
 unfold og at H
 refine lK [4] Tryz.func36 rfl rfl ?_;show AW _ _ 31 _ _ _;refine aj <| ac ?_;show AR _ _ _ _ _ [0, 1] _;refine zX rfl (jH rfl (.inl rfl)) ?_;rintro _ _ ⟨o11, rfl, rfl⟩;refine zX rfl (bQ (zs := [.slice none 0 0]) (by kernel_rfl)) ?_;rintro _ _ ⟨o12, rfl, rfl⟩;refine ak <| aj <| aj <| ac ?_;show AR _ _ _ _ _ [0, 1, 2, 3, 4, 5, 6, 7] _;refine zR rfl (ai (i := 1) aK rfl rfl rfl rfl) <| zS rfl (iz aK rfl rfl) <| zm rfl <| zT rfl rfl (bM rfl rfl (ai (i := 1) aK rfl rfl rfl rfl) ?_);refine zU rfl rfl (am rfl) <| zU rfl rfl (ah (n := 1) (by kernel_rfl) rfl) <| zT rfl rfl (bM rfl rfl (ai (i := 2) Tryz.underlying4 rfl rfl rfl rfl) ?_);refine zS rfl (aw (av := .v _) rfl rfl rfl) <| ak <| aG rfl (fun c13 => ?_) (fun c13 => ?_)
 ·replace H := bk c13 H;refine aj <| ac ?_;show AR _ _ _ _ _ [0] _;refine s0 rfl rfl (ar (i := 0) (c := .v _) (by kernel_rfl) rfl rfl rfl rfl (ab rfl)) <| ak <| aR ?_;obtain ⟨rfl, rfl, rfl⟩ := gC H;exact Exists.intro _ (Exists.intro _ ⟨eL rfl ((CellV.one (c := .v _) 0 cg rfl rfl rfl rfl).oneW (.nil _)), aL [2, 2] rfl, rfl, t3, rfl⟩)
 ·replace H := bb c13 H;refine aM <| bX (X := (List UInt8) × Nat) (fun (y21, t22) => ⟨[(2, .pt o11 0), (4, .pt o12 0)], [], [.obj o12 [gu], .obj o11 [.pt o1 0], .obj o1 [slE Enc.byte y21 (some t22), B a4], .tok t22 5]⟩) (fun (y21, t22) => iD F a4 y21 = some (r7, r8, r10)) ?_ ?_
  ·obtain ⟨g15, H⟩ := aX H;obtain ⟨x16, e17, H⟩ := cc H;refine bn (by kernel_rfl) ?_;show AI _ _ _ _ _ 10 (Array.replicate 10 false) _;refine aB (i := 5) rfl rfl (by kernel_rfl) (by kernel_rfl) (by kernel_rfl) (fun _ _ h => ce rfl h) (ag (av := slE _ _ _) rfl) ?_;show AI _ _ _ _ _ _ #[false, false, false, false, false, true, false, false, false, false] _;refine cj (i := 0) (j := 1) (by kernel_rfl) rfl rfl rfl rfl ?_ ?_
   ·refine aH rfl (ai (i := 1) aK rfl rfl rfl rfl) ?_;show AI _ _ _ _ _ _ #[true, false, false, false, false, true, false, false, false, false] _;refine aE (i := 1) (by kernel_rfl) rfl rfl <| aH rfl (ai (i := 1) aK rfl rfl rfl rfl) ?_;show AI _ _ _ _ _ _ #[true, true, false, false, false, true, false, false, false, false] _;refine aB (i := 2) rfl rfl (by kernel_rfl) (by kernel_rfl) (by kernel_rfl) (fun _ _ h => ce rfl h) (am rfl) ?_;show AI _ _ _ _ _ _ #[true, true, true, false, false, true, false, false, false, false] _;refine aB (i := 3) rfl rfl (by kernel_rfl) (by kernel_rfl) (by kernel_rfl) (fun _ _ h => ce rfl h) (ah (n := 0) (by kernel_rfl) rfl) ?_;show AI _ _ _ _ _ _ #[true, true, true, true, false, true, false, false, false, false] _;refine aE (i := 4) (by kernel_rfl) rfl rfl <| aH rfl (ai (i := 2) aa rfl rfl rfl rfl) ?_;show AI _ _ _ _ _ _ #[true, true, true, true, true, true, false, false, false, false] _;refine aE (i := 6) (by kernel_rfl) rfl rfl <| dc rfl (dK (E := Enc.byte) (bytes := 1) 3 aa aa rfl (by kernel_rfl) rfl rfl rfl rfl g15 e17) ?_;rintro _ _ ⟨t14, rfl, rfl⟩;show AI _ _ _ _ _ _ #[true, true, true, true, true, true, true, false, false, false] _;refine aB (i := 7) rfl rfl (by kernel_rfl) (by kernel_rfl) (by kernel_rfl) (fun _ _ h => ce rfl h) (am rfl) ?_
    show AI _ _ _ _ _ _ #[true, true, true, true, true, true, true, true, false, false] _;refine aB (i := 8) rfl rfl (by kernel_rfl) (by kernel_rfl) (by kernel_rfl) (fun _ _ h => ce rfl h) (ah (n := 0) (by kernel_rfl) rfl) ?_;show AI _ _ _ _ _ _ #[true, true, true, true, true, true, true, true, true, false] _;refine aE (i := 9) (by kernel_rfl) rfl rfl <| bE (ar (i := 2) (c := slE _ _ _) (by kernel_rfl) rfl rfl rfl rfl (ab rfl)) ?_;show AI _ _ _ _ _ _ #[true, true, true, true, true, true, true, true, true, true] _;refine aZ rfl ?_;exact Exists.intro (x16, t14) ⟨H, aY [0, 0, 0, 0] (.cons (.refl _) (.cons (.refl _) (.nil _))) rfl⟩
   ·refine aH rfl (ai (i := 1) aK rfl rfl rfl rfl) ?_;show AI _ _ _ _ _ _ #[false, true, false, false, false, true, false, false, false, false] _;refine aB (i := 2) rfl rfl (by kernel_rfl) (by kernel_rfl) (by kernel_rfl) (fun _ _ h => ce rfl h) (am rfl) ?_;show AI _ _ _ _ _ _ #[false, true, true, false, false, true, false, false, false, false] _;refine aB (i := 3) rfl rfl (by kernel_rfl) (by kernel_rfl) (by kernel_rfl) (fun _ _ h => ce rfl h) (ah (n := 0) (by kernel_rfl) rfl) ?_;show AI _ _ _ _ _ _ #[false, true, true, true, false, true, false, false, false, false] _;refine cj (i := 0) (j := 4) (by kernel_rfl) rfl rfl rfl rfl ?_ ?_
    ·refine aH rfl (ai (i := 1) aK rfl rfl rfl rfl) ?_;show AI _ _ _ _ _ _ #[true, true, true, true, false, true, false, false, false, false] _;refine aE (i := 4) (by kernel_rfl) rfl rfl <| aH rfl (ai (i := 2) aa rfl rfl rfl rfl) ?_;show AI _ _ _ _ _ _ #[true, true, true, true, true, true, false, false, false, false] _;refine aE (i := 6) (by kernel_rfl) rfl rfl <| dc rfl (dK (E := Enc.byte) (bytes := 1) 3 aa aa rfl (by kernel_rfl) rfl rfl rfl rfl g15 e17) ?_;rintro _ _ ⟨t18, rfl, rfl⟩;show AI _ _ _ _ _ _ #[true, true, true, true, true, true, true, false, false, false] _;refine aB (i := 7) rfl rfl (by kernel_rfl) (by kernel_rfl) (by kernel_rfl) (fun _ _ h => ce rfl h) (am rfl) ?_;show AI _ _ _ _ _ _ #[true, true, true, true, true, true, true, true, false, false] _;refine aB (i := 8) rfl rfl (by kernel_rfl) (by kernel_rfl) (by kernel_rfl) (fun _ _ h => ce rfl h) (ah (n := 0) (by kernel_rfl) rfl) ?_;show AI _ _ _ _ _ _ #[true, true, true, true, true, true, true, true, true, false] _;refine aE (i := 9) (by kernel_rfl) rfl rfl <| bE (ar (i := 2) (c := slE _ _ _) (by kernel_rfl) rfl rfl rfl rfl (ab rfl)) ?_;show AI _ _ _ _ _ _ #[true, true, true, true, true, true, true, true, true, true] _;refine aZ rfl ?_;exact Exists.intro (x16, t18) ⟨H, aY [0, 0, 0, 0] (.cons (.refl _) (.cons (.refl _) (.nil _))) rfl⟩
    ·refine aH rfl (ai (i := 2) aa rfl rfl rfl rfl) ?_;show AI _ _ _ _ _ _ #[false, true, true, true, true, true, false, false, false, false] _;refine cj (i := 0) (j := 6) (by kernel_rfl) rfl rfl rfl rfl ?_ ?_
     ·refine aH rfl (ai (i := 1) aK rfl rfl rfl rfl) ?_;show AI _ _ _ _ _ _ #[true, true, true, true, true, true, false, false, false, false] _;refine aE (i := 6) (by kernel_rfl) rfl rfl <| dc rfl (dK (E := Enc.byte) (bytes := 1) 3 aa aa rfl (by kernel_rfl) rfl rfl rfl rfl g15 e17) ?_;rintro _ _ ⟨t19, rfl, rfl⟩;show AI _ _ _ _ _ _ #[true, true, true, true, true, true, true, false, false, false] _;refine aB (i := 7) rfl rfl (by kernel_rfl) (by kernel_rfl) (by kernel_rfl) (fun _ _ h => ce rfl h) (am rfl) ?_;show AI _ _ _ _ _ _ #[true, true, true, true, true, true, true, true, false, false] _;refine aB (i := 8) rfl rfl (by kernel_rfl) (by kernel_rfl) (by kernel_rfl) (fun _ _ h => ce rfl h) (ah (n := 0) (by kernel_rfl) rfl) ?_;show AI _ _ _ _ _ _ #[true, true, true, true, true, true, true, true, true, false] _;refine aE (i := 9) (by kernel_rfl) rfl rfl <| bE (ar (i := 2) (c := slE _ _ _) (by kernel_rfl) rfl rfl rfl rfl (ab rfl)) ?_;show AI _ _ _ _ _ _ #[true, true, true, true, true, true, true, true, true, true] _;refine aZ rfl ?_;exact Exists.intro (x16, t19) ⟨H, aY [0, 0, 0, 0] (.cons (.refl _) (.cons (.refl _) (.nil _))) rfl⟩
     ·refine dc rfl (dK (E := Enc.byte) (bytes := 1) 3 aa aa rfl (by kernel_rfl) rfl rfl rfl rfl g15 e17) ?_;rintro _ _ ⟨t20, rfl, rfl⟩;show AI _ _ _ _ _ _ #[false, true, true, true, true, true, true, false, false, false] _;refine aE (i := 0) (by kernel_rfl) rfl rfl <| aH rfl (ai (i := 1) aK rfl rfl rfl rfl) ?_;show AI _ _ _ _ _ _ #[true, true, true, true, true, true, true, false, false, false] _;refine aB (i := 7) rfl rfl (by kernel_rfl) (by kernel_rfl) (by kernel_rfl) (fun _ _ h => ce rfl h) (am rfl) ?_;show AI _ _ _ _ _ _ #[true, true, true, true, true, true, true, true, false, false] _;refine aB (i := 8) rfl rfl (by kernel_rfl) (by kernel_rfl) (by kernel_rfl) (fun _ _ h => ce rfl h) (ah (n := 0) (by kernel_rfl) rfl) ?_;show AI _ _ _ _ _ _ #[true, true, true, true, true, true, true, true, true, false] _;refine aE (i := 9) (by kernel_rfl) rfl rfl <| bE (ar (i := 2) (c := slE _ _ _) (by kernel_rfl) rfl rfl rfl rfl (ab rfl)) ?_;show AI _ _ _ _ _ _ #[true, true, true, true, true, true, true, true, true, true] _;refine aZ rfl ?_;exact Exists.intro (x16, t20) ⟨H, aY [0, 0, 0, 0] (.cons (.refl _) (.cons (.refl _) (.nil _))) rfl⟩
  rintro ⟨y21, t22⟩ H;replace H : iD F a4 y21 = some (r7, r8, r10) := H
  unfold iD at H
  refine aj <| ac ?_;show AR _ _ _ _ _ [0, 1] _;refine zX rfl (bQ (zs := [.int .i64 0]) (by kernel_rfl)) ?_;rintro _ _ ⟨o24, rfl, rfl⟩;refine s0 rfl rfl (ar (i := 0) (c := .v _) (by kernel_rfl) rfl rfl rfl rfl (ab rfl)) <| ak <| aj <| ac ?_;show AR _ _ _ _ _ [0, 1] _;refine zS rfl (fN rfl rfl) <| ao rfl rfl (AO.defer rfl ?_);show AR _ _ _ _ _ _ ⟨_, [.call (.func 54) [.pt o11 0, .pt o24 0] []], _⟩;refine ak <| aj ?_;obtain ⟨x26, x27, x28, e29, H⟩ := fV H
  rcases af x28 with rfl | rfl
  ·replace H := bk rfl H;refine ac ?_;show AR _ _ _ _ _ [0, 1, 2, 3, 4, 5] _;refine zR rfl (ai (i := 2) aK rfl rfl rfl rfl) <| zS rfl (am rfl) <| zS rfl (ah (n := 0) (by kernel_rfl) rfl) <| zR rfl (ai (i := 3) aa rfl rfl rfl rfl) <| zS rfl (fN rfl rfl) ?_
   refine AR.nil_objAt 1 0 5 41 rfl rfl fun t25 => ?_
   show AR _ _ _ _ _ _ ⟨_, _, [.tok t25 41, .obj o24 [i64 0], .obj o12 [slE (aD Enc.int (aD (Enc.sl Enc.str) (aD Enc.int (aD Enc.int Enc.int)))) [] (some t25)], .obj o11 [.pt o1 0], .obj o1 [slE Enc.byte y21 (some t22), B a4], .tok t22 5]⟩;refine ao rfl rfl (AO.callPanR [2, 0, 0] rfl nD rfl (mI F y21 (some t22) o12 [] t25 o24 0 x26 x27 e29) rfl (fun av A' h => by cases h.1) ?_);rintro c A' ⟨h, t30, rfl⟩
   cases h
   refine Exists.intro [(4, .pt o12 0)] ⟨by simp, .cons (.refl _) (.nil _), ?_⟩;show ALeaves _ _ _ _ _ [.call (.func 54) [.pt o11 0, .pt o24 0] []] _ [.obj o12 [slE (aD Enc.int (aD (Enc.sl Enc.str) (aD Enc.int (aD Enc.int Enc.int)))) x26 (some t30)], .tok t30 41, .obj o24 [i64 x27], .obj o11 [.pt o1 0], .obj o1 [slE Enc.byte y21 (some t22), B a4], .tok t22 5];refine jg (v := .tup []) (u1 := (.panicking [{ v := (.iface 87 (.agg #[])), recovered := true }])) (A2 := (fun t32 => [.tok t32 5, .obj o24 [i64 x27], .obj o11 [.pt o1 0], .obj o1 [slE Enc.byte [] (some t32), B true]])) [2, 2, 2] (fun h => by cases h) nE rfl ?_ ?_
   ·show ADCalls _ _ [.pt o11 0, .pt o24 0] [.obj o24 [i64 x27], .obj o11 [.pt o1 0], .obj o1 [slE Enc.byte y21 (some t22), B a4]] _ _;refine ADCalls.grow (A2 := [.obj o24 [i64 x27], .obj o11 [.pt o1 0], .obj o1 [gu, B true]]) 2 0 1 5 rfl rfl (fun _ => rfl) <| gy (av := .ifc 87 (.agg [])) (l := [1]) Tryz.func54 rfl rfl rfl rfl rfl Recovers.pan rfl (fun cs => ?_);refine ASR.op rfl rfl ((ay (av := .ifc _ _) rfl).opR _) <| ASR.nil <| aj <| ac ?_;show AR _ _ _ _ _ [0, 1] _;refine zS rfl (ag (av := .ifc _ _) rfl) <| zS rfl (oV (ms := []) (.inr rfl) Tryz.underlying20 rfl rfl) <| ak <| aG rfl (fun _ => ?_) (fun hx => ib rfl hx);refine aj <| aj <| ac ?_;show AR _ _ _ _ _ [0, 1, 2, 3, 4, 5, 6, 7] _;refine zS rfl (ag (av := .ifc _ _) rfl) <| zS rfl (lF Tryz.underlying87 rfl rfl) <| zS rfl (ag (av := .tup _) rfl) <| zS rfl (aF (av := .agg _) rfl rfl) <| zS rfl (aF (av := .v _) rfl rfl) <| zX rfl (bQ (zs := []) (by kernel_rfl)) ?_;rintro _ _ ⟨o31, rfl, rfl⟩;refine s0 rfl rfl (aP (i := 0) (vs := []) (by kernel_rfl) rfl rfl (by simp [bw, slE]) rfl (ab rfl)) <| za rfl <| ak <| aj <| ac ?_;show AR _ _ _ _ _ [0, 1] _;refine zm rfl <| zS rfl (dP rfl) <| ak <| aG rfl (fun hx => ib hx rfl) (fun _ => ?_);refine aM <| aj <| ac ?_;show AR _ _ _ _ _ [0, 1, 2, 3, 4, 5, 6, 7] _
    refine zR rfl (ai (i := 2) aK rfl rfl rfl rfl) <| zR rfl (ai (i := 2) aK rfl rfl rfl rfl) <| zS rfl (am rfl) <| zS rfl (ah (n := 0) (by kernel_rfl) rfl) <| s0 rfl rfl (ar (i := 3) (c := .v _) (by kernel_rfl) rfl rfl rfl rfl (ab rfl)) <| zS rfl (am rfl) <| zS rfl (ah (n := 1) (by kernel_rfl) rfl) <| s0 rfl rfl (ar (i := 3) (c := .v _) (by kernel_rfl) rfl rfl rfl rfl (ab rfl)) <| ak <| aR ?_;exact And.intro rfl (Exists.intro _ (Exists.intro _ ⟨bc rfl, aL [1, 1, 1] rfl, rfl, rfl, rfl⟩))
   intro t32;show ALeaves _ _ _ _ _ [] .returning [.tok t32 5, .obj o24 [i64 x27], .obj o11 [.pt o1 0], .obj o1 [slE Enc.byte [] (some t32), B true], .obj o12 [slE (aD Enc.int (aD (Enc.sl Enc.str) (aD Enc.int (aD Enc.int Enc.int)))) x26 (some t30)], .tok t30 41, .tok t22 5];obtain ⟨rfl, rfl, rfl⟩ := gC H;exact Exists.intro _ (Exists.intro _ ⟨eL rfl ((CellV.one (c := slE _ _ _) 4 cg rfl rfl rfl rfl).oneW (.tok _ _ _)), aL [3, 0] rfl, rfl, t32, rfl⟩)
  replace H := bb rfl H;refine ac ?_;show AR _ _ _ _ _ [0, 1, 2, 3, 4, 5] _;refine zR rfl (ai (i := 2) aK rfl rfl rfl rfl) <| zS rfl (am rfl) <| zS rfl (ah (n := 0) (by kernel_rfl) rfl) <| zR rfl (ai (i := 3) aa rfl rfl rfl rfl) <| zS rfl (fN rfl rfl) ?_
  refine AR.nil_objAt 1 0 5 41 rfl rfl fun t25 => ?_
  show AR _ _ _ _ _ _ ⟨_, _, [.tok t25 41, .obj o24 [i64 0], .obj o12 [slE (aD Enc.int (aD (Enc.sl Enc.str) (aD Enc.int (aD Enc.int Enc.int)))) [] (some t25)], .obj o11 [.pt o1 0], .obj o1 [slE Enc.byte y21 (some t22), B a4], .tok t22 5]⟩;refine ao rfl rfl (co [2, 0, 0] rfl nD rfl (nT F y21 (some t22) o12 [] t25 o24 0 x26 x27 e29) rfl (fun c A' h => by cases h.1) ?_)
  rintro av A' ⟨h, t33, rfl⟩; cases h
  refine ak <| aj <| ac ?_;show AR _ _ _ _ _ [0, 1] _;refine zR rfl (ai (i := 0) cg rfl rfl rfl rfl) <| s0 rfl rfl (ar (i := 0) (c := slE _ _ _) (by kernel_rfl) rfl rfl rfl rfl (ab rfl)) <| ak <| aR ?_;obtain ⟨g34, H⟩ := aX H;obtain ⟨x35, e36, H⟩ := cc H;obtain ⟨g37, H⟩ := aX H;show ALeaves _ _ _ _ _ [.call (.func 54) [.pt o11 0, .pt o24 0] []] _ [.obj o12 [slE (aD Enc.int (aD (Enc.sl Enc.str) (aD Enc.int (aD Enc.int Enc.int)))) x26 (some t33)], .tok t33 41, .obj o24 [i64 x27], .obj o11 [.pt o1 0], .obj o1 [slE Enc.byte y21 (some t22), B a4], .tok t22 5];refine jg (v := .tup []) (u1 := .returning) (A2 := (fun t38 => [.tok t38 5, .obj o24 [i64 x27], .obj o11 [.pt o1 0], .obj o1 [slE Enc.byte x35 (some t38), B a4]])) [2, 2, 2] (fun h => by cases h) nE rfl ?_ ?_
  ·show ADCalls _ _ [.pt o11 0, .pt o24 0] [.obj o24 [i64 x27], .obj o11 [.pt o1 0], .obj o1 [slE Enc.byte y21 (some t22), B a4]] _ _;refine gy (av := .v .nilIface) (l := [1]) Tryz.func54 rfl rfl rfl rfl rfl Recovers.ret rfl (fun cs => ?_);refine ASR.op rfl rfl ((asg rfl).opR _) <| ASR.nil <| aj <| ac ?_;show AR _ _ _ _ _ [0, 1] _;refine zm rfl <| zS rfl (ke (n := 0) (t := 0) (k := .i64) Tryz.underlying20 rfl rfl) <| ak <| aG rfl (fun hx => ib hx rfl) (fun _ => ?_);refine aM <| bn (by kernel_rfl) ?_;show AI _ _ _ _ _ 11 (Array.replicate 11 false) _;refine mE (i := 0) (j := 1) (l := 5) (by kernel_rfl) rfl rfl rfl rfl rfl rfl ?_ ?_ ?_
   ·refine aH rfl (ai (i := 1) aK rfl rfl rfl rfl) ?_;show AI _ _ _ _ _ _ #[true, false, false, false, false, false, false, false, false, false, false] _;refine cj (i := 1) (j := 5) (by kernel_rfl) rfl rfl rfl rfl ?_ ?_
    ·refine aH rfl (ai (i := 1) aK rfl rfl rfl rfl) ?_;show AI _ _ _ _ _ _ #[true, true, false, false, false, false, false, false, false, false, false] _;refine zk 2 rfl (am rfl) ?_;show AI _ _ _ _ _ _ #[true, true, true, false, false, false, false, false, false, false, false] _;refine zk 3 rfl (ah (n := 0) (by kernel_rfl) rfl) ?_;show AI _ _ _ _ _ _ #[true, true, true, true, false, false, false, false, false, false, false] _;refine cj (i := 4) (j := 5) (by kernel_rfl) rfl rfl rfl rfl ?_ ?_
     ·refine aH rfl (ai (i := 2) aa rfl rfl rfl rfl) ?_;show AI _ _ _ _ _ _ #[true, true, true, true, true, false, false, false, false, false, false] _;refine aE (i := 5) (by kernel_rfl) rfl rfl <| aH rfl (ai (i := 0) aq rfl rfl rfl rfl) ?_;show AI _ _ _ _ _ _ #[true, true, true, true, true, true, false, false, false, false, false] _;refine zk 6 rfl (cR (E := Enc.byte) aa (by kernel_rfl) rfl rfl g34 e36) ?_;show AI _ _ _ _ _ _ #[true, true, true, true, true, true, true, false, false, false, false] _;refine aE (i := 7) (by kernel_rfl) rfl rfl <| cF [] rfl cS rfl (bA x35 none (dV g37)) rfl (fun c A' h => by obtain ⟨_, h, _⟩ := h; cases h) ?_
      rintro av A' ⟨t38, h, rfl⟩; cases h
      show AI _ _ _ _ _ _ #[true, true, true, true, true, true, true, true, false, false, false] _;refine zk 8 rfl (am rfl) ?_;show AI _ _ _ _ _ _ #[true, true, true, true, true, true, true, true, true, false, false] _;refine zk 9 rfl (ah (n := 0) (by kernel_rfl) rfl) ?_;show AI _ _ _ _ _ _ #[true, true, true, true, true, true, true, true, true, true, false] _;refine aE (i := 10) (by kernel_rfl) rfl rfl <| bE (ar (i := 3) (c := slE _ _ _) (by kernel_rfl) rfl rfl rfl rfl (ab rfl)) ?_;show AI _ _ _ _ _ _ #[true, true, true, true, true, true, true, true, true, true, true] _;refine aZ rfl ?_;exact And.intro rfl (Exists.intro _ (Exists.intro _ ⟨bc rfl, aL [0, 0, 0, 0] rfl, rfl, rfl, t38, rfl⟩))
     ·refine aH rfl (ai (i := 0) aq rfl rfl rfl rfl) ?_;show AI _ _ _ _ _ _ #[true, true, true, true, false, true, false, false, false, false, false] _;refine aE (i := 4) (by kernel_rfl) rfl rfl <| aH rfl (ai (i := 2) aa rfl rfl rfl rfl) ?_;show AI _ _ _ _ _ _ #[true, true, true, true, true, true, false, false, false, false, false] _;refine zk 6 rfl (cR (E := Enc.byte) aa (by kernel_rfl) rfl rfl g34 e36) ?_;show AI _ _ _ _ _ _ #[true, true, true, true, true, true, true, false, false, false, false] _;refine aE (i := 7) (by kernel_rfl) rfl rfl <| cF [] rfl cS rfl (bA x35 none (dV g37)) rfl (fun c A' h => by obtain ⟨_, h, _⟩ := h; cases h) ?_
      rintro av A' ⟨t39, h, rfl⟩; cases h
      show AI _ _ _ _ _ _ #[true, true, true, true, true, true, true, true, false, false, false] _;refine zk 8 rfl (am rfl) ?_;show AI _ _ _ _ _ _ #[true, true, true, true, true, true, true, true, true, false, false] _;refine zk 9 rfl (ah (n := 0) (by kernel_rfl) rfl) ?_;show AI _ _ _ _ _ _ #[true, true, true, true, true, true, true, true, true, true, false] _;refine aE (i := 10) (by kernel_rfl) rfl rfl <| bE (ar (i := 3) (c := slE _ _ _) (by kernel_rfl) rfl rfl rfl rfl (ab rfl)) ?_;show AI _ _ _ _ _ _ #[true, true, true, true, true, true, true, true, true, true, true] _;refine aZ rfl ?_;exact And.intro rfl (Exists.intro _ (Exists.intro _ ⟨bc rfl, aL [0, 0, 0, 0] rfl, rfl, rfl, t39, rfl⟩))
    ·refine aH rfl (ai (i := 0) aq rfl rfl rfl rfl) ?_;show AI _ _ _ _ _ _ #[true, false, false, false, false, true, false, false, false, false, false] _;refine aE (i := 1) (by kernel_rfl) rfl rfl <| aH rfl (ai (i := 1) aK rfl rfl rfl rfl) ?_;show AI _ _ _ _ _ _ #[true, true, false, false, false, true, false, false, false, false, false] _;refine zk 2 rfl (am rfl) ?_;show AI _ _ _ _ _ _ #[true, true, true, false, false, true, false, false, false, false, false] _;refine zk 3 rfl (ah (n := 0) (by kernel_rfl) rfl) ?_;show AI _ _ _ _ _ _ #[true, true, true, true, false, true, false, false, false, false, false] _;refine aE (i := 4) (by kernel_rfl) rfl rfl <| aH rfl (ai (i := 2) aa rfl rfl rfl rfl) ?_;show AI _ _ _ _ _ _ #[true, true, true, true, true, true, false, false, false, false, false] _;refine zk 6 rfl (cR (E := Enc.byte) aa (by kernel_rfl) rfl rfl g34 e36) ?_;show AI _ _ _ _ _ _ #[true, true, true, true, true, true, true, false, false, false, false] _;refine aE (i := 7) (by kernel_rfl) rfl rfl <| cF [] rfl cS rfl (bA x35 none (dV g37)) rfl (fun c A' h => by obtain ⟨_, h, _⟩ := h; cases h) ?_
     rintro av A' ⟨t40, h, rfl⟩; cases h
     show AI _ _ _ _ _ _ #[true, true, true, true, true, true, true, true, false, false, false] _;refine zk 8 rfl (am rfl) ?_;show AI _ _ _ _ _ _ #[true, true, true, true, true, true, true, true, true, false, false] _;refine zk 9 rfl (ah (n := 0) (by kernel_rfl) rfl) ?_;show AI _ _ _ _ _ _ #[true, true, true, true, true, true, true, true, true, true, false] _;refine aE (i := 10) (by kernel_rfl) rfl rfl <| bE (ar (i := 3) (c := slE _ _ _) (by kernel_rfl) rfl rfl rfl rfl (ab rfl)) ?_;show AI _ _ _ _ _ _ #[true, true, true, true, true, true, true, true, true, true, true] _;refine aZ rfl ?_;exact And.intro rfl (Exists.intro _ (Exists.intro _ ⟨bc rfl, aL [0, 0, 0, 0] rfl, rfl, rfl, t40, rfl⟩))
   ·refine aH rfl (ai (i := 1) aK rfl rfl rfl rfl) ?_;show AI _ _ _ _ _ _ #[false, true, false, false, false, false, false, false, false, false, false] _;refine zk 2 rfl (am rfl) ?_;show AI _ _ _ _ _ _ #[false, true, true, false, false, false, false, false, false, false, false] _;refine zk 3 rfl (ah (n := 0) (by kernel_rfl) rfl) ?_;show AI _ _ _ _ _ _ #[false, true, true, true, false, false, false, false, false, false, false] _;refine mE (i := 0) (j := 4) (l := 5) (by kernel_rfl) rfl rfl rfl rfl rfl rfl ?_ ?_ ?_
    ·refine aH rfl (ai (i := 1) aK rfl rfl rfl rfl) ?_;show AI _ _ _ _ _ _ #[true, true, true, true, false, false, false, false, false, false, false] _;refine cj (i := 4) (j := 5) (by kernel_rfl) rfl rfl rfl rfl ?_ ?_
     ·refine aH rfl (ai (i := 2) aa rfl rfl rfl rfl) ?_;show AI _ _ _ _ _ _ #[true, true, true, true, true, false, false, false, false, false, false] _;refine aE (i := 5) (by kernel_rfl) rfl rfl <| aH rfl (ai (i := 0) aq rfl rfl rfl rfl) ?_;show AI _ _ _ _ _ _ #[true, true, true, true, true, true, false, false, false, false, false] _;refine zk 6 rfl (cR (E := Enc.byte) aa (by kernel_rfl) rfl rfl g34 e36) ?_;show AI _ _ _ _ _ _ #[true, true, true, true, true, true, true, false, false, false, false] _;refine aE (i := 7) (by kernel_rfl) rfl rfl <| cF [] rfl cS rfl (bA x35 none (dV g37)) rfl (fun c A' h => by obtain ⟨_, h, _⟩ := h; cases h) ?_
      rintro av A' ⟨t41, h, rfl⟩; cases h
      show AI _ _ _ _ _ _ #[true, true, true, true, true, true, true, true, false, false, false] _;refine zk 8 rfl (am rfl) ?_;show AI _ _ _ _ _ _ #[true, true, true, true, true, true, true, true, true, false, false] _;refine zk 9 rfl (ah (n := 0) (by kernel_rfl) rfl) ?_;show AI _ _ _ _ _ _ #[true, true, true, true, true, true, true, true, true, true, false] _;refine aE (i := 10) (by kernel_rfl) rfl rfl <| bE (ar (i := 3) (c := slE _ _ _) (by kernel_rfl) rfl rfl rfl rfl (ab rfl)) ?_;show AI _ _ _ _ _ _ #[true, true, true, true, true, true, true, true, true, true, true] _;refine aZ rfl ?_;exact And.intro rfl (Exists.intro _ (Exists.intro _ ⟨bc rfl, aL [0, 0, 0, 0] rfl, rfl, rfl, t41, rfl⟩))
     ·refine aH rfl (ai (i := 0) aq rfl rfl rfl rfl) ?_;show AI _ _ _ _ _ _ #[true, true, true, true, false, true, false, false, false, false, false] _;refine aE (i := 4) (by kernel_rfl) rfl rfl <| aH rfl (ai (i := 2) aa rfl rfl rfl rfl) ?_;show AI _ _ _ _ _ _ #[true, true, true, true, true, true, false, false, false, false, false] _;refine zk 6 rfl (cR (E := Enc.byte) aa (by kernel_rfl) rfl rfl g34 e36) ?_;show AI _ _ _ _ _ _ #[true, true, true, true, true, true, true, false, false, false, false] _;refine aE (i := 7) (by kernel_rfl) rfl rfl <| cF [] rfl cS rfl (bA x35 none (dV g37)) rfl (fun c A' h => by obtain ⟨_, h, _⟩ := h; cases h) ?_
      rintro av A' ⟨t42, h, rfl⟩; cases h
      show AI _ _ _ _ _ _ #[true, true, true, true, true, true, true, true, false, false, false] _;refine zk 8 rfl (am rfl) ?_;show AI _ _ _ _ _ _ #[true, true, true, true, true, true, true, true, true, false, false] _;refine zk 9 rfl (ah (n := 0) (by kernel_rfl) rfl) ?_;show AI _ _ _ _ _ _ #[true, true, true, true, true, true, true, true, true, true, false] _;refine aE (i := 10) (by kernel_rfl) rfl rfl <| bE (ar (i := 3) (c := slE _ _ _) (by kernel_rfl) rfl rfl rfl rfl (ab rfl)) ?_;show AI _ _ _ _ _ _ #[true, true, true, true, true, true, true, true, true, true, true] _;refine aZ rfl ?_;exact And.intro rfl (Exists.intro _ (Exists.intro _ ⟨bc rfl, aL [0, 0, 0, 0] rfl, rfl, rfl, t42, rfl⟩))
    ·refine aH rfl (ai (i := 2) aa rfl rfl rfl rfl) ?_;show AI _ _ _ _ _ _ #[false, true, true, true, true, false, false, false, false, false, false] _;refine cj (i := 0) (j := 5) (by kernel_rfl) rfl rfl rfl rfl ?_ ?_
     ·refine aH rfl (ai (i := 1) aK rfl rfl rfl rfl) ?_;show AI _ _ _ _ _ _ #[true, true, true, true, true, false, false, false, false, false, false] _;refine aE (i := 5) (by kernel_rfl) rfl rfl <| aH rfl (ai (i := 0) aq rfl rfl rfl rfl) ?_;show AI _ _ _ _ _ _ #[true, true, true, true, true, true, false, false, false, false, false] _;refine zk 6 rfl (cR (E := Enc.byte) aa (by kernel_rfl) rfl rfl g34 e36) ?_;show AI _ _ _ _ _ _ #[true, true, true, true, true, true, true, false, false, false, false] _;refine aE (i := 7) (by kernel_rfl) rfl rfl <| cF [] rfl cS rfl (bA x35 none (dV g37)) rfl (fun c A' h => by obtain ⟨_, h, _⟩ := h; cases h) ?_
      rintro av A' ⟨t43, h, rfl⟩; cases h
      show AI _ _ _ _ _ _ #[true, true, true, true, true, true, true, true, false, false, false] _;refine zk 8 rfl (am rfl) ?_;show AI _ _ _ _ _ _ #[true, true, true, true, true, true, true, true, true, false, false] _;refine zk 9 rfl (ah (n := 0) (by kernel_rfl) rfl) ?_;show AI _ _ _ _ _ _ #[true, true, true, true, true, true, true, true, true, true, false] _;refine aE (i := 10) (by kernel_rfl) rfl rfl <| bE (ar (i := 3) (c := slE _ _ _) (by kernel_rfl) rfl rfl rfl rfl (ab rfl)) ?_;show AI _ _ _ _ _ _ #[true, true, true, true, true, true, true, true, true, true, true] _;refine aZ rfl ?_;exact And.intro rfl (Exists.intro _ (Exists.intro _ ⟨bc rfl, aL [0, 0, 0, 0] rfl, rfl, rfl, t43, rfl⟩))
     ·refine aH rfl (ai (i := 0) aq rfl rfl rfl rfl) ?_;show AI _ _ _ _ _ _ #[false, true, true, true, true, true, false, false, false, false, false] _;refine zk 6 rfl (cR (E := Enc.byte) aa (by kernel_rfl) rfl rfl g34 e36) ?_;show AI _ _ _ _ _ _ #[false, true, true, true, true, true, true, false, false, false, false] _;refine cj (i := 0) (j := 7) (by kernel_rfl) rfl rfl rfl rfl ?_ ?_
      ·refine aH rfl (ai (i := 1) aK rfl rfl rfl rfl) ?_;show AI _ _ _ _ _ _ #[true, true, true, true, true, true, true, false, false, false, false] _;refine aE (i := 7) (by kernel_rfl) rfl rfl <| cF [] rfl cS rfl (bA x35 none (dV g37)) rfl (fun c A' h => by obtain ⟨_, h, _⟩ := h; cases h) ?_
       rintro av A' ⟨t44, h, rfl⟩; cases h
       show AI _ _ _ _ _ _ #[true, true, true, true, true, true, true, true, false, false, false] _;refine zk 8 rfl (am rfl) ?_;show AI _ _ _ _ _ _ #[true, true, true, true, true, true, true, true, true, false, false] _;refine zk 9 rfl (ah (n := 0) (by kernel_rfl) rfl) ?_;show AI _ _ _ _ _ _ #[true, true, true, true, true, true, true, true, true, true, false] _;refine aE (i := 10) (by kernel_rfl) rfl rfl <| bE (ar (i := 3) (c := slE _ _ _) (by kernel_rfl) rfl rfl rfl rfl (ab rfl)) ?_;show AI _ _ _ _ _ _ #[true, true, true, true, true, true, true, true, true, true, true] _;refine aZ rfl ?_;exact And.intro rfl (Exists.intro _ (Exists.intro _ ⟨bc rfl, aL [0, 0, 0, 0] rfl, rfl, rfl, t44, rfl⟩))
      ·refine cF [] rfl cS rfl (bA x35 none (dV g37)) rfl (fun c A' h => by obtain ⟨_, h, _⟩ := h; cases h) ?_
       rintro av A' ⟨t45, h, rfl⟩; cases h
       show AI _ _ _ _ _ _ #[false, true, true, true, true, true, true, true, false, false, false] _;refine aE (i := 0) (by kernel_rfl) rfl rfl <| aH rfl (ai (i := 2) aK rfl rfl rfl rfl) ?_;show AI _ _ _ _ _ _ #[true, true, true, true, true, true, true, true, false, false, false] _;refine zk 8 rfl (am rfl) ?_;show AI _ _ _ _ _ _ #[true, true, true, true, true, true, true, true, true, false, false] _;refine zk 9 rfl (ah (n := 0) (by kernel_rfl) rfl) ?_;show AI _ _ _ _ _ _ #[true, true, true, true, true, true, true, true, true, true, false] _;refine aE (i := 10) (by kernel_rfl) rfl rfl <| bE (ar (i := 3) (c := slE _ _ _) (by kernel_rfl) rfl rfl rfl rfl (ab rfl)) ?_;show AI _ _ _ _ _ _ #[true, true, true, true, true, true, true, true, true, true, true] _;refine aZ rfl ?_;exact And.intro rfl (Exists.intro _ (Exists.intro _ ⟨bc rfl, aL [0, 0, 0, 0] rfl, rfl, rfl, t45, rfl⟩))
    ·refine aH rfl (ai (i := 0) aq rfl rfl rfl rfl) ?_;show AI _ _ _ _ _ _ #[false, true, true, true, false, true, false, false, false, false, false] _;refine cj (i := 0) (j := 4) (by kernel_rfl) rfl rfl rfl rfl ?_ ?_
     ·refine aH rfl (ai (i := 1) aK rfl rfl rfl rfl) ?_;show AI _ _ _ _ _ _ #[true, true, true, true, false, true, false, false, false, false, false] _;refine aE (i := 4) (by kernel_rfl) rfl rfl <| aH rfl (ai (i := 2) aa rfl rfl rfl rfl) ?_;show AI _ _ _ _ _ _ #[true, true, true, true, true, true, false, false, false, false, false] _;refine zk 6 rfl (cR (E := Enc.byte) aa (by kernel_rfl) rfl rfl g34 e36) ?_;show AI _ _ _ _ _ _ #[true, true, true, true, true, true, true, false, false, false, false] _;refine aE (i := 7) (by kernel_rfl) rfl rfl <| cF [] rfl cS rfl (bA x35 none (dV g37)) rfl (fun c A' h => by obtain ⟨_, h, _⟩ := h; cases h) ?_
      rintro av A' ⟨t46, h, rfl⟩; cases h
      show AI _ _ _ _ _ _ #[true, true, true, true, true, true, true, true, false, false, false] _;refine zk 8 rfl (am rfl) ?_;show AI _ _ _ _ _ _ #[true, true, true, true, true, true, true, true, true, false, false] _;refine zk 9 rfl (ah (n := 0) (by kernel_rfl) rfl) ?_;show AI _ _ _ _ _ _ #[true, true, true, true, true, true, true, true, true, true, false] _;refine aE (i := 10) (by kernel_rfl) rfl rfl <| bE (ar (i := 3) (c := slE _ _ _) (by kernel_rfl) rfl rfl rfl rfl (ab rfl)) ?_;show AI _ _ _ _ _ _ #[true, true, true, true, true, true, true, true, true, true, true] _;refine aZ rfl ?_;exact And.intro rfl (Exists.intro _ (Exists.intro _ ⟨bc rfl, aL [0, 0, 0, 0] rfl, rfl, rfl, t46, rfl⟩))
     ·refine aH rfl (ai (i := 2) aa rfl rfl rfl rfl) ?_;show AI _ _ _ _ _ _ #[false, true, true, true, true, true, false, false, false, false, false] _;refine zk 6 rfl (cR (E := Enc.byte) aa (by kernel_rfl) rfl rfl g34 e36) ?_;show AI _ _ _ _ _ _ #[false, true, true, true, true, true, true, false, false, false, false] _;refine cj (i := 0) (j := 7) (by kernel_rfl) rfl rfl rfl rfl ?_ ?_
      ·refine aH rfl (ai (i := 1) aK rfl rfl rfl rfl) ?_;show AI _ _ _ _ _ _ #[true, true, true, true, true, true, true, false, false, false, false] _;refine aE (i := 7) (by kernel_rfl) rfl rfl <| cF [] rfl cS rfl (bA x35 none (dV g37)) rfl (fun c A' h => by obtain ⟨_, h, _⟩ := h; cases h) ?_
       rintro av A' ⟨t47, h, rfl⟩; cases h
       show AI _ _ _ _ _ _ #[true, true, true, true, true, true, true, true, false, false, false] _;refine zk 8 rfl (am rfl) ?_;show AI _ _ _ _ _ _ #[true, true, true, true, true, true, true, true, true, false, false] _;refine zk 9 rfl (ah (n := 0) (by kernel_rfl) rfl) ?_;show AI _ _ _ _ _ _ #[true, true, true, true, true, true, true, true, true, true, false] _;refine aE (i := 10) (by kernel_rfl) rfl rfl <| bE (ar (i := 3) (c := slE _ _ _) (by kernel_rfl) rfl rfl rfl rfl (ab rfl)) ?_;show AI _ _ _ _ _ _ #[true, true, true, true, true, true, true, true, true, true, true] _;refine aZ rfl ?_;exact And.intro rfl (Exists.intro _ (Exists.intro _ ⟨bc rfl, aL [0, 0, 0, 0] rfl, rfl, rfl, t47, rfl⟩))
      ·refine cF [] rfl cS rfl (bA x35 none (dV g37)) rfl (fun c A' h => by obtain ⟨_, h, _⟩ := h; cases h) ?_
       rintro av A' ⟨t48, h, rfl⟩; cases h
       show AI _ _ _ _ _ _ #[false, true, true, true, true, true, true, true, false, false, false] _;refine aE (i := 0) (by kernel_rfl) rfl rfl <| aH rfl (ai (i := 2) aK rfl rfl rfl rfl) ?_;show AI _ _ _ _ _ _ #[true, true, true, true, true, true, true, true, false, false, false] _;refine zk 8 rfl (am rfl) ?_;show AI _ _ _ _ _ _ #[true, true, true, true, true, true, true, true, true, false, false] _;refine zk 9 rfl (ah (n := 0) (by kernel_rfl) rfl) ?_;show AI _ _ _ _ _ _ #[true, true, true, true, true, true, true, true, true, true, false] _;refine aE (i := 10) (by kernel_rfl) rfl rfl <| bE (ar (i := 3) (c := slE _ _ _) (by kernel_rfl) rfl rfl rfl rfl (ab rfl)) ?_;show AI _ _ _ _ _ _ #[true, true, true, true, true, true, true, true, true, true, true] _;refine aZ rfl ?_;exact And.intro rfl (Exists.intro _ (Exists.intro _ ⟨bc rfl, aL [0, 0, 0, 0] rfl, rfl, rfl, t48, rfl⟩))
   ·refine aH rfl (ai (i := 0) aq rfl rfl rfl rfl) ?_;show AI _ _ _ _ _ _ #[false, false, false, false, false, true, false, false, false, false, false] _;refine cj (i := 0) (j := 1) (by kernel_rfl) rfl rfl rfl rfl ?_ ?_
    ·refine aH rfl (ai (i := 1) aK rfl rfl rfl rfl) ?_;show AI _ _ _ _ _ _ #[true, false, false, false, false, true, false, false, false, false, false] _;refine aE (i := 1) (by kernel_rfl) rfl rfl <| aH rfl (ai (i := 1) aK rfl rfl rfl rfl) ?_;show AI _ _ _ _ _ _ #[true, true, false, false, false, true, false, false, false, false, false] _;refine zk 2 rfl (am rfl) ?_;show AI _ _ _ _ _ _ #[true, true, true, false, false, true, false, false, false, false, false] _;refine zk 3 rfl (ah (n := 0) (by kernel_rfl) rfl) ?_;show AI _ _ _ _ _ _ #[true, true, true, true, false, true, false, false, false, false, false] _;refine aE (i := 4) (by kernel_rfl) rfl rfl <| aH rfl (ai (i := 2) aa rfl rfl rfl rfl) ?_;show AI _ _ _ _ _ _ #[true, true, true, true, true, true, false, false, false, false, false] _;refine zk 6 rfl (cR (E := Enc.byte) aa (by kernel_rfl) rfl rfl g34 e36) ?_;show AI _ _ _ _ _ _ #[true, true, true, true, true, true, true, false, false, false, false] _;refine aE (i := 7) (by kernel_rfl) rfl rfl <| cF [] rfl cS rfl (bA x35 none (dV g37)) rfl (fun c A' h => by obtain ⟨_, h, _⟩ := h; cases h) ?_
     rintro av A' ⟨t49, h, rfl⟩; cases h
     show AI _ _ _ _ _ _ #[true, true, true, true, true, true, true, true, false, false, false] _;refine zk 8 rfl (am rfl) ?_;show AI _ _ _ _ _ _ #[true, true, true, true, true, true, true, true, true, false, false] _;refine zk 9 rfl (ah (n := 0) (by kernel_rfl) rfl) ?_;show AI _ _ _ _ _ _ #[true, true, true, true, true, true, true, true, true, true, false] _;refine aE (i := 10) (by kernel_rfl) rfl rfl <| bE (ar (i := 3) (c := slE _ _ _) (by kernel_rfl) rfl rfl rfl rfl (ab rfl)) ?_;show AI _ _ _ _ _ _ #[true, true, true, true, true, true, true, true, true, true, true] _;refine aZ rfl ?_;exact And.intro rfl (Exists.intro _ (Exists.intro _ ⟨bc rfl, aL [0, 0, 0, 0] rfl, rfl, rfl, t49, rfl⟩))
    ·refine aH rfl (ai (i := 1) aK rfl rfl rfl rfl) ?_;show AI _ _ _ _ _ _ #[false, true, false, false, false, true, false, false, false, false, false] _;refine zk 2 rfl (am rfl) ?_;show AI _ _ _ _ _ _ #[false, true, true, false, false, true, false, false, false, false, false] _;refine zk 3 rfl (ah (n := 0) (by kernel_rfl) rfl) ?_;show AI _ _ _ _ _ _ #[false, true, true, true, false, true, false, false, false, false, false] _;refine cj (i := 0) (j := 4) (by kernel_rfl) rfl rfl rfl rfl ?_ ?_
     ·refine aH rfl (ai (i := 1) aK rfl rfl rfl rfl) ?_;show AI _ _ _ _ _ _ #[true, true, true, true, false, true, false, false, false, false, false] _;refine aE (i := 4) (by kernel_rfl) rfl rfl <| aH rfl (ai (i := 2) aa rfl rfl rfl rfl) ?_;show AI _ _ _ _ _ _ #[true, true, true, true, true, true, false, false, false, false, false] _;refine zk 6 rfl (cR (E := Enc.byte) aa (by kernel_rfl) rfl rfl g34 e36) ?_;show AI _ _ _ _ _ _ #[true, true, true, true, true, true, true, false, false, false, false] _;refine aE (i := 7) (by kernel_rfl) rfl rfl <| cF [] rfl cS rfl (bA x35 none (dV g37)) rfl (fun c A' h => by obtain ⟨_, h, _⟩ := h; cases h) ?_
      rintro av A' ⟨t50, h, rfl⟩; cases h
      show AI _ _ _ _ _ _ #[true, true, true, true, true, true, true, true, false, false, false] _;refine zk 8 rfl (am rfl) ?_;show AI _ _ _ _ _ _ #[true, true, true, true, true, true, true, true, true, false, false] _;refine zk 9 rfl (ah (n := 0) (by kernel_rfl) rfl) ?_;show AI _ _ _ _ _ _ #[true, true, true, true, true, true, true, true, true, true, false] _;refine aE (i := 10) (by kernel_rfl) rfl rfl <| bE (ar (i := 3) (c := slE _ _ _) (by kernel_rfl) rfl rfl rfl rfl (ab rfl)) ?_;show AI _ _ _ _ _ _ #[true, true, true, true, true, true, true, true, true, true, true] _;refine aZ rfl ?_;exact And.intro rfl (Exists.intro _ (Exists.intro _ ⟨bc rfl, aL [0, 0, 0, 0] rfl, rfl, rfl, t50, rfl⟩))
     ·refine aH rfl (ai (i := 2) aa rfl rfl rfl rfl) ?_;show AI _ _ _ _ _ _ #[false, true, true, true, true, true, false, false, false, false, false] _;refine zk 6 rfl (cR (E := Enc.byte) aa (by kernel_rfl) rfl rfl g34 e36) ?_;show AI _ _ _ _ _ _ #[false, true, true, true, true, true, true, false, false, false, false] _;refine cj (i := 0) (j := 7) (by kernel_rfl) rfl rfl rfl rfl ?_ ?_
      ·refine aH rfl (ai (i := 1) aK rfl rfl rfl rfl) ?_;show AI _ _ _ _ _ _ #[true, true, true, true, true, true, true, false, false, false, false] _;refine aE (i := 7) (by kernel_rfl) rfl rfl <| cF [] rfl cS rfl (bA x35 none (dV g37)) rfl (fun c A' h => by obtain ⟨_, h, _⟩ := h; cases h) ?_
       rintro av A' ⟨t51, h, rfl⟩; cases h
       show AI _ _ _ _ _ _ #[true, true, true, true, true, true, true, true, false, false, false] _;refine zk 8 rfl (am rfl) ?_;show AI _ _ _ _ _ _ #[true, true, true, true, true, true, true, true, true, false, false] _;refine zk 9 rfl (ah (n := 0) (by kernel_rfl) rfl) ?_;show AI _ _ _ _ _ _ #[true, true, true, true, true, true, true, true, true, true, false] _;refine aE (i := 10) (by kernel_rfl) rfl rfl <| bE (ar (i := 3) (c := slE _ _ _) (by kernel_rfl) rfl rfl rfl rfl (ab rfl)) ?_;show AI _ _ _ _ _ _ #[true, true, true, true, true, true, true, true, true, true, true] _;refine aZ rfl ?_;exact And.intro rfl (Exists.intro _ (Exists.intro _ ⟨bc rfl, aL [0, 0, 0, 0] rfl, rfl, rfl, t51, rfl⟩))
      ·refine cF [] rfl cS rfl (bA x35 none (dV g37)) rfl (fun c A' h => by obtain ⟨_, h, _⟩ := h; cases h) ?_
       rintro av A' ⟨t52, h, rfl⟩; cases h
       show AI _ _ _ _ _ _ #[false, true, true, true, true, true, true, true, false, false, false] _;refine aE (i := 0) (by kernel_rfl) rfl rfl <| aH rfl (ai (i := 2) aK rfl rfl rfl rfl) ?_;show AI _ _ _ _ _ _ #[true, true, true, true, true, true, true, true, false, false, false] _;refine zk 8 rfl (am rfl) ?_;show AI _ _ _ _ _ _ #[true, true, true, true, true, true, true, true, true, false, false] _;refine zk 9 rfl (ah (n := 0) (by kernel_rfl) rfl) ?_;show AI _ _ _ _ _ _ #[true, true, true, true, true, true, true, true, true, true, false] _;refine aE (i := 10) (by kernel_rfl) rfl rfl <| bE (ar (i := 3) (c := slE _ _ _) (by kernel_rfl) rfl rfl rfl rfl (ab rfl)) ?_;show AI _ _ _ _ _ _ #[true, true, true, true, true, true, true, true, true, true, true] _;refine aZ rfl ?_;exact And.intro rfl (Exists.intro _ (Exists.intro _ ⟨bc rfl, aL [0, 0, 0, 0] rfl, rfl, rfl, t52, rfl⟩))
  intro t38;show ALeaves _ _ _ _ _ [] .returning [.tok t38 5, .obj o24 [i64 x27], .obj o11 [.pt o1 0], .obj o1 [slE Enc.byte x35 (some t38), B a4], .obj o12 [slE (aD Enc.int (aD (Enc.sl Enc.str) (aD Enc.int (aD Enc.int Enc.int)))) x26 (some t33)], .tok t33 41, .tok t22 5];obtain ⟨rfl, rfl, rfl⟩ := gC H;exact Exists.intro _ (Exists.intro _ ⟨eL rfl ((CellV.one (c := slE _ _ _) 4 cg rfl rfl rfl rfl).oneW (.tok _ _ _)), aL [3, 0] rfl, rfl, t38, rfl⟩)
end Go.Proofs.YtgjkjkmmgdbcoaaGreatDoor
namespace Go.Pv
def eJ (a3 : List UInt8) (rec15 : ((List UInt8) × Int) → Option Int) (y13 : List UInt8) (y14 : Int) : Option Int :=
grd (okS y13.length) <|
grd (decide (2 ≤ a3.length)) <|
grd (okS a3.length) <|
lt (Go.Lib.index y13 a3) fun x20 =>
bif decide (x20 = (-1)) then
  some y14
else
  grd (okI (y14 + 1)) <|
  grd (okI (x20 + (a3.length : Int))) <|
  grd (iW (x20 + (a3.length : Int)) y13.length) <|
  lt (gr y13 (x20 + (a3.length : Int))) fun x26 =>
  rec15 (x26, y14 + 1)
def eI (a3 : List UInt8) (n : Nat) : ((List UInt8) × Int) → Option Int :=
  loop (fun rec x => eJ a3 rec x.1 x.2) n
def dE (F : Nat) (a1 : List UInt8) (a3 : List UInt8) : Option Int :=
grd (!(decide ((a3.length : Int) = 0))) <|
bif decide ((a3.length : Int) = 1) then
  grd (cA 0 a3.length) <|
  lt (at_ a3 0) fun x9 =>
  lt (List.count x9 a1 : Int) fun x11 =>
  some x11
else
  eI a3 F (a1, 0)
def jI (F : Nat) (a1 : List UInt8) : Option Bool :=
bnd (dE F a1 ([13, 10] : List UInt8)) fun x5 =>
bnd (dE F a1 ([13] : List UInt8)) fun x7 =>
js (decide (x7 = x5)) (dE F a1 ([10] : List UInt8)) fun x10 =>
dT (((decide (x7 = x5)) && (decide (x10 = x5))) && (!(decide ((a1.length : Int) = 0)))) (okS a1.length) <|
lt (Go.Lib.hasSuffix a1 ([13, 10] : List UInt8)) fun x16 =>
some (((decide (x7 = x5)) && (decide (x10 = x5))) && ((decide ((a1.length : Int) = 0)) || x16))
def dJ {σ : Type} (k : σ → (List UInt8) → Option (σ × Bool)) (rec7 : ((List UInt8) × σ) → Option (σ × (List UInt8))) (y4 : List UInt8) (y5 : σ) : Option (σ × (List UInt8)) :=
grd (okS y4.length) <|
grd (decide (2 ≤ ([13, 10] : List UInt8).length)) <|
grd (okS ([13, 10] : List UInt8).length) <|
lt (Go.Lib.index y4 ([13, 10] : List UInt8)) fun x13 =>
bif decide (x13 < 0) then
  some (y5, y4)
else
  grd (okI (x13 + 2)) <|
  grd (iW (x13 + 2) y4.length) <|
  lt (to_ y4 (x13 + 2)) fun x18 =>
  hP (k y5 x18) fun x20 x21 =>
  bif !x21 then
    some (x20, y4)
  else
    grd (okI (x13 + 2)) <|
    grd (iW (x13 + 2) y4.length) <|
    lt (gr y4 (x13 + 2)) fun x27 =>
    rec7 (x27, x20)
def ez {σ : Type} (k : σ → (List UInt8) → Option (σ × Bool)) (n : Nat) : ((List UInt8) × σ) → Option (σ × (List UInt8)) :=
  loop (fun rec x => dJ k rec x.1 x.2) n
def iE (F : Nat) {σ : Type} (k : σ → (List UInt8) → Option (σ × Bool)) (st0 : σ) (a2 : List UInt8) : Option (σ × (List UInt8)) :=
ez k F (a2, st0)
def jy (F : Nat) (a1 : List UInt8) : Option Unit :=
some ()
def fO (y37 : List UInt8) : Option ((List UInt8) × Int) :=
grd (eW (y37.length + ([46, 13, 10] : List UInt8).length)) <|
lt (y37 ++ ([46, 13, 10] : List UInt8)) fun x42 =>
some (x42, 0)
def eV (x15 : List UInt8) (y24 : List UInt8) : Option (((List UInt8)) × Bool) :=
grd (eW (y24.length + x15.length)) <|
lt (y24 ++ x15) fun x29 =>
some (x29, true)
def cz (y12 : List UInt8) (x15 : List UInt8) : Option (((List UInt8)) × Bool) :=
grd (cA 0 x15.length) <|
lt (at_ x15 0) fun x17 =>
bif decide (x17 = 46) then
  grd (eW (y12.length + ([46] : List UInt8).length)) <|
  lt (y12 ++ ([46] : List UInt8)) fun x22 =>
  eV x15 x22
else
  eV x15 y12
def gJ (F : Nat) (a1 : List UInt8) : Option ((List UInt8) × Int) :=
bnd (jI F a1) fun x5 =>
bif !x5 then
  some ([], 1)
else
  bnd (jy F a1) fun _ =>
  hP (iE F (fun s x => cz s x) [] a1) fun x31 x32 =>
  fO x31
end Go.Pv
namespace Go.Av
open Go.RowKit Go.Pv
theorem qV {P : Program} {A : List Chunk} {e : Env} {x y : Operand} {d : Option Nat} {pos : String} {after : Array Edge} {g : Option (Nat × Bool)} {f : FuncId} {fn : Func} {ts : Array TypeId} {T2 : TypeId} {l : List UInt8} {t : Option Nat} {c : UInt8} (h : Ext0 P f fn Extern.BytealgCount.count) (hx : opv e x = slE Enc.byte l t) (hy : opv e y = u8 c) :
    OpR P ⟨d, .call ⟨.value (.func f), #[x, y], ts⟩, T2, pos, after, g⟩ e A (i64 (l.count c : Int)) A := fun F I w ρ hI hρ => by
  obtain ⟨a, cap, hv, hc, hb, hx1⟩ := eb (hx ▸ hρ x)
  have h2 := bS (hy ▸ hρ y)
  have key : (Extern.BytealgCount.count #[.slice a l.length cap, .int .u8 (c.toNat : Int)]).run P w = .ok (.int .i64 (l.count c : Int)) w := by
    by_cases hne : l = []
    · subst hne
      cases a with
      | none => exact Go.Lib.run_countNil w 0 cap _
      | some a =>
        have := Go.Lib.run_countAt (P := P) w a 0 cap [] rfl (fun i hi => absurd hi (Nat.not_lt_zero _)) (c.toNat : Int)
        exact this
    · obtain ⟨b, o, rfl, g1⟩ := hx1 hne
      rw [Go.Lib.run_countSlice w b o l.length cap (Go.Lib.numsL l) (Go.Lib.numsL_length _) g1, Go.Lib.bytesOf_numsL]
      simp [Go.Lib.countByte]
  refine ⟨_, _, w, I, ns hρ (r := .value (.int .i64 (l.count c : Int))) ?_, .inl rfl, bI _ _, hI, .v _⟩
  rw [show (#[x, y].map ρ) = #[ρ x, ρ y] by simp, hv, h2, run_callFunc_extern h.hf h.nm h.nb h.nn h.he, key]
  rfl
theorem idx7 {i : Int} (h : cA i 7 = true) : i = 0 ∨ i = 1 ∨ i = 2 ∨ i = 3 ∨ i = 4 ∨ i = 5 ∨ i = 6 := by
  have := jE h
  omega
theorem AR.subL {P : Program} {ro : Option Nat} {N : Nat} {Q : dF} {ops : Array Oper} {l : List Nat} {e : Env} {ds : List ADef} {A A' B : List Chunk} (is : List Nat) (p : fP A is = some (A', B))
    (h : AR P ro N ops Q l ⟨e, ds, A'⟩) : AR P ro N ops Q l ⟨e, ds, A⟩ := fun F I w a hI hS =>
  h F I w a ((aL is p : Sub A' A).inv hI) ⟨hS.size, hS.env, hS.ds⟩
end Go.Av
namespace Go.Proofs.YtgjkjkmmgdbcoaaGreatDoor
open Go.RowKit Go.Av Go.Pv
theorem en29_dot : ∀ (args : Array Value) (w : World), (callFunc 29 args).run Tryz.prog w = .ok (.enter 29 args) w := fun _ _ => by kernel_rfl
theorem en40_dot : ∀ (args : Array Value) (w : World), (callFunc 40 args).run Tryz.prog w = .ok (.enter 40 args) w := fun _ _ => by kernel_rfl
theorem mD : ∀ (args : Array Value) (w : World), (callFunc 52 args).run Tryz.prog w = .ok (.enter 52 args) w := fun _ _ => by kernel_rfl
theorem en53_dot : ∀ (args : Array Value) (w : World), (callFunc 53 args).run Tryz.prog w = .ok (.enter 53 args) w := fun _ _ => by kernel_rfl
theorem en60_dot : ∀ (args : Array Value) (w : World), (callFunc 60 args).run Tryz.prog w = .ok (.enter 60 args) w := fun _ _ => by kernel_rfl
theorem pA : ∀ (args : Array Value) (w : World), (callFunc 61 args).run Tryz.prog w = .ok (.enter 61 args) w := fun _ _ => by kernel_rfl
set_option maxRecDepth 100000 in
set_option maxHeartbeats 1000000 in
theorem gY (F : Nat) (a1 : List UInt8) (q2 : Option Nat) (a3 : List UInt8) (q4 : Option Nat) (r5 : Int) (H : dE F a1 a3 = some r5) : ACalls Tryz.prog 52 [slE Enc.byte a1 q2, slE Enc.byte a3 q4] [] (Ret (i64 r5) []) := by
 unfold dE at H
 refine aA Tryz.func52 rfl rfl ?_;show AW _ _ 35 _ _ _;refine aj <| ac ?_;show AR _ _ _ _ _ [0] _;refine za rfl <| ak <| aj <| aj <| ac ?_;show AR _ _ _ _ _ [0, 1, 2] _;refine zS rfl (ag (av := slE _ _ _) rfl) <| zS rfl (aU aa rfl) <| zS rfl (bN rfl rfl) <| ak ?_;obtain ⟨g28, H⟩ := aX H;replace g28 := fn g28;refine aG rfl (fun hx => ib hx g28) (fun _ => ?_);refine aM <| aj <| aj <| ac ?_;show AR _ _ _ _ _ [0, 1, 2] _;refine zS rfl (ag (av := slE _ _ _) rfl) <| zS rfl (aU aa rfl) <| zS rfl (bN rfl rfl) <| ak <| aG rfl (fun c7 => ?_) (fun c7 => ?_)
 ·replace H := bk c7 H;refine aj ?_;obtain ⟨g8, H⟩ := aX H;obtain ⟨x9, e10, H⟩ := cc H;obtain ⟨x11, e12, H⟩ := cc H;refine ac ?_;show AR _ _ _ _ _ [0, 1, 2, 3, 4, 5] _;refine zS rfl (ag (av := slE _ _ _) rfl) <| zS rfl (ag (av := slE _ _ _) rfl) <| zS rfl (bq (E := Enc.byte) aa (by kernel_rfl) rfl rfl g8 e10) <| zS rfl (aI aJ rfl rfl) <| zR rfl (show OpR _ _ _ _ (i64 x11) _ from by subst e12; exact qV ⟨Tryz.func74, by kernel_rfl, by kernel_rfl, by kernel_rfl, by kernel_rfl⟩ rfl rfl) <| za rfl <| ak <| aR ?_;obtain rfl := aC H;exact And.intro rfl (Exists.intro _ (Exists.intro _ ⟨aV rfl (.refl _), aL [] rfl, rfl, rfl⟩))
 ·replace H := bb c7 H;refine aM <| aj <| ac ?_;show AR _ _ _ _ _ [0] _;refine za rfl <| ak <| bi <| dC (X := Nat × (List UInt8) × Int) (fun (n16, y13, y14) => ⟨[(0, slE Enc.byte y13 none), (1, slE Enc.byte a3 q4), (5, i64 y14)], [], []⟩) (fun (n16, y13, y14) => eI a3 n16 (y13, y14) = some r5) (fun (n16, y13, y14) => n16) (F, a1, 0) H (aY [] (.cons (.tok _ _ _) (.cons (.refl _) (.cons (.refl _) (.nil _)))) rfl) ?_;rintro ⟨n16, y13, y14⟩ H;obtain ⟨n16, rfl, H⟩ := fg H;replace H : eJ a3 (eI a3 n16) y13 y14 = some r5 := H
  unfold eJ at H
  refine bi <| aj ?_;obtain ⟨g17, H⟩ := aX H;obtain ⟨g18, H⟩ := aX H;obtain ⟨g19, H⟩ := aX H;obtain ⟨x20, e21, H⟩ := cc H;refine ac ?_;show AR _ _ _ _ _ [0, 1, 2, 3] _;refine zS rfl (ag (av := slE _ _ _) rfl) <| zS rfl (ag (av := slE _ _ _) rfl) <| ao rfl rfl (aQ rfl pA rfl (show ACalls _ _ _ [] (Ret (i64 x20) []) from by subst e21; exact jd y13 a3 none q4 (dV g17) (of_decide_eq_true g18) (dV g19)) ?_);refine za rfl <| ak <| aj <| aj <| ac ?_;show AR _ _ _ _ _ [0, 1] _;refine zm rfl <| zS rfl (bN rfl rfl) <| ak <| aG rfl (fun c22 => ?_) (fun c22 => ?_)
  ·replace H := bk c22 H;refine aj <| ac ?_;show AR _ _ _ _ _ [0, 1] _;refine zm rfl <| za rfl <| ak <| aR ?_;obtain rfl := aC H;exact And.intro rfl (Exists.intro _ (Exists.intro _ ⟨aV rfl (.refl _), aL [] rfl, rfl, rfl⟩))
  ·replace H := bb c22 H;refine aM <| aj ?_;obtain ⟨g23, H⟩ := aX H;refine ac ?_;show AR _ _ _ _ _ [0, 1, 2] _;refine zm rfl <| zS rfl (eZ rfl rfl g23) <| za rfl <| ak ?_;obtain ⟨g24, H⟩ := aX H;obtain ⟨g25, H⟩ := aX H;obtain ⟨x26, e27, H⟩ := cc H;refine ac ?_;show AR _ _ _ _ _ [0, 1, 2, 3, 4, 5, 6] _;refine zS rfl (ag (av := slE _ _ _) rfl) <| zm rfl <| zS rfl (ag (av := slE _ _ _) rfl) <| zS rfl (aU aa rfl) <| zS rfl (eZ rfl rfl g24) <| zS rfl (cR (E := Enc.byte) aa (by kernel_rfl) rfl rfl g25 e27) <| zS rfl (ay (av := slE _ _ _) rfl) <| ak ?_;exact Exists.intro (n16, x26, y14 + 1) ⟨H, Nat.lt_succ_self _, aY [] (.cons (.refl _) (.cons (.refl _) (.cons (.refl _) (.nil _)))) rfl⟩
set_option maxRecDepth 100000 in
set_option maxHeartbeats 1000000 in
theorem mV (F : Nat) (a1 : List UInt8) (q2 : Option Nat) (r3 : Bool) (H : jI F a1 = some r3) : ACalls Tryz.prog 29 [slE Enc.byte a1 q2] [] (Ret (B r3) []) := by
 unfold jI at H
 refine aA Tryz.func29 rfl rfl ?_;show AW _ _ 31 _ _ _;refine aj <| ac ?_;show AR _ _ _ _ _ [0] _;refine za rfl <| ak <| aj ?_;obtain ⟨x5, e6, H⟩ := dG H;refine ac ?_;show AR _ _ _ _ _ [0, 1, 2, 3, 4] _;refine zS rfl (ag (av := slE _ _ _) rfl) <| zX rfl (gN (E := Enc.byte) (bytes := 1) (xs := [.const _, .const _]) (l := ([13, 10] : List UInt8)) aa (by kernel_rfl) rfl rfl (by decide) rfl rfl) ?_;rintro _ _ ⟨t4, rfl, rfl⟩;refine zR rfl (fb 0 aa aJ rfl (by simp) rfl) <| ao rfl rfl (aQ rfl mD rfl (gY F a1 q2 ([13, 10] : List UInt8) (some t4) x5 e6) ?_);refine za rfl <| ak <| aj ?_;obtain ⟨x7, e8, H⟩ := dG H;obtain ⟨x10, e11, H⟩ := fE H;obtain ⟨g15, H⟩ := cE H;obtain ⟨x16, e17, H⟩ := cc H;refine ac ?_;show AR _ _ _ _ _ [0, 1, 2, 3, 4, 5, 6, 7, 8, 9, 10, 11, 12, 13, 14, 15, 16, 17, 18, 19, 20, 21, 22, 23] _;refine zS rfl (ag (av := slE _ _ _) rfl) <| zR rfl (bU (E := Enc.byte) (bytes := 1) (xs := [.const _]) (l := ([13] : List UInt8)) aa (by kernel_rfl) rfl rfl (by decide) rfl rfl) <| ao rfl rfl (aQ rfl mD rfl (gY F a1 q2 ([13] : List UInt8) none x7 e8) ?_);refine zm rfl <| zS rfl (bN rfl rfl) <| zm rfl <| aN (l := [12, 13, 14, 15, 16, 17, 18, 19, 20, 21, 22, 23]) 19 (B ((decide (x7 = x5)) && (decide (x10 = x5)))) (fun K => ?_) ?_
 ·rcases af (decide (x7 = x5)) with h9 | h9
  ·refine zU h9 rfl (ag (av := slE _ _ _) rfl) <| zT h9 rfl (bM rfl rfl (bU (E := Enc.byte) (bytes := 1) (xs := [.const _]) (l := ([10] : List UInt8)) aa (by kernel_rfl) rfl rfl (by decide) rfl rfl) ?_);refine zT h9 rfl (aQ rfl mD rfl (gY F a1 q2 ([10] : List UInt8) none x10 (e11 h9)) ?_);refine zM h9 rfl <| zU h9 rfl (bN rfl rfl) <| zS rfl (ax (av := .v _) rfl h9 rfl) ?_;exact K _ 5 _ (ap (bZ h9)) rfl rfl
  ·refine zF h9 rfl <| zF h9 rfl <| zF h9 rfl <| zF h9 rfl <| zF h9 rfl <| zS rfl (aw (av := .v _) rfl h9 rfl) ?_;exact K _ 5 _ (ap (ca h9)) rfl rfl
 refine zm rfl <| aN (l := [23]) 30 (B (((decide (x7 = x5)) && (decide (x10 = x5))) && ((decide ((a1.length : Int) = 0)) || x16))) (fun K => ?_) ?_
 ·rcases af ((decide (x7 = x5)) && (decide (x10 = x5))) with h12 | h12
  ·refine zU h12 rfl (ag (av := slE _ _ _) rfl) <| zU h12 rfl (aU aa rfl) <| zU h12 rfl (bN rfl rfl) <| zM h12 rfl <| aN (l := [22, 23]) 29 (B ((decide ((a1.length : Int) = 0)) || x16)) (fun K => ?_) ?_
   ·rcases af (decide ((a1.length : Int) = 0)) with h13 | h13
    ·refine zF h13 rfl <| zF h13 rfl <| zF h13 rfl <| zF h13 rfl <| zU h12 rfl (ax (av := .v _) rfl h13 rfl) ?_;exact K _ 4 _ (ap (fT h13)) rfl rfl
    ·refine zU h13 rfl (ag (av := slE _ _ _) rfl) <| zT h13 rfl (AO.opx rfl rfl (gN (E := Enc.byte) (bytes := 1) (xs := [.const _, .const _]) (l := ([13, 10] : List UInt8)) aa (by kernel_rfl) rfl rfl (by decide) rfl rfl) ?_);rintro _ _ ⟨t14, rfl, rfl⟩;refine zT h13 rfl (bM rfl rfl (fb 0 aa aJ rfl (by simp) rfl) ?_);refine zT h13 rfl (aQ rfl en53_dot rfl (show ACalls _ _ _ [] (Ret (B x16) []) from by subst e17; exact jY a1 ([13, 10] : List UInt8) q2 (some t14) (dV (g15 (dN h12 (nf h13))))) ?_);refine AR.subL [1] rfl ?_;show AR _ _ _ _ _ _ ⟨_, _, [.tok t4 5]⟩;refine zU h12 rfl (aw (av := .v _) rfl h13 rfl) ?_;exact K _ 4 _ (ap (fU h13)) rfl rfl
   refine zS rfl (ax (av := .v _) rfl h12 rfl) ?_;exact K _ 5 _ (ap (bZ h12)) rfl rfl
  ·refine zF h12 rfl <| zF h12 rfl <| zF h12 rfl <| zF h12 rfl <| gU rfl rfl rfl rfl rfl <| gU rfl rfl rfl rfl rfl <| gU rfl rfl rfl rfl rfl <| gU rfl rfl rfl rfl rfl <| zF h12 rfl <| zS rfl (aw (av := .v _) rfl h12 rfl) ?_;exact K _ 9 _ (ap (ca h12)) rfl rfl
 refine za rfl <| ak <| aR ?_;obtain rfl := aC H;exact And.intro rfl (Exists.intro _ (Exists.intro _ ⟨aV rfl (.refl _), aL [] rfl, rfl, rfl⟩))
set_option maxRecDepth 100000 in
set_option maxHeartbeats 1000000 in
theorem nU (F : Nat) {σ τ : Type} (T : σ → τ → List Chunk) (k : σ → (List UInt8) → Option (σ × Bool)) (o : Nat) (hY : ∀ (s : σ) (t : τ) (x : List UInt8) (rv : σ × Bool), k s x = some rv → fS Tryz.prog o [slE Enc.byte x none] (T s t) fun ae A' => ∃ t', ae = .ret (.v (.bool rv.2)) ∧ A' = T rv.1 t') (st0 : σ) (tt0 : τ) (o1 : Nat) (a2 : List UInt8) (rs : σ) (r3 : List UInt8) (H : iE F k st0 a2 = some (rs, r3)) : ACalls Tryz.prog 60 [.yl o, .pt o1 0] ([.obj o1 [slE Enc.byte a2 none]] ++ T st0 tt0) (fun e A' => ∃ tz, e = .ret (.tup []) ∧ A' = [.obj o1 [slE Enc.byte r3 none]] ++ T rs tz) := by
 unfold iE at H
 refine aA Tryz.func60 rfl rfl ?_;show AW _ _ 23 _ _ _;refine bi <| dC (X := Nat × (List UInt8) × σ × τ) (fun (n8, y4, y5, t6) => ⟨[(0, .yl o), (1, .pt o1 0)], [], ([.obj o1 [slE Enc.byte y4 none]] ++ T y5 t6)⟩) (fun (n8, y4, y5, t6) => ez k n8 (y4, y5) = some (rs, r3)) (fun (n8, y4, y5, t6) => n8) (F, a2, st0, tt0) H (WK.atT 1 [0] (.cons (.refl _) (.cons (.refl _) (.nil _))) rfl) ?_;rintro ⟨n8, y4, y5, t6⟩ H;obtain ⟨n8, rfl, H⟩ := fg H;replace H : dJ k (ez k n8) y4 y5 = some (rs, r3) := H
 unfold dJ at H
 refine bi <| aj ?_;obtain ⟨g10, H⟩ := aX H;obtain ⟨g11, H⟩ := aX H;obtain ⟨g12, H⟩ := aX H;obtain ⟨x13, e14, H⟩ := cc H;refine ac ?_;show AR _ _ _ _ _ [0, 1, 2, 3, 4] _;refine zR rfl (ai (i := 0) aa rfl rfl rfl rfl) <| zX rfl (gN (E := Enc.byte) (bytes := 1) (xs := [.const _, .const _]) (l := ([13, 10] : List UInt8)) aa (by kernel_rfl) rfl rfl (by decide) rfl rfl) ?_;rintro _ _ ⟨t9, rfl, rfl⟩;refine zR rfl (fb 0 aa aJ rfl (by simp) rfl) <| ao rfl rfl (aQ rfl pA rfl (show ACalls _ _ _ [] (Ret (i64 x13) []) from by subst e14; exact jd y4 ([13, 10] : List UInt8) none (some t9) (dV g10) (of_decide_eq_true g11) (dV g12)) ?_);refine za rfl <| ak <| aj <| aj ?_
 rcases af (decide (x13 < 0)) with h15 | h15
 ·replace H := bk h15 H;refine ac ?_;show AR _ _ _ _ _ [0, 1, 2, 3, 4, 5, 6, 7, 8, 9, 10] _;refine zm rfl <| zS rfl (cf rfl rfl) <| zm rfl <| zF h15 rfl <| zF h15 rfl <| zF h15 rfl <| zF h15 rfl <| zF h15 rfl <| zF h15 rfl <| zF h15 rfl <| zS rfl (ax (av := .v _) rfl h15 rfl) <| ak <| aG rfl (fun _ => ?_) (fun hx => ib rfl hx);refine aR ?_;obtain ⟨rfl, rfl⟩ := fD H;exact And.intro rfl (Exists.intro _ (Exists.intro _ ⟨bc rfl, Sub.atT 2 [1] rfl, t6, rfl, rfl⟩))
 ·replace H := bb h15 H;obtain ⟨g16, H⟩ := aX H;obtain ⟨g17, H⟩ := aX H;obtain ⟨x18, e19, H⟩ := cc H;obtain ⟨x20, x21, e22, H⟩ := dL H;refine ac ?_;show AR _ _ _ _ _ [0, 1, 2, 3, 4, 5, 6, 7, 8, 9, 10] _;refine zm rfl <| zS rfl (cf rfl rfl) <| zm rfl <| zU h15 rfl (ag (av := .yl _) rfl) <| zT h15 rfl (bM rfl rfl (ai (i := 1) aa rfl rfl rfl rfl) ?_);refine zM h15 rfl <| zU h15 rfl (eZ rfl rfl g16) <| zU h15 rfl (ot (E := Enc.byte) aa (by kernel_rfl) rfl rfl g17 e19) <| zT h15 rfl (AO.yieldT (s' := x20) (b := x21) 2 rfl rfl rfl (hY _ _ _ _ e22) fun t23 => ?_);show AR _ _ _ _ _ _ ⟨_, _, ([.tok t9 5, .obj o1 [slE Enc.byte y4 none]] ++ T x20 t23)⟩;refine zU h15 rfl (dP rfl) <| zS rfl (aw (av := .v _) rfl h15 rfl) <| ak <| aG rfl (fun c24 => ?_) (fun c24 => ?_)
  ·replace H := bk c24 H;refine aR ?_;obtain ⟨rfl, rfl⟩ := fD H;exact And.intro rfl (Exists.intro _ (Exists.intro _ ⟨bc rfl, Sub.atT 2 [1] rfl, t23, rfl, rfl⟩))
  ·replace H := bb c24 H;refine aM ?_;obtain ⟨g25, H⟩ := aX H;obtain ⟨g26, H⟩ := aX H;obtain ⟨x27, e28, H⟩ := cc H;refine ac ?_;show AR _ _ _ _ _ [0, 1, 2, 3, 4] _;refine zR rfl (ai (i := 1) aa rfl rfl rfl rfl) <| zm rfl <| zS rfl (eZ rfl rfl g25) <| zS rfl (cR (E := Enc.byte) aa (by kernel_rfl) rfl rfl g26 e28) <| s0 rfl rfl (ar (i := 1) (c := slE _ _ _) (by kernel_rfl) rfl rfl rfl rfl (ab rfl)) <| ak ?_;exact Exists.intro (n8, x27, x20, t23) ⟨H, Nat.lt_succ_self _, WK.atT 2 [1] (.cons (.refl _) (.cons (.refl _) (.nil _))) rfl⟩
set_option maxRecDepth 100000 in
set_option maxHeartbeats 1000000 in
theorem oO (F : Nat) (a1 : List UInt8) (H : jy F a1 = some ()) : ACalls Tryz.prog 40 [slE Enc.byte a1 none] [] (fun e A' => ∃ ob1 : Nat, e = .ret (.fn (.func 60) [] [.pt ob1 0]) ∧ A' = [.obj ob1 [slE Enc.byte a1 none]]) := by
 unfold jy at H
 refine aA Tryz.func40 rfl rfl ?_;show AW _ _ 4 _ _ _;refine aj <| ac ?_;show AR _ _ _ _ _ [0, 1] _;refine zX rfl (jH rfl (.inl rfl)) ?_;rintro _ _ ⟨o2, rfl, rfl⟩;refine za rfl <| ak <| aj <| ac ?_;show AR _ _ _ _ _ [0, 1] _;refine zS rfl (fN rfl rfl) <| zS rfl (ay (av := .fn _ _ _) rfl) <| ak <| aR ?_;exact And.intro rfl (Exists.intro _ (Exists.intro _ ⟨aV rfl (.refl _), aL [0] rfl, o2, rfl, rfl⟩))
set_option maxRecDepth 100000 in
set_option maxHeartbeats 1000000 in
theorem lk (F : Nat) (a1 : List UInt8) (q2 : Option Nat) (r3 : List UInt8) (r4 : Int) (H : gJ F a1 = some (r3, r4)) : ACalls Tryz.prog 17 [slE Enc.byte a1 q2] [] (Ret (.tup [slE Enc.byte r3 none, i64 r4]) []) := by
 unfold gJ at H
 refine lJ Tryz.func17 rfl rfl ?_;show AW _ _ 24 _ _ _;refine aj <| ac ?_;show AR _ _ _ _ _ [0, 1] _;refine za rfl <| za rfl <| ak <| aj <| aj ?_;obtain ⟨x5, e6, H⟩ := dG H;refine ac ?_;show AR _ _ _ _ _ [0, 1, 2] _;refine zS rfl (ag (av := slE _ _ _) rfl) <| ao rfl rfl (aQ rfl en29_dot rfl (mV F a1 q2 x5 e6) ?_);refine zS rfl (dP rfl) <| ak <| aG rfl (fun c7 => ?_) (fun c7 => ?_)
 ·replace H := bk c7 H;refine aj <| ac ?_;show AR _ _ _ _ _ [0, 1] _;refine za rfl <| za rfl <| ak <| aR ?_;obtain ⟨rfl, rfl⟩ := fD H;exact Exists.intro _ (And.intro (.nil _) (Exists.intro _ (Exists.intro _ ⟨bK rfl (.nil _) (.refl _), aL [] rfl, rfl, rfl⟩)))
 ·replace H := bb c7 H;refine aM <| aj <| ac ?_;show AR _ _ _ _ _ [0] _;refine zX rfl (bQ (zs := [.slice none 0 0]) (by kernel_rfl)) ?_;rintro _ _ ⟨o8, rfl, rfl⟩;refine ak ?_
  refine AW.nil_objAt 0 0 1 5 rfl rfl fun t9 => ?_
  show AW _ _ _ _ _ ⟨_, _, [.tok t9 5, .obj o8 [slE Enc.byte [] (some t9)]]⟩;refine bX (X := Nat × (List UInt8) × Nat) (fun (t36, y37, t38) => ⟨[(4, .pt o8 0)], [.mark t36], [.obj o8 [slE Enc.byte y37 (some t38)], .tok t38 5, .db t36]⟩) (fun (t36, y37, t38) => fO y37 = some (r3, r4)) ?_ ?_
  ·refine aj ?_;obtain ⟨_, e10, H⟩ := dG H;refine ac ?_;show AR _ _ _ _ _ [0, 1] _;refine zS rfl (ag (av := slE _ _ _) rfl) <| ao rfl rfl (co [] rfl en40_dot rfl (kz (.cons (.tok _ _ _) (.nil)) (oO F a1 e10)) rfl (fun c A' h => by obtain ⟨_, h, _⟩ := h; cases h) ?_)
   rintro av A' ⟨o11, h, rfl⟩; cases h
   refine ak <| bi ?_;obtain ⟨x31, x32, e33, H⟩ := dL H;refine AW.rangeK (α := List UInt8) (σ := (List UInt8)) (τ := Nat) (fun x => [slE Enc.byte x none]) (fun s t => [.obj o8 [slE Enc.byte s (some t)], .tok t 5]) (fun _ => none) (fun s x => cz s x) [] t9 x31 [0] [1, 0] rfl en60_dot (fun _ => rfl) (by decide) rfl rfl rfl (fun o T' hY => nU F T' _ o hY _ _ o11 a1 x31 x32 e33) ?_ ?_
   ·rintro l y12 t13 x15 rv H;replace H : cz y12 x15 = some rv := H
    unfold cz at H
    refine ⟨rfl, ?_⟩;show AW _ _ _ _ _ ⟨(11, slE Enc.byte x15 none) :: _, [], _⟩;refine ac ?_;show AR _ _ _ _ _ [0] _;refine zS rfl (ay (av := slE _ _ _) rfl) <| ak <| bi <| bX (X := (List UInt8) × Nat) (fun (y24, t25) => ⟨[(4, .pt o8 0), (5, slE Enc.byte x15 none)], [], [.obj o8 [slE Enc.byte y24 (some t25)], .tok t25 5]⟩) (fun (y24, t25) => eV x15 y24 = some rv) ?_ ?_
    ·refine aj ?_;obtain ⟨g16, H⟩ := aX H;obtain ⟨x17, e18, H⟩ := cc H;refine ac ?_;show AR _ _ _ _ _ [0, 1, 2, 3] _;refine zS rfl (ag (av := slE _ _ _) rfl) <| zS rfl (bq (E := Enc.byte) aa (by kernel_rfl) rfl rfl g16 e18) <| zS rfl (aI aJ rfl rfl) <| zS rfl (eo (a := x17) (b := 46) rfl rfl) <| ak <| aG rfl (fun c19 => ?_) (fun c19 => ?_)
     ·replace H := bk c19 H;obtain ⟨g21, H⟩ := aX H;obtain ⟨x22, e23, H⟩ := cc H;refine ac ?_;show AR _ _ _ _ _ [0, 1, 2, 3] _;refine zR rfl (ai (i := 0) aa rfl rfl rfl rfl) <| zR rfl (bU (E := Enc.byte) (bytes := 1) (xs := [.const _]) (l := ([46] : List UInt8)) aa (by kernel_rfl) rfl rfl (by decide) rfl rfl) <| zX rfl (dK (E := Enc.byte) (bytes := 1) 1 aa aa rfl (by kernel_rfl) rfl rfl rfl rfl g21 e23) ?_;rintro _ _ ⟨t20, rfl, rfl⟩;refine s0 rfl rfl (ar (i := 0) (c := slE _ _ _) (by kernel_rfl) rfl rfl rfl rfl (ab rfl)) <| ak ?_;exact Exists.intro (x22, t20) ⟨H, aY [0, 0] (.cons (.refl _) (.cons (.refl _) (.nil _))) rfl⟩
     ·replace H := bb c19 H;refine aM ?_;exact Exists.intro (y12, t13) ⟨H, aY [0, 0] (.cons (.refl _) (.cons (.refl _) (.nil _))) rfl⟩
    rintro ⟨y24, t25⟩ H;replace H : eV x15 y24 = some rv := H
    unfold eV at H
    obtain ⟨g28, H⟩ := aX H;obtain ⟨x29, e30, H⟩ := cc H;refine ac ?_;show AR _ _ _ _ _ [0, 1, 2, 3] _;refine zR rfl (ai (i := 0) aa rfl rfl rfl rfl) <| zS rfl (ag (av := slE _ _ _) rfl) <| zX rfl (dK (E := Enc.byte) (bytes := 1) 1 aa aa rfl (by kernel_rfl) rfl rfl rfl rfl g28 e30) ?_;rintro _ _ ⟨t27, rfl, rfl⟩;refine s0 rfl rfl (ar (i := 0) (c := slE _ _ _) (by kernel_rfl) rfl rfl rfl rfl (ab rfl)) <| ak ?_;obtain rfl := aC H;exact ⟨rfl, rfl, t27, aL [0, 0] rfl⟩
   rintro o35 t34;exact Exists.intro (o35, x31, t34) ⟨H, aY [2, 2, 0] (.cons (.refl _) (.nil _)) rfl⟩
  rintro ⟨t36, y37, t38⟩ H;replace H : fO y37 = some (r3, r4) := H
  unfold fO at H
  refine aj ?_;obtain ⟨g41, H⟩ := aX H;obtain ⟨x42, e43, H⟩ := cc H;refine ac ?_;show AR _ _ _ _ _ [0, 1, 2, 3] _;refine zR rfl (ai (i := 0) aa rfl rfl rfl rfl) <| zX rfl (iA (bytes := 1) 1 aa al rfl (by kernel_rfl) rfl rfl rfl rfl g41 e43) ?_;rintro _ _ ⟨t40, rfl, rfl⟩;refine zS rfl (ay (av := slE _ _ _) rfl) <| za rfl <| ak <| aR ?_;obtain ⟨rfl, rfl⟩ := fD H;exact Exists.intro _ (And.intro (Unmark.at 2 rfl (.nil _)) (Exists.intro _ (Exists.intro _ ⟨bK rfl (.tok _ _ _) (.refl _), aL [] rfl, rfl, rfl⟩)))
end Go.Proofs.YtgjkjkmmgdbcoaaGreatDoor
namespace Go.Pv
def clia_k1 : List UInt8 := [97, 98, 99, 100, 101, 102, 103, 104, 105, 106, 107, 108, 109, 110, 111, 112, 113, 114, 115, 116, 117, 118, 119, 120, 121, 122, 65, 66, 67, 68, 69, 70, 71, 72, 73, 74, 75, 76, 77, 78, 79, 80, 81, 82, 83, 84, 85, 86, 87, 88, 89, 90, 48, 49, 50, 51, 52, 53, 54, 55, 56, 57, 46, 45, 95, 43]
def clia_k2 : List UInt8 := [97, 98, 99, 100, 101, 102, 103, 104, 105, 106, 107, 108, 109, 110, 111, 112, 113, 114, 115, 116, 117, 118, 119, 120, 121, 122, 65, 66, 67, 68, 69, 70, 71, 72, 73, 74, 75, 76, 77, 78, 79, 80, 81, 82, 83, 84, 85, 86, 87, 88, 89, 90, 48, 49, 50, 51, 52, 53, 54, 55, 56, 57, 46, 45]
def gO (a1 : List UInt8) : Option Bool :=
some ((!decide (a1 = ([] : List UInt8))) && (decide ((a1.length : Int) ≤ 60)))
def gQ (a1 : List UInt8) (a2 : List UInt8) (rec5 : Int → Option Bool) (y4 : Int) : Option Bool :=
bif decide (y4 < (a1.length : Int)) then
  grd (cA y4 a1.length) <|
  lt (at_ a1 y4) fun x9 =>
  lt (Go.Lib.indexByte a2 x9) fun x11 =>
  bif decide (x11 < 0) then
    some false
  else
    grd (okI (y4 + 1)) <|
    rec5 (y4 + 1)
else
  gO a1
def gP (a1 : List UInt8) (a2 : List UInt8) (n : Nat) : Int → Option Bool :=
  loop (fun rec x => gQ a1 a2 rec x) n
def iR (F : Nat) (a1 : List UInt8) (a2 : List UInt8) : Option Bool :=
gP a1 a2 F 0
def fX (F : Nat) (a1 : List UInt8) : Option Bool :=
grd (okS a1.length) <|
lt (Go.Lib.cut a1 ([64] : List UInt8)) fun x4 =>
js x4.2.2 (iR F x4.1 clia_k1) fun x7 =>
js (x4.2.2 && x7) (iR F x4.2.1 clia_k1) fun x10 =>
some ((((x4.2.2 && x7) && x10) && (decide (3 ≤ (a1.length : Int)))) && (decide ((a1.length : Int) ≤ 60)))
def iw (F : Nat) (a1 : List UInt8) (a2 : List UInt8) (a3 : List UInt8) (a4 : List UInt8) : Option (Int × Int × (List UInt8) × (List UInt8) × (List UInt8) × (List UInt8) × Int) :=
bnd (fX F a1) fun x14 =>
js (!(!x14)) (fX F a2) fun x17 =>
js (!((!x14) || (!x17))) (iR F a3 clia_k2) fun x20 =>
js (!(((!x14) || (!x17)) || (!x20))) (jI F a4) fun x23 =>
bif (((!x14) || (!x17)) || (!x20)) || (!x23) then
  some (0, 0, ([] : List UInt8), ([] : List UInt8), ([] : List UInt8), [], 1)
else
  grd (okS a4.length) <|
  some (0, 0, a1, a2, a3, a4, 0)
def gm (a1 : List UInt8) (a2 : List UInt8) (y25 : List UInt8) : Option Bool :=
grd (decide (y25.length = a1.length)) <|
some (decide (y25 = a2))
def fy (y7 : Int) (rec9 : (Int × (List UInt8)) → Option Bool) (y22 : List UInt8) : Option Bool :=
grd (okI (y7 + 1)) <|
rec9 (y7 + 1, y22)
def eK (a1 : List UInt8) (a2 : List UInt8) (rec9 : (Int × (List UInt8)) → Option Bool) (y7 : Int) (y8 : List UInt8) : Option Bool :=
bif decide (y7 < (a1.length : Int)) then
  grd (cA y7 a1.length) <|
  grd (cA y7 y8.length) <|
  lt (at_ y8 y7) fun x14 =>
  bif (decide (65 ≤ (x14.toNat : Int))) && (decide ((x14.toNat : Int) ≤ 90)) then
    grd (cA y7 a1.length) <|
    grd (cA y7 y8.length) <|
    lt (y8.set (Int.toNat y7) ((x14 + 97) - 65)) fun x20 =>
    fy y7 rec9 x20
  else
    fy y7 rec9 y8
else
  gm a1 a2 y8
def ec (a1 : List UInt8) (a2 : List UInt8) (n : Nat) : (Int × (List UInt8)) → Option Bool :=
  loop (fun rec x => eK a1 a2 rec x.1 x.2) n
def jo (F : Nat) (a1 : List UInt8) (a2 : List UInt8) : Option Bool :=
grd (eW a1.length) <|
ec a1 a2 F (0, a1)
def iG : Option Int :=
some 0
def fY (y7 : Int) (rec8 : Int → Option Int) : Option Int :=
grd (okI (y7 + 1)) <|
rec8 (y7 + 1)
def eh (F : Nat) (a2 : List (List UInt8)) (rec8 : Int → Option Int) (y7 : Int) : Option Int :=
bif decide (y7 < (a2.length : Int)) then
  grd (cA y7 a2.length) <|
  lt (at_ a2 y7) fun x12 =>
  grd (okS x12.length) <|
  lt (Go.Lib.cut x12 ([32] : List UInt8)) fun x15 =>
  js (!((decide (y7 = 0)) || (!x15.2.2))) (jo F x15.1 ([115, 105, 122, 101] : List UInt8)) fun x19 =>
  dT (!(((((decide (y7 = 0)) || (!x15.2.2)) || (!x19)) || (decide (x15.2.1 = ([] : List UInt8)))) || (decide (9 < (x15.2.1.length : Int))))) (okS x15.2.1.length) <|
  dT (!(((((decide (y7 = 0)) || (!x15.2.2)) || (!x19)) || (decide (x15.2.1 = ([] : List UInt8)))) || (decide (9 < (x15.2.1.length : Int))))) (okS ([48, 49, 50, 51, 52, 53, 54, 55, 56, 57] : List UInt8).length) <|
  dT (!(((((decide (y7 = 0)) || (!x15.2.2)) || (!x19)) || (decide (x15.2.1 = ([] : List UInt8)))) || (decide (9 < (x15.2.1.length : Int))))) (oJ ([48, 49, 50, 51, 52, 53, 54, 55, 56, 57] : List UInt8)) <|
  lt (Go.Lib.trimS x15.2.1 ([48, 49, 50, 51, 52, 53, 54, 55, 56, 57] : List UInt8)) fun x27 =>
  bif (((((decide (y7 = 0)) || (!x15.2.2)) || (!x19)) || (decide (x15.2.1 = ([] : List UInt8)))) || (decide (9 < (x15.2.1.length : Int)))) || (!decide (x27 = ([] : List UInt8))) then
    fY y7 rec8
  else
    hP (cT F x15.2.1) fun x30 x31 =>
    bif decide (x31 = 0) then
      some x30
    else
      fY y7 rec8
else
  iG
def eQ (F : Nat) (a2 : List (List UInt8)) (n : Nat) : Int → Option Int :=
  loop (fun rec x => eh F a2 rec x) n
def kT (F : Nat) (a1 : Int) (a2 : List (List UInt8)) (a3 : Int) (a4 : Int) (a5 : Int) : Option Int :=
eQ F a2 F 0
def gH (F : Nat) (a2 : Int) (a3 : Int) (a4 : List UInt8) (a5 : List UInt8) (a6 : List UInt8) (a7 : List UInt8) (a8 : List UInt8) (a10 : Int) (a11 : List (List UInt8)) : Option (Int × (List UInt8)) :=
grd (oz a11 ([] : List UInt8)) <|
lt (Go.Av.Str.join ([] : List UInt8) a11) fun x17 =>
grd (eW (x17.length + ([13, 10] : List UInt8).length)) <|
lt (x17 ++ ([13, 10] : List UInt8)) fun x20 =>
grd (eW (a8.length + x20.length)) <|
lt (a8 ++ x20) fun x24 =>
some (a10, x24)
def ia (F : Nat) (a2 : Int) (a3 : Int) (a4 : List UInt8) (a5 : List UInt8) (a6 : List UInt8) (a7 : List UInt8) (a8 : List UInt8) (a10 : Int) : Option (Int × Int × (List UInt8)) :=
hP (gH F a2 a10 a4 a5 a6 a7 a8 6 ([([81, 85, 73, 84] : List UInt8)] : List (List UInt8))) fun x15 x16 =>
some (x15, a10, x16)
def kP (F : Nat) (a2 : Int) (a3 : Int) (a4 : List UInt8) (a5 : List UInt8) (a6 : List UInt8) (a7 : List UInt8) (a8 : List UInt8) : Option (Int × Int) :=
bif decide (a3 = 0) then
  some (7, 2)
else
  some (7, a3)
def jq (F : Nat) (a2 : Int) (a3 : Int) (a4 : List UInt8) (a5 : List UInt8) (a6 : List UInt8) (a7 : List UInt8) (a8 : List UInt8) (a10 : Int) (a11 : List (List UInt8)) (a12 : Int) (a13 : Int) (a14 : Int) : Option (Bool × Int × (List UInt8)) :=
bif !decide (a10 = 220) then
  some (false, a2, a8)
else
  hP (gH F a2 a3 a4 a5 a6 a7 a8 1 ([([69, 72, 76, 79, 32] : List UInt8), a6] : List (List UInt8))) fun x20 x21 =>
  some (true, x20, x21)
def jp (F : Nat) (a2 : Int) (a3 : Int) (a4 : List UInt8) (a5 : List UInt8) (a6 : List UInt8) (a7 : List UInt8) (a8 : List UInt8) (a10 : Int) (a11 : List (List UInt8)) (a12 : Int) (a13 : Int) (a14 : Int) : Option (Bool × Int × Int × (List UInt8)) :=
bif !decide (IntKind.i64.wrap (Int.tdiv a10 100) = 2) then
  some (false, a2, a3, a8)
else
  hP (gJ F a7) fun x21 x22 =>
  bnd (kT F a10 a11 a12 a13 a14) fun x24 =>
  bif (decide (0 < x24)) && (decide (x24 < (x21.length : Int))) then
    kB (ia F a2 a3 a4 a5 a6 a7 a8 3) fun x28 x29 x30 =>
    some (true, x28, x29, x30)
  else
    hP (gH F a2 a3 a4 a5 a6 a7 a8 2 ([([77, 65, 73, 76, 32, 70, 82, 79, 77, 58, 60] : List UInt8), a4, ([62] : List UInt8)] : List (List UInt8))) fun x33 x34 =>
    some (true, x33, a3, x34)
def kO (F : Nat) (a2 : Int) (a3 : Int) (a4 : List UInt8) (a5 : List UInt8) (a6 : List UInt8) (a7 : List UInt8) (a8 : List UInt8) (a10 : Int) (a11 : List (List UInt8)) (a12 : Int) (a13 : Int) (a14 : Int) : Option (Bool × Int × (List UInt8)) :=
bif !decide (IntKind.i64.wrap (Int.tdiv a10 100) = 2) then
  some (false, a2, a8)
else
  hP (gH F a2 a3 a4 a5 a6 a7 a8 3 ([([82, 67, 80, 84, 32, 84, 79, 58, 60] : List UInt8), a5, ([62] : List UInt8)] : List (List UInt8))) fun x20 x21 =>
  some (true, x20, x21)
def kN (F : Nat) (a2 : Int) (a3 : Int) (a4 : List UInt8) (a5 : List UInt8) (a6 : List UInt8) (a7 : List UInt8) (a8 : List UInt8) (a10 : Int) (a11 : List (List UInt8)) (a12 : Int) (a13 : Int) (a14 : Int) : Option (Bool × Int × (List UInt8)) :=
bif !decide (IntKind.i64.wrap (Int.tdiv a10 100) = 2) then
  some (false, a2, a8)
else
  hP (gH F a2 a3 a4 a5 a6 a7 a8 4 ([([68, 65, 84, 65] : List UInt8)] : List (List UInt8))) fun x20 x21 =>
  some (true, x20, x21)
def kQ (F : Nat) (a2 : Int) (a3 : Int) (a4 : List UInt8) (a5 : List UInt8) (a6 : List UInt8) (a7 : List UInt8) (a8 : List UInt8) (a10 : Int) (a11 : List (List UInt8)) (a12 : Int) (a13 : Int) (a14 : Int) : Option (Bool × Int × (List UInt8)) :=
bif !decide (a10 = 354) then
  some (false, a2, a8)
else
  hP (gJ F a7) fun x20 x21 =>
  grd (eW (a8.length + x20.length)) <|
  lt (a8 ++ x20) fun x25 =>
  some (true, 5, x25)
def kR (F : Nat) (a2 : Int) (a3 : Int) (a4 : List UInt8) (a5 : List UInt8) (a6 : List UInt8) (a7 : List UInt8) (a8 : List UInt8) (a10 : Int) (a11 : List (List UInt8)) (a12 : Int) (a13 : Int) (a14 : Int) : Option (Bool × Int × Int × (List UInt8)) :=
bif !decide (IntKind.i64.wrap (Int.tdiv a10 100) = 2) then
  some (false, a2, a3, a8)
else
  kB (ia F a2 a3 a4 a5 a6 a7 a8 1) fun x21 x22 x23 =>
  some (true, x21, x22, x23)
def lR (F : Nat) (a2 : Int) (a3 : Int) (a4 : List UInt8) (a5 : List UInt8) (a6 : List UInt8) (a7 : List UInt8) (a8 : List UInt8) (a10 : Int) (a11 : List (List UInt8)) (a12 : Int) (a13 : Int) (a14 : Int) : Option (Bool × Int) :=
some (true, 7)
def eB (F : Nat) : Option Unit :=
some ()
def cI (F : Nat) (a4 : List UInt8) (a5 : List UInt8) (a6 : List UInt8) (a7 : List UInt8) (a10 : Int) (y74 : Bool) (y75 : Int) (y76 : Int) (y77 : List UInt8) : Option (Int × Int × (List UInt8)) :=
bif y74 then
  some (y75, y76, y77)
else
  bif (decide (500 ≤ a10)) && (decide (a10 ≤ 599)) then
    kB (ia F y75 y76 a4 a5 a6 a7 y77 3) fun x83 x84 x85 =>
    some (x83, x84, x85)
  else
    kB (ia F y75 y76 a4 a5 a6 a7 y77 2) fun x88 x89 x90 =>
    some (x88, x89, x90)
def jJ (F : Nat) (a2 : Int) (a3 : Int) (a4 : List UInt8) (a5 : List UInt8) (a6 : List UInt8) (a7 : List UInt8) (a8 : List UInt8) (a10 : Int) (a11 : List (List UInt8)) (a12 : Int) (a13 : Int) (a14 : Int) : Option (Int × Int × (List UInt8)) :=
bif (decide (a2 < 0)) || (decide (7 ≤ a2)) then
  some (a2, a3, a8)
else
  bif decide (a10 = 421) then
    hP (kP F a2 a3 a4 a5 a6 a7 a8) fun x22 x23 =>
    some (x22, x23, a8)
  else
    grd (cA a2 7) <|
    bif decide (a2 = 0) then
      bnd (eB F) fun _ =>
      kB (jq F 0 a3 a4 a5 a6 a7 a8 a10 a11 a12 a13 a14) fun x27 x28 x29 =>
      cI F a4 a5 a6 a7 a10 x27 x28 a3 x29
    else
      bif decide (a2 = 1) then
        bnd (eB F) fun _ =>
        bnd4 (jp F 1 a3 a4 a5 a6 a7 a8 a10 a11 a12 a13 a14) fun x34 x35 x36 x37 =>
        cI F a4 a5 a6 a7 a10 x34 x35 x36 x37
      else
        bif decide (a2 = 2) then
          bnd (eB F) fun _ =>
          kB (kO F 2 a3 a4 a5 a6 a7 a8 a10 a11 a12 a13 a14) fun x42 x43 x44 =>
          cI F a4 a5 a6 a7 a10 x42 x43 a3 x44
        else
          bif decide (a2 = 3) then
            bnd (eB F) fun _ =>
            kB (kN F 3 a3 a4 a5 a6 a7 a8 a10 a11 a12 a13 a14) fun x49 x50 x51 =>
            cI F a4 a5 a6 a7 a10 x49 x50 a3 x51
          else
            bif decide (a2 = 4) then
              bnd (eB F) fun _ =>
              kB (kQ F 4 a3 a4 a5 a6 a7 a8 a10 a11 a12 a13 a14) fun x56 x57 x58 =>
              cI F a4 a5 a6 a7 a10 x56 x57 a3 x58
            else
              bif decide (a2 = 5) then
                bnd (eB F) fun _ =>
                bnd4 (kR F 5 a3 a4 a5 a6 a7 a8 a10 a11 a12 a13 a14) fun x63 x64 x65 x66 =>
                cI F a4 a5 a6 a7 a10 x63 x64 x65 x66
              else
                bnd (eB F) fun _ =>
                hP (lR F 6 a3 a4 a5 a6 a7 a8 a10 a11 a12 a13 a14) fun x71 x72 =>
                cI F a4 a5 a6 a7 a10 x71 x72 a3 a8
def jr (F : Nat) (a1 : Int) (a2 : Int) (a3 : List UInt8) (a4 : List UInt8) (a5 : List UInt8) (a6 : List UInt8) : Option Unit :=
grd (okS a6.length) <|
some ()
def kS (F : Nat) (a1 : Int) (a2 : Int) (a3 : List UInt8) (a4 : List UInt8) (a5 : List UInt8) (a6 : List UInt8) (a7 : Int) (a8 : List (List UInt8)) (a9 : Int) (a10 : Int) (a11 : Int) : Option (Int × Int × (List UInt8) × (List UInt8) × (List UInt8) × (List UInt8) × (List UInt8)) :=
bnd (jr F a1 a2 a3 a4 a5 a6) fun _ =>
kB (jJ F a1 a2 a3 a4 a5 a6 [] a7 a8 a9 a10 a11) fun x23 x24 x25 =>
some (x23, x24, a3, a4, a5, a6, x25)
def iu (a3 : List UInt8) (a4 : List UInt8) (a5 : List UInt8) (a6 : List UInt8) (y48 : List UInt8) (y55 : Int) (y56 : Int) : Option (Int × Int × (List UInt8) × (List UInt8) × (List UInt8) × (List UInt8) × (List UInt8)) :=
some (y55, y56, a3, a4, a5, a6, y48)
def jz (F : Nat) (a3 : List UInt8) (a4 : List UInt8) (a5 : List UInt8) (a6 : List UInt8) (y46 : Int) (y47 : Int) (y48 : List UInt8) : Option (Int × Int × (List UInt8) × (List UInt8) × (List UInt8) × (List UInt8) × (List UInt8)) :=
bif !decide (y46 = 7) then
  hP (kP F y46 y47 a3 a4 a5 a6 y48) fun x52 x53 =>
  iu a3 a4 a5 a6 y48 x52 x53
else
  iu a3 a4 a5 a6 y48 y46 y47
def li (F : Nat) (a3 : List UInt8) (a4 : List UInt8) (a5 : List UInt8) (a6 : List UInt8) (x23 : List (Int × (List (List UInt8)) × Int × Int × Int)) (rec33 : (Int × Int × Int × (List UInt8)) → Option (Int × Int × (List UInt8) × (List UInt8) × (List UInt8) × (List UInt8) × (List UInt8))) (y28 : Int) (y29 : Int) (y30 : Int) (y31 : List UInt8) : Option (Int × Int × (List UInt8) × (List UInt8) × (List UInt8) × (List UInt8) × (List UInt8)) :=
bif decide (y28 < (x23.length : Int)) then
  grd (cA y28 x23.length) <|
  lt (at_ x23 y28) fun x37 =>
  kB (jJ F y29 y30 a3 a4 a5 a6 y31 x37.1 x37.2.1 x37.2.2.1 x37.2.2.2.1 x37.2.2.2.2) fun x40 x41 x42 =>
  grd (okI (y28 + 1)) <|
  rec33 (y28 + 1, x40, x41, x42)
else
  jz F a3 a4 a5 a6 y29 y30 y31
def lh (F : Nat) (a3 : List UInt8) (a4 : List UInt8) (a5 : List UInt8) (a6 : List UInt8) (x23 : List (Int × (List (List UInt8)) × Int × Int × Int)) (n : Nat) : (Int × Int × Int × (List UInt8)) → Option (Int × Int × (List UInt8) × (List UInt8) × (List UInt8) × (List UInt8) × (List UInt8)) :=
  loop (fun rec x => li F a3 a4 a5 a6 x23 rec x.1 x.2.1 x.2.2.1 x.2.2.2) n
def qm (F : Nat) (a1 : Int) (a2 : Int) (a3 : List UInt8) (a4 : List UInt8) (a5 : List UInt8) (a6 : List UInt8) (a7 : List UInt8) : Option (Int × Int × (List UInt8) × (List UInt8) × (List UInt8) × (List UInt8) × (List UInt8)) :=
bnd (jr F a1 a2 a3 a4 a5 a6) fun _ =>
bnd (oh F) fun _ =>
kB (og F [] false a7) fun x23 x24 x25 =>
lh F a3 a4 a5 a6 x23 F (0, a1, a2, [])
end Go.Pv
