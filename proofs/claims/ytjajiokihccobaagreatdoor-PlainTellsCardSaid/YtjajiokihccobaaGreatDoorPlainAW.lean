/-
  What leaves marks out: what is run is what the plain functions say. Printed by a program of ours.
-/
import Derived.Test.YtjajiokihccobaaGreatDoorAvE
import Derived.Test.YtjajiokihccobaaGreatDoorPvLib
import Derived.Test.YtjajiokihccobaaGreatDoorP11Split
import Derived.Test.YtjajiokihccobaaGreatDoorChecked
import Derived.Test.YtjajiokihccobaaGreatDoorAvN
import Derived.Test.YtjajiokihccobaaGreatDoorP11BuildC
import Derived.Test.YtjajiokihccobaaGreatDoorEntBW
import Derived.Test.YtjajiokihccobaaGreatDoorPlainAP
set_option linter.unusedVariables false
set_option linter.unusedSimpArgs false
namespace Go.Proofs.YtjajiokihccobaaGreatDoor
open Go.RowKit Go.Av Go.Pv
theorem en14 : ∀ (args : Array Value) (w : World), (callFunc 14 args).run Tryz.prog w = .ok (.enter 14 args) w := fun _ _ => by kernel_rfl
theorem en15 : ∀ (args : Array Value) (w : World), (callFunc 15 args).run Tryz.prog w = .ok (.enter 15 args) w := fun _ _ => by kernel_rfl
theorem en22 : ∀ (args : Array Value) (w : World), (callFunc 22 args).run Tryz.prog w = .ok (.enter 22 args) w := fun _ _ => by kernel_rfl
theorem en25 : ∀ (args : Array Value) (w : World), (callFunc 25 args).run Tryz.prog w = .ok (.enter 25 args) w := fun _ _ => by kernel_rfl
theorem en26 : ∀ (args : Array Value) (w : World), (callFunc 26 args).run Tryz.prog w = .ok (.enter 26 args) w := fun _ _ => by kernel_rfl
theorem en27 : ∀ (args : Array Value) (w : World), (callFunc 27 args).run Tryz.prog w = .ok (.enter 27 args) w := fun _ _ => by kernel_rfl
theorem en43 : ∀ (args : Array Value) (w : World), (callFunc 43 args).run Tryz.prog w = .ok (.enter 43 args) w := fun _ _ => by kernel_rfl
theorem en44 : ∀ (args : Array Value) (w : World), (callFunc 44 args).run Tryz.prog w = .ok (.enter 44 args) w := fun _ _ => by kernel_rfl
set_option maxRecDepth 100000 in
set_option maxHeartbeats 1000000 in
theorem w_plain_breaking (F : Nat) (r1 : List (List UInt8 × Int)) (H : plain_breaking F = some r1) : ACalls Tryz.prog 22 [] [] (Ret (mpI .i64 r1) []) := by
  unfold plain_breaking at H
  refine ACalls.of_body Tryz.func22 rfl rfl ?_
  show AW _ _ 3 _ _ _
  refine AW.seq ?_
  refine AW.region ?_
  show AR _ _ _ _ _ [0] _
  refine sS rfl rfl rfl (asg rfl) ?_
  refine AR.nil ?_
  show AW _ _ _ _ _ _
  refine AW.seq ?_
  refine AW.region ?_
  show AR _ _ _ _ _ [0, 1, 2, 3, 4, 5, 6, 7, 8, 9, 10, 11, 12, 13, 14, 15, 16] _
  refine AM.make (k := .i64) rfl rfl ?_
  refine AM.insert (s := ([112] : List UInt8)) rfl Tryz.underlying42 Tryz.underlying9 rfl (by decide) ?_
  refine AM.insert (s := ([98, 114] : List UInt8)) rfl Tryz.underlying42 Tryz.underlying9 rfl (by decide) ?_
  refine AM.insert (s := ([100, 105, 118] : List UInt8)) rfl Tryz.underlying42 Tryz.underlying9 rfl (by decide) ?_
  refine AM.insert (s := ([108, 105] : List UInt8)) rfl Tryz.underlying42 Tryz.underlying9 rfl (by decide) ?_
  refine AM.insert (s := ([116, 114] : List UInt8)) rfl Tryz.underlying42 Tryz.underlying9 rfl (by decide) ?_
  refine AM.insert (s := ([117, 108] : List UInt8)) rfl Tryz.underlying42 Tryz.underlying9 rfl (by decide) ?_
  refine AM.insert (s := ([111, 108] : List UInt8)) rfl Tryz.underlying42 Tryz.underlying9 rfl (by decide) ?_
  refine AM.insert (s := ([116, 97, 98, 108, 101] : List UInt8)) rfl Tryz.underlying42 Tryz.underlying9 rfl (by decide) ?_
  refine AM.insert (s := ([104, 49] : List UInt8)) rfl Tryz.underlying42 Tryz.underlying9 rfl (by decide) ?_
  refine AM.insert (s := ([104, 50] : List UInt8)) rfl Tryz.underlying42 Tryz.underlying9 rfl (by decide) ?_
  refine AM.insert (s := ([104, 51] : List UInt8)) rfl Tryz.underlying42 Tryz.underlying9 rfl (by decide) ?_
  refine AM.insert (s := ([104, 52] : List UInt8)) rfl Tryz.underlying42 Tryz.underlying9 rfl (by decide) ?_
  refine AM.insert (s := ([104, 53] : List UInt8)) rfl Tryz.underlying42 Tryz.underlying9 rfl (by decide) ?_
  refine AM.insert (s := ([104, 54] : List UInt8)) rfl Tryz.underlying42 Tryz.underlying9 rfl (by decide) ?_
  refine AM.done (es := ([(([112] : List UInt8), 1), (([98, 114] : List UInt8), 1), (([100, 105, 118] : List UInt8), 1), (([108, 105] : List UInt8), 1), (([116, 114] : List UInt8), 1), (([117, 108] : List UInt8), 1), (([111, 108] : List UInt8), 1), (([116, 97, 98, 108, 101] : List UInt8), 1), (([104, 49] : List UInt8), 1), (([104, 50] : List UInt8), 1), (([104, 51] : List UInt8), 1), (([104, 52] : List UInt8), 1), (([104, 53] : List UInt8), 1), (([104, 54] : List UInt8), 1)] : List (List UInt8 × Int))) ?_
  refine sS rfl rfl rfl (opS_move (av := mpI _ _) rfl) ?_
  refine sS rfl rfl rfl (opS_assign (av := mpI _ _) rfl) ?_
  refine AR.nil ?_
  show AW _ _ _ _ _ _
  refine AW.ret ?_
  obtain rfl := Option.some.inj H
  exact And.intro rfl (Exists.intro _ (Exists.intro _ ⟨ResV.oneW rfl (.refl _), Sub.at [] rfl, rfl, rfl⟩))
set_option maxRecDepth 100000 in
set_option maxHeartbeats 1000000 in
theorem w_cut_end (F : Nat) (o1 : Nat) (a2 : List UInt8) (a3 : List (List UInt8)) (t4 : Nat) (a5 : AV) (ha5 : a5 = .v (.pointer none) ∨ a5 = .pt o1 2) (a6 : List UInt8) (t7 : Nat) (r8 : List (List UInt8)) (H : cut_end F a2 a3 a6 = some r8) : ACalls Tryz.prog 25 [.pt o1 0] [.obj o1 [S a2, slE Enc.str a3 (some t4), a5, slE Enc.byte a6 (some t7)], .ty o1 37, .tok t4 9, .tok t7 5] (fun e A' => e = .ret (.tup []) ∧ ∃ t9, A' = [.obj o1 [S a2, slE Enc.str r8 (some t9), .v (.pointer none), nilS], .ty o1 37, .tok t9 9]) := by
  unfold cut_end at H
  refine ACalls.of_body Tryz.func25 rfl rfl ?_
  show AW _ _ 19 _ _ _
  refine AW.cut (X := (List (List UInt8)) × Nat) (fun (y17, t18) => ⟨[(0, .pt o1 0)], [], [.obj o1 [S a2, slE Enc.str y17 (some t18), a5, slE Enc.byte a6 (some t7)], .ty o1 37, .tok t18 9]⟩) (fun (y17, t18) => cut_end_j1 y17 = some r8) ?_ ?_
  ·
    obtain ⟨g10, H⟩ := grd_s H
    obtain ⟨g12, H⟩ := grd_s H
    obtain ⟨x13, e14, H⟩ := lt_s H
    refine AW.region_draw (by kernel_rfl) ?_
    show AI _ _ _ _ 14 (Array.replicate 14 false) _
    refine AI.take (i := 0) rfl rfl (by kernel_rfl) (by kernel_rfl) (by kernel_rfl) (fun _ _ h => by obtain ⟨_, _, _, h, _⟩ := h; cases h) (opS_move (av := .pt _ _) rfl) ?_
    show AI _ _ _ _ _ #[true, false, false, false, false, false, false, false, false, false, false, false, false, false] _
    refine AI.take (i := 1) rfl rfl (by kernel_rfl) (by kernel_rfl) (by kernel_rfl) (fun _ _ h => by obtain ⟨_, _, _, h, _⟩ := h; cases h) (opS_move (av := .pt _ _) rfl) ?_
    show AI _ _ _ _ _ #[true, true, false, false, false, false, false, false, false, false, false, false, false, false] _
    refine AI.take (i := 2) rfl rfl (by kernel_rfl) (by kernel_rfl) (by kernel_rfl) (fun _ _ h => by obtain ⟨_, _, _, h, _⟩ := h; cases h) (opS_nilCheck_pt rfl) ?_
    show AI _ _ _ _ _ #[true, true, true, false, false, false, false, false, false, false, false, false, false, false] _
    refine AI.take (i := 3) rfl rfl (by kernel_rfl) (by kernel_rfl) (by kernel_rfl) (fun _ _ h => by obtain ⟨_, _, _, h, _⟩ := h; cases h) (opS_fieldAddr_pt (n := 1) (by kernel_rfl) rfl) ?_
    show AI _ _ _ _ _ #[true, true, true, true, false, false, false, false, false, false, false, false, false, false] _
    refine AI.take (i := 5) rfl rfl (by kernel_rfl) (by kernel_rfl) (by kernel_rfl) (fun _ _ h => by obtain ⟨_, _, _, h, _⟩ := h; cases h) (opS_move (av := .pt _ _) rfl) ?_
    show AI _ _ _ _ _ #[true, true, true, true, false, true, false, false, false, false, false, false, false, false] _
    refine AI.take (i := 6) rfl rfl (by kernel_rfl) (by kernel_rfl) (by kernel_rfl) (fun _ _ h => by obtain ⟨_, _, _, h, _⟩ := h; cases h) (opS_nilCheck_pt rfl) ?_
    show AI _ _ _ _ _ #[true, true, true, true, false, true, true, false, false, false, false, false, false, false] _
    refine AI.take (i := 7) rfl rfl (by kernel_rfl) (by kernel_rfl) (by kernel_rfl) (fun _ _ h => by obtain ⟨_, _, _, h, _⟩ := h; cases h) (opS_fieldAddr_pt (n := 2) (by kernel_rfl) rfl) ?_
    show AI _ _ _ _ _ #[true, true, true, true, false, true, true, true, false, false, false, false, false, false] _
    refine AI.two (i := 4) (j := 8) (by kernel_rfl) rfl rfl rfl rfl ?_ ?_
    ·
      refine AIO.op rfl (opR_load_pt (i := 0) Tryz.underlying24 rfl rfl rfl rfl) ?_
      show AI _ _ _ _ _ #[true, true, true, true, true, true, true, true, false, false, false, false, false, false] _
      refine AI.one (i := 8) (by kernel_rfl) rfl rfl ?_
      refine AIO.callAt [0, 2] rfl en30 rfl (Builder_StringC (S a2) (slE Enc.str a3 (some t4)) o1 (a5) a6 t7 (okW0_s g10)) rfl (fun c A' h => by cases h.1) ?_
      rintro av A' ⟨h, rfl⟩; cases h
      show AI _ _ _ _ _ #[true, true, true, true, true, true, true, true, true, false, false, false, false, false] _
      refine AI.one (i := 9) (by kernel_rfl) rfl rfl ?_
      refine AIO.op rfl (opR_buildE (E := Enc.str) (bytes := 16) (xs := [.tmp 10]) (l := ([a6] : List (List UInt8))) Tryz.underlying24 (by kernel_rfl) rfl rfl (by decide) rfl rfl) ?_
      show AI _ _ _ _ _ #[true, true, true, true, true, true, true, true, true, true, false, false, false, false] _
      refine AI.one (i := 10) (by kernel_rfl) rfl rfl ?_
      refine AIO.opx rfl (g_append (E := Enc.str) (bytes := 16) 2 Tryz.underlying24 Tryz.underlying24 rfl (by kernel_rfl) rfl rfl rfl rfl g12 e14) ?_
      rintro _ _ ⟨t11, rfl, rfl⟩
      show AI _ _ _ _ _ #[true, true, true, true, true, true, true, true, true, true, true, false, false, false] _
      refine AI.take (i := 11) rfl rfl (by kernel_rfl) (by kernel_rfl) (by kernel_rfl) (fun _ _ h => by obtain ⟨_, _, _, h, _⟩ := h; cases h) (opS_nilCheck_pt rfl) ?_
      show AI _ _ _ _ _ #[true, true, true, true, true, true, true, true, true, true, true, true, false, false] _
      refine AI.take (i := 12) rfl rfl (by kernel_rfl) (by kernel_rfl) (by kernel_rfl) (fun _ _ h => by obtain ⟨_, _, _, h, _⟩ := h; cases h) (opS_fieldAddr_pt (n := 1) (by kernel_rfl) rfl) ?_
      show AI _ _ _ _ _ #[true, true, true, true, true, true, true, true, true, true, true, true, true, false] _
      refine AI.one (i := 13) (by kernel_rfl) rfl rfl ?_
      refine AIO.op0 (opR_store_pt (i := 0) (c := slE _ _ _) (by kernel_rfl) rfl rfl rfl rfl (Nat.le_of_ble_eq_true rfl)) ?_
      show AI _ _ _ _ _ #[true, true, true, true, true, true, true, true, true, true, true, true, true, true] _
      refine AI.done rfl ?_
      exact Exists.intro (x13, t11) ⟨H, WK.at [0, 0, 0] (.cons (.refl _) (.nil _)) rfl⟩
    ·
      refine AIO.callAt [0, 2] rfl en30 rfl (Builder_StringC (S a2) (slE Enc.str a3 (some t4)) o1 (a5) a6 t7 (okW0_s g10)) rfl (fun c A' h => by cases h.1) ?_
      rintro av A' ⟨h, rfl⟩; cases h
      show AI _ _ _ _ _ #[true, true, true, true, false, true, true, true, true, false, false, false, false, false] _
      refine AI.two (i := 4) (j := 9) (by kernel_rfl) rfl rfl rfl rfl ?_ ?_
      ·
        refine AIO.op rfl (opR_load_pt (i := 0) Tryz.underlying24 rfl rfl rfl rfl) ?_
        show AI _ _ _ _ _ #[true, true, true, true, true, true, true, true, true, false, false, false, false, false] _
        refine AI.one (i := 9) (by kernel_rfl) rfl rfl ?_
        refine AIO.op rfl (opR_buildE (E := Enc.str) (bytes := 16) (xs := [.tmp 10]) (l := ([a6] : List (List UInt8))) Tryz.underlying24 (by kernel_rfl) rfl rfl (by decide) rfl rfl) ?_
        show AI _ _ _ _ _ #[true, true, true, true, true, true, true, true, true, true, false, false, false, false] _
        refine AI.one (i := 10) (by kernel_rfl) rfl rfl ?_
        refine AIO.opx rfl (g_append (E := Enc.str) (bytes := 16) 2 Tryz.underlying24 Tryz.underlying24 rfl (by kernel_rfl) rfl rfl rfl rfl g12 e14) ?_
        rintro _ _ ⟨t15, rfl, rfl⟩
        show AI _ _ _ _ _ #[true, true, true, true, true, true, true, true, true, true, true, false, false, false] _
        refine AI.take (i := 11) rfl rfl (by kernel_rfl) (by kernel_rfl) (by kernel_rfl) (fun _ _ h => by obtain ⟨_, _, _, h, _⟩ := h; cases h) (opS_nilCheck_pt rfl) ?_
        show AI _ _ _ _ _ #[true, true, true, true, true, true, true, true, true, true, true, true, false, false] _
        refine AI.take (i := 12) rfl rfl (by kernel_rfl) (by kernel_rfl) (by kernel_rfl) (fun _ _ h => by obtain ⟨_, _, _, h, _⟩ := h; cases h) (opS_fieldAddr_pt (n := 1) (by kernel_rfl) rfl) ?_
        show AI _ _ _ _ _ #[true, true, true, true, true, true, true, true, true, true, true, true, true, false] _
        refine AI.one (i := 13) (by kernel_rfl) rfl rfl ?_
        refine AIO.op0 (opR_store_pt (i := 0) (c := slE _ _ _) (by kernel_rfl) rfl rfl rfl rfl (Nat.le_of_ble_eq_true rfl)) ?_
        show AI _ _ _ _ _ #[true, true, true, true, true, true, true, true, true, true, true, true, true, true] _
        refine AI.done rfl ?_
        exact Exists.intro (x13, t15) ⟨H, WK.at [0, 0, 0] (.cons (.refl _) (.nil _)) rfl⟩
      ·
        refine AIO.op rfl (opR_buildE (E := Enc.str) (bytes := 16) (xs := [.tmp 10]) (l := ([a6] : List (List UInt8))) Tryz.underlying24 (by kernel_rfl) rfl rfl (by decide) rfl rfl) ?_
        show AI _ _ _ _ _ #[true, true, true, true, false, true, true, true, true, true, false, false, false, false] _
        refine AI.one (i := 4) (by kernel_rfl) rfl rfl ?_
        refine AIO.op rfl (opR_load_pt (i := 0) Tryz.underlying24 rfl rfl rfl rfl) ?_
        show AI _ _ _ _ _ #[true, true, true, true, true, true, true, true, true, true, false, false, false, false] _
        refine AI.one (i := 10) (by kernel_rfl) rfl rfl ?_
        refine AIO.opx rfl (g_append (E := Enc.str) (bytes := 16) 2 Tryz.underlying24 Tryz.underlying24 rfl (by kernel_rfl) rfl rfl rfl rfl g12 e14) ?_
        rintro _ _ ⟨t16, rfl, rfl⟩
        show AI _ _ _ _ _ #[true, true, true, true, true, true, true, true, true, true, true, false, false, false] _
        refine AI.take (i := 11) rfl rfl (by kernel_rfl) (by kernel_rfl) (by kernel_rfl) (fun _ _ h => by obtain ⟨_, _, _, h, _⟩ := h; cases h) (opS_nilCheck_pt rfl) ?_
        show AI _ _ _ _ _ #[true, true, true, true, true, true, true, true, true, true, true, true, false, false] _
        refine AI.take (i := 12) rfl rfl (by kernel_rfl) (by kernel_rfl) (by kernel_rfl) (fun _ _ h => by obtain ⟨_, _, _, h, _⟩ := h; cases h) (opS_fieldAddr_pt (n := 1) (by kernel_rfl) rfl) ?_
        show AI _ _ _ _ _ #[true, true, true, true, true, true, true, true, true, true, true, true, true, false] _
        refine AI.one (i := 13) (by kernel_rfl) rfl rfl ?_
        refine AIO.op0 (opR_store_pt (i := 0) (c := slE _ _ _) (by kernel_rfl) rfl rfl rfl rfl (Nat.le_of_ble_eq_true rfl)) ?_
        show AI _ _ _ _ _ #[true, true, true, true, true, true, true, true, true, true, true, true, true, true] _
        refine AI.done rfl ?_
        exact Exists.intro (x13, t16) ⟨H, WK.at [0, 0, 0] (.cons (.refl _) (.nil _)) rfl⟩
  rintro ⟨y17, t18⟩ H
  replace H : cut_end_j1 y17 = some r8 := H
  unfold cut_end_j1 at H
  show AW _ _ _ _ _ _
  refine AW.region ?_
  show AR _ _ _ _ _ [0, 1, 2, 3] _
  refine sS rfl rfl rfl (opS_move (av := .pt _ _) rfl) ?_
  refine sS rfl rfl rfl (opS_nilCheck_pt rfl) ?_
  refine sS rfl rfl rfl (opS_fieldAddr_pt (n := 2) (by kernel_rfl) rfl) ?_
  refine AR.run rfl rfl (AO.callAt [0] rfl en42 rfl (Builder_ResetC (S a2) (slE Enc.str y17 (some t18)) o1 (a5) (slE Enc.byte a6 (some t7))) rfl (fun c A' h => by cases h.1) ?_)
  rintro av A' ⟨h, rfl⟩; cases h
  refine AR.nil ?_
  obtain rfl := Option.some.inj H
  exact And.intro rfl (Exists.intro _ (Exists.intro _ ⟨ResV.noneW rfl, Sub.at [0, 0, 0] rfl, rfl, t18, rfl⟩))
set_option maxRecDepth 100000 in
set_option maxHeartbeats 1000000 in
theorem w_cut_mark (F : Nat) (o1 : Nat) (a2 : List UInt8) (a3 : List (List UInt8)) (t4 : Nat) (a5 : AV) (ha5 : a5 = .v (.pointer none) ∨ a5 = .pt o1 2) (a6 : List UInt8) (t7 : Nat) (r8 : List UInt8) (r9 : List UInt8) (H : cut_mark F a2 a3 a6 = some (r8, r9)) : ACalls Tryz.prog 27 [.pt o1 0] [.obj o1 [S a2, slE Enc.str a3 (some t4), a5, slE Enc.byte a6 (some t7)], .ty o1 37, .tok t4 9, .tok t7 5] (fun e A' => e = .ret (S r8) ∧ A' = [.obj o1 [S r9, slE Enc.str a3 (some t4), a5, slE Enc.byte a6 (some t7)], .ty o1 37, .tok t4 9, .tok t7 5]) := by
  unfold cut_mark at H
  refine ACalls.of_body Tryz.func27 rfl rfl ?_
  show AW _ _ 79 _ _ _
  refine AW.seq ?_
  refine AW.region ?_
  show AR _ _ _ _ _ [0] _
  refine sS rfl rfl rfl (asg rfl) ?_
  refine AR.nil ?_
  show AW _ _ _ _ _ _
  refine AW.seq ?_
  obtain ⟨g10, H⟩ := grd_s H
  obtain ⟨x11, e12, H⟩ := lt_s H
  obtain ⟨x13, e14, H⟩ := lt_s H
  refine AW.region ?_
  show AR _ _ _ _ _ [0, 1, 2, 3, 4, 5, 6] _
  refine sS rfl rfl rfl (opS_move (av := .pt _ _) rfl) ?_
  refine sS rfl rfl rfl (opS_nilCheck_pt rfl) ?_
  refine sS rfl rfl rfl (opS_fieldAddr_pt (n := 0) (by kernel_rfl) rfl) ?_
  refine sR rfl rfl rfl (opR_load_pt (i := 0) Tryz.underlying9 rfl rfl rfl rfl) ?_
  refine sS rfl rfl rfl (g_from_str Tryz.underlying9 rfl rfl g10 e12) ?_
  refine AR.run rfl rfl (AO.callp rfl en43 rfl (show ACalls _ _ _ [] (Ret (S x13) []) from by subst e14; exact lib_TrimPrefix x11 ([47] : List UInt8)) ?_)
  refine sS rfl rfl rfl (asg rfl) ?_
  refine AR.nil ?_
  show AW _ _ _ _ _ _
  refine AW.seq ?_
  obtain ⟨g15, H⟩ := grd_s H
  refine AW.region ?_
  show AR _ _ _ _ _ [0, 1, 2, 3, 4, 5, 6, 7, 8, 9] _
  refine sS rfl rfl rfl (mv rfl) ?_
  refine sS rfl rfl rfl (opS_len_str Tryz.underlying9 rfl) ?_
  refine sS rfl rfl rfl (opS_move (av := .pt _ _) rfl) ?_
  refine sS rfl rfl rfl (opS_nilCheck_pt rfl) ?_
  refine sS rfl rfl rfl (opS_fieldAddr_pt (n := 0) (by kernel_rfl) rfl) ?_
  refine sR rfl rfl rfl (opR_load_pt (i := 0) Tryz.underlying9 rfl rfl rfl rfl) ?_
  refine sS rfl rfl rfl (opS_len_str Tryz.underlying9 rfl) ?_
  refine sS rfl rfl rfl (g_sub rfl rfl g15) ?_
  refine sS rfl rfl rfl (opS_lt rfl rfl) ?_
  refine sS rfl rfl rfl (asg rfl) ?_
  refine AR.nil ?_
  show AW _ _ _ _ _ _
  refine AW.seq ?_
  refine AW.region ?_
  show AR _ _ _ _ _ [0] _
  refine sS rfl rfl rfl (asg rfl) ?_
  refine AR.nil ?_
  show AW _ _ _ _ _ _
  refine AW.cut (X := Int) (fun y23 => ⟨[(0, .pt o1 0), (3, S x13), (4, B (decide ((x13.length : Int) < (a2.length : Int) - 1))), (5, i64 y23)], [], [.obj o1 [S a2, slE Enc.str a3 (some t4), a5, slE Enc.byte a6 (some t7)], .ty o1 37, .tok t4 9, .tok t7 5]⟩) (fun y23 => cut_mark_j3 F a2 x13 y23 = some (r8, r9)) ?_ ?_
  ·
    refine AW.block ?_
    refine AW.loop (X := Nat × Int) (fun (n18, y16) => ⟨[(0, .pt o1 0), (3, S x13), (4, B (decide ((x13.length : Int) < (a2.length : Int) - 1))), (5, i64 y16)], [], [.obj o1 [S a2, slE Enc.str a3 (some t4), a5, slE Enc.byte a6 (some t7)], .ty o1 37, .tok t4 9, .tok t7 5]⟩) (fun (n18, y16) => cut_mark_L1 F a2 x13 n18 y16 = some (r8, r9)) (fun (n18, y16) => n18) (F, 0) H (WK.at [0, 0, 0, 0] (.cons (.refl _) (.cons (.refl _) (.cons (.refl _) (.cons (.refl _) (.nil _))))) rfl) ?_
    rintro ⟨n18, y16⟩ H
    obtain ⟨n18, rfl, H⟩ := loop_s H
    replace H : cut_mark_B1 F a2 x13 (cut_mark_L1 F a2 x13 n18) y16 = some (r8, r9) := H
    unfold cut_mark_B1 at H
    show AW _ _ _ _ _ _
    refine AW.seq ?_
    refine AW.seq ?_
    obtain ⟨x19, e20, H⟩ := bnd_s H
    refine AW.region ?_
    show AR _ _ _ _ _ [0, 1, 2] _
    refine sS rfl rfl rfl (mv rfl) ?_
    refine sS rfl rfl rfl (mv rfl) ?_
    refine AR.run rfl rfl (AO.callp rfl en26 rfl (w_plain_one F x13 y16 plaina_k1 x19 e20) ?_)
    refine AR.nil ?_
    show AW _ _ _ _ _ _
    refine AW.cond rfl (fun c21 => ?_) (fun c21 => ?_)
    · replace H := cnd_t c21 H
      refine AW.skip ?_
      show AW _ _ _ _ _ _
      refine AW.block ?_
      obtain ⟨g22, H⟩ := grd_s H
      refine AW.region ?_
      show AR _ _ _ _ _ [0, 1, 2] _
      refine sS rfl rfl rfl (mv rfl) ?_
      refine sS rfl rfl rfl (g_add rfl rfl g22) ?_
      refine sS rfl rfl rfl (asg rfl) ?_
      refine AR.nil ?_
      exact Exists.intro (n18, y16 + 1) ⟨H, Nat.lt_succ_self _, WK.at [0, 0, 0, 0] (.cons (.refl _) (.cons (.refl _) (.cons (.refl _) (.cons (.refl _) (.nil _))))) rfl⟩
    · replace H := cnd_f c21 H
      refine AW.exit ?_
      exact Exists.intro y16 ⟨H, WK.at [0, 0, 0, 0] (.cons (.refl _) (.cons (.refl _) (.cons (.refl _) (.cons (.refl _) (.nil _))))) rfl⟩
  rintro y23 H
  replace H : cut_mark_j3 F a2 x13 y23 = some (r8, r9) := H
  unfold cut_mark_j3 at H
  show AW _ _ _ _ _ _
  refine AW.seq ?_
  obtain ⟨g25, H⟩ := grd_s H
  obtain ⟨x26, e27, H⟩ := lt_s H
  obtain ⟨x28, e29, H⟩ := bnd_s H
  refine AW.region ?_
  show AR _ _ _ _ _ [0, 1, 2, 3, 4] _
  refine sS rfl rfl rfl (mv rfl) ?_
  refine sS rfl rfl rfl (mv rfl) ?_
  refine sS rfl rfl rfl (g_to_str Tryz.underlying9 rfl rfl g25 e27) ?_
  refine AR.run rfl rfl (AO.callp rfl en44 rfl (w_plain_small F x26 x28 e29) ?_)
  refine sS rfl rfl rfl (asg rfl) ?_
  refine AR.nil ?_
  show AW _ _ _ _ _ _
  refine AW.seq ?_
  obtain ⟨g30, H⟩ := grd_s H
  obtain ⟨x31, e32, H⟩ := lt_s H
  refine AW.region ?_
  show AR _ _ _ _ _ [0, 1, 2, 3, 4, 5, 6, 7, 8, 9, 10, 11, 12] _
  refine sS rfl rfl rfl (opS_move (av := .pt _ _) rfl) ?_
  refine sS rfl rfl rfl (opS_move (av := .pt _ _) rfl) ?_
  refine sS rfl rfl rfl (opS_nilCheck_pt rfl) ?_
  refine sS rfl rfl rfl (opS_fieldAddr_pt (n := 0) (by kernel_rfl) rfl) ?_
  refine sR rfl rfl rfl (opR_load_pt (i := 0) Tryz.underlying9 rfl rfl rfl rfl) ?_
  refine AR.run rfl rfl (AO.callp rfl en45 rfl (show ACalls _ _ _ [] (Ret (.tup [S x31.1, S x31.2.1, B x31.2.2]) []) from by subst e32; exact lib_Cut a2 ([62] : List UInt8) (okS_s g30)) ?_)
  refine sS rfl rfl rfl (opS_move (av := .tup _) rfl) ?_
  refine sS rfl rfl rfl (opS_extract (av := .v _) rfl rfl) ?_
  refine sS rfl rfl rfl (opS_extract (av := .v _) rfl rfl) ?_
  refine sS rfl rfl rfl (opS_extract (av := .v _) rfl rfl) ?_
  refine sS rfl rfl rfl (opS_nilCheck_pt rfl) ?_
  refine sS rfl rfl rfl (opS_fieldAddr_pt (n := 0) (by kernel_rfl) rfl) ?_
  refine s0 rfl rfl (opR_store_pt (i := 0) (c := .v _) (by kernel_rfl) rfl rfl rfl rfl (Nat.le_of_ble_eq_true rfl)) ?_
  refine AR.nil ?_
  show AW _ _ _ _ _ _
  refine AW.cut (X := (List UInt8)) (fun y50 => ⟨[(6, S x28)], [], [.obj o1 [S y50, slE Enc.str a3 (some t4), a5, slE Enc.byte a6 (some t7)], .ty o1 37, .tok t4 9, .tok t7 5]⟩) (fun y50 => cut_mark_j1 x28 y50 = some (r8, r9)) ?_ ?_
  ·
    refine AW.seq ?_
    refine AW.region ?_
    show AR _ _ _ _ _ [0, 1, 2, 3, 4, 5, 6, 7, 8, 9] _
    refine sS rfl rfl rfl (mv rfl) ?_
    refine sS rfl rfl rfl (opS_not rfl) ?_
    refine sS rfl rfl rfl (mv rfl) ?_
    refine AR.meet (l := []) 53 (B ((!(decide ((x13.length : Int) < (a2.length : Int) - 1))) && ((decide (x28 = ([115, 99, 114, 105, 112, 116] : List UInt8))) || (decide (x28 = ([115, 116, 121, 108, 101] : List UInt8)))))) (fun K => ?_) ?_
    · rcases Bool.eq_false_or_eq_true (!(decide ((x13.length : Int) < (a2.length : Int) - 1))) with h33 | h33
      ·
        refine gT h33 rfl rfl rfl rfl rfl rfl (AO.ops rfl rfl (mv rfl) ?_)
        refine gT h33 rfl rfl rfl rfl rfl rfl (AO.ops rfl rfl (opS_eqs rfl rfl) ?_)
        refine gT h33 rfl rfl rfl rfl rfl rfl (AO.ops rfl rfl (mv rfl) ?_)
        refine AR.meet (l := [9]) 52 (B ((decide (x28 = ([115, 99, 114, 105, 112, 116] : List UInt8))) || (decide (x28 = ([115, 116, 121, 108, 101] : List UInt8))))) (fun K => ?_) ?_
        · rcases Bool.eq_false_or_eq_true (decide (x28 = ([115, 99, 114, 105, 112, 116] : List UInt8))) with h34 | h34
          ·
            refine gF h34 rfl rfl rfl rfl rfl ?_
            refine gF h34 rfl rfl rfl rfl rfl ?_
            refine gT h33 rfl rfl rfl rfl rfl rfl (AO.ops rfl rfl (opS_pick_t (av := .v _) rfl h34 rfl) ?_)
            exact K _ 2 _ (B_congr (or_t h34)) rfl rfl
          ·
            refine gT h34 rfl rfl rfl rfl rfl rfl (AO.ops rfl rfl (mv rfl) ?_)
            refine gT h34 rfl rfl rfl rfl rfl rfl (AO.ops rfl rfl (opS_eqs rfl rfl) ?_)
            refine gT h33 rfl rfl rfl rfl rfl rfl (AO.ops rfl rfl (opS_pick_f (av := .v _) rfl h34 rfl) ?_)
            exact K _ 2 _ (B_congr (or_f h34)) rfl rfl
        refine sS rfl rfl rfl (opS_pick_t (av := .v _) rfl h33 rfl) ?_
        exact K _ 4 _ (B_congr (and_t h33)) rfl rfl
      ·
        refine gF h33 rfl rfl rfl rfl rfl ?_
        refine gF h33 rfl rfl rfl rfl rfl ?_
        refine gF h33 rfl rfl rfl rfl rfl ?_
        refine gU rfl rfl rfl rfl rfl ?_
        refine gU rfl rfl rfl rfl rfl ?_
        refine gF h33 rfl rfl rfl rfl rfl ?_
        refine sS rfl rfl rfl (opS_pick_f (av := .v _) rfl h33 rfl) ?_
        exact K _ 6 _ (B_congr (and_f h33)) rfl rfl
    refine AR.nil ?_
    show AW _ _ _ _ _ _
    refine AW.cond rfl (fun c35 => ?_) (fun c35 => ?_)
    · replace H := cnd_t c35 H
      refine AW.seq ?_
      obtain ⟨x36, e37, H⟩ := bnd_s H
      obtain ⟨g38, H⟩ := grd_s H
      obtain ⟨x39, e40, H⟩ := lt_s H
      obtain ⟨g41, H⟩ := grd_s H
      obtain ⟨x42, e43, H⟩ := lt_s H
      refine AW.region ?_
      show AR _ _ _ _ _ [0, 1, 2, 3, 4, 5, 6, 7, 8] _
      refine sS rfl rfl rfl (opS_move (av := .pt _ _) rfl) ?_
      refine sS rfl rfl rfl (opS_nilCheck_pt rfl) ?_
      refine sS rfl rfl rfl (opS_fieldAddr_pt (n := 0) (by kernel_rfl) rfl) ?_
      refine sR rfl rfl rfl (opR_load_pt (i := 0) Tryz.underlying9 rfl rfl rfl rfl) ?_
      refine AR.run rfl rfl (AO.callp rfl en44 rfl (w_plain_small F x31.2.1 x36 e37) ?_)
      refine sS rfl rfl rfl (mv rfl) ?_
      refine sS rfl rfl rfl (g_cat rfl rfl g38 e40) ?_
      refine AR.run rfl rfl (AO.callp rfl en39 rfl (show ACalls _ _ _ [] (Ret (i64 x42) []) from by subst e43; exact lib_Index x36 x39 (okS_s g41)) ?_)
      refine sS rfl rfl rfl (asg rfl) ?_
      refine AR.nil ?_
      show AW _ _ _ _ _ _
      refine AW.cut (X := Int) (fun y45 => ⟨[(0, .pt o1 0), (6, S x28), (7, i64 y45)], [], [.obj o1 [S x31.2.1, slE Enc.str a3 (some t4), a5, slE Enc.byte a6 (some t7)], .ty o1 37, .tok t4 9, .tok t7 5]⟩) (fun y45 => cut_mark_j2 x28 x31 y45 = some (r8, r9)) ?_ ?_
      ·
        refine AW.seq ?_
        refine AW.region ?_
        show AR _ _ _ _ _ [0, 1] _
        refine sS rfl rfl rfl (mv rfl) ?_
        refine sS rfl rfl rfl (opS_lt rfl rfl) ?_
        refine AR.nil ?_
        show AW _ _ _ _ _ _
        refine AW.cond rfl (fun c44 => ?_) (fun c44 => ?_)
        · replace H := cnd_t c44 H
          refine AW.region ?_
          show AR _ _ _ _ _ [0, 1, 2, 3, 4, 5] _
          refine sS rfl rfl rfl (opS_move (av := .pt _ _) rfl) ?_
          refine sS rfl rfl rfl (opS_nilCheck_pt rfl) ?_
          refine sS rfl rfl rfl (opS_fieldAddr_pt (n := 0) (by kernel_rfl) rfl) ?_
          refine sR rfl rfl rfl (opR_load_pt (i := 0) Tryz.underlying9 rfl rfl rfl rfl) ?_
          refine sS rfl rfl rfl (opS_len_str Tryz.underlying9 rfl) ?_
          refine sS rfl rfl rfl (asg rfl) ?_
          refine AR.nil ?_
          exact Exists.intro (x31.2.1.length : Int) ⟨H, WK.at [0, 0, 0, 0] (.cons (.refl _) (.cons (.refl _) (.cons (.refl _) (.nil _)))) rfl⟩
        · replace H := cnd_f c44 H
          refine AW.skip ?_
          exact Exists.intro x42 ⟨H, WK.at [0, 0, 0, 0] (.cons (.refl _) (.cons (.refl _) (.cons (.refl _) (.nil _)))) rfl⟩
      rintro y45 H
      replace H : cut_mark_j2 x28 x31 y45 = some (r8, r9) := H
      unfold cut_mark_j2 at H
      show AW _ _ _ _ _ _
      obtain ⟨g47, H⟩ := grd_s H
      obtain ⟨x48, e49, H⟩ := lt_s H
      refine AW.region ?_
      show AR _ _ _ _ _ [0, 1, 2, 3, 4, 5, 6, 7, 8, 9] _
      refine sS rfl rfl rfl (opS_move (av := .pt _ _) rfl) ?_
      refine sS rfl rfl rfl (opS_move (av := .pt _ _) rfl) ?_
      refine sS rfl rfl rfl (opS_nilCheck_pt rfl) ?_
      refine sS rfl rfl rfl (opS_fieldAddr_pt (n := 0) (by kernel_rfl) rfl) ?_
      refine sR rfl rfl rfl (opR_load_pt (i := 0) Tryz.underlying9 rfl rfl rfl rfl) ?_
      refine sS rfl rfl rfl (mv rfl) ?_
      refine sS rfl rfl rfl (g_from_str Tryz.underlying9 rfl rfl g47 e49) ?_
      refine sS rfl rfl rfl (opS_nilCheck_pt rfl) ?_
      refine sS rfl rfl rfl (opS_fieldAddr_pt (n := 0) (by kernel_rfl) rfl) ?_
      refine s0 rfl rfl (opR_store_pt (i := 0) (c := .v _) (by kernel_rfl) rfl rfl rfl rfl (Nat.le_of_ble_eq_true rfl)) ?_
      refine AR.nil ?_
      exact Exists.intro x48 ⟨H, WK.at [0, 0, 0, 0] (.cons (.refl _) (.nil _)) rfl⟩
    · replace H := cnd_f c35 H
      refine AW.skip ?_
      exact Exists.intro x31.2.1 ⟨H, WK.at [0, 0, 0, 0] (.cons (.refl _) (.nil _)) rfl⟩
  rintro y50 H
  replace H : cut_mark_j1 x28 y50 = some (r8, r9) := H
  unfold cut_mark_j1 at H
  show AW _ _ _ _ _ _
  refine AW.seq ?_
  refine AW.region ?_
  show AR _ _ _ _ _ [0, 1] _
  refine sS rfl rfl rfl (mv rfl) ?_
  refine sS rfl rfl rfl (asg rfl) ?_
  refine AR.nil ?_
  show AW _ _ _ _ _ _
  refine AW.ret ?_
  obtain ⟨rfl, rfl⟩ := res2 H
  exact And.intro rfl (Exists.intro _ (Exists.intro _ ⟨ResV.oneW rfl (.refl _), Sub.at [0, 0, 0, 0] rfl, rfl, rfl⟩))
set_option maxRecDepth 100000 in
set_option maxHeartbeats 1000000 in
theorem w_cut_all (F : Nat) (o1 : Nat) (a2 : List UInt8) (a3 : List (List UInt8)) (t4 : Nat) (a5 : AV) (ha5 : a5 = .v (.pointer none) ∨ a5 = .pt o1 2) (a6 : List UInt8) (t7 : Nat) (r8 : List (List UInt8)) (H : cut_all F a2 a3 a6 = some r8) : ACalls Tryz.prog 14 [.pt o1 0] [.obj o1 [S a2, slE Enc.str a3 (some t4), a5, slE Enc.byte a6 (some t7)], .ty o1 37, .tok t4 9, .tok t7 5] (fun e A' => e = .ret (slE Enc.str r8 none) ∧ A' = []) := by
  unfold cut_all at H
  refine ACalls.of_body Tryz.func14 rfl rfl ?_
  show AW _ _ 71 _ _ _
  refine AW.seq ?_
  refine AW.region ?_
  show AR _ _ _ _ _ [0] _
  refine sS rfl rfl rfl (asg rfl) ?_
  refine AR.nil ?_
  show AW _ _ _ _ _ _
  refine AW.jumps (X := Nat × (List (List UInt8 × Int)) × (List UInt8) × (List (List UInt8)) × Nat × AV × (List UInt8) × Nat) 0 (fun (n20, y12, y13, y14, t15, t16, y17, t18) => ⟨[(0, .pt o1 0), (3, mpI .i64 y12)], [], [.obj o1 [S y13, slE Enc.str y14 (some t15), t16, slE Enc.byte y17 (some t18)], .ty o1 37, .tok t15 9, .tok t18 5]⟩) (fun (n20, y12, y13, y14, t15, t16, y17, t18) => cut_all_L1 F n20 (y12, y13, y14, y17) = some r8 ∧ (t16 = .v (.pointer none) ∨ t16 = .pt o1 2)) (fun (n20, y12, y13, y14, t15, t16, y17, t18) => n20) rfl ?_ ?_
  ·
    refine AW.seq ?_
    obtain ⟨x60, e61, H⟩ := bnd_s H
    refine AW.region ?_
    show AR _ _ _ _ _ [0, 1] _
    refine AR.run rfl rfl (AO.callp rfl en22 rfl (w_plain_breaking F x60 e61) ?_)
    refine sS rfl rfl rfl (opS_assign (av := mpI _ _) rfl) ?_
    refine AR.nil ?_
    show AW _ _ _ _ _ _
    refine AW.gen (X := (List (List UInt8 × Int)) × (List UInt8) × (List (List UInt8)) × Nat × AV × (List UInt8) × Nat) (fun (y12, y13, y14, t15, t16, y17, t18) => ⟨[(0, .pt o1 0), (3, mpI .i64 y12)], [], [.obj o1 [S y13, slE Enc.str y14 (some t15), t16, slE Enc.byte y17 (some t18)], .ty o1 37, .tok t15 9, .tok t18 5]⟩) (fun (y12, y13, y14, t15, t16, y17, t18) => cut_all_B1 F (cut_all_L1 F F) y12 y13 y14 y17 = some r8 ∧ (t16 = .v (.pointer none) ∨ t16 = .pt o1 2)) (x60, a2, a3, t4, a5, a6, t7) ⟨H, ha5⟩ (WK.at [0, 0, 0, 0] (.cons (.refl _) (.cons (.refl _) (.nil _))) rfl) ?_
    rintro ⟨y12, y13, y14, t15, t16, y17, t18⟩ ⟨H, ht16⟩
    unfold cut_all_B1 at H
    show AW _ _ _ _ _ _
    refine AW.seq ?_
    refine AW.label ?_
    show AW _ _ _ _ _ _
    refine AW.seq ?_
    obtain ⟨x62, e63, H⟩ := lt_s H
    refine AW.region ?_
    show AR _ _ _ _ _ [0, 1, 2, 3, 4, 5] _
    refine sS rfl rfl rfl (opS_move (av := .pt _ _) rfl) ?_
    refine sS rfl rfl rfl (opS_nilCheck_pt rfl) ?_
    refine sS rfl rfl rfl (opS_fieldAddr_pt (n := 0) (by kernel_rfl) rfl) ?_
    refine sR rfl rfl rfl (opR_load_pt (i := 0) Tryz.underlying9 rfl rfl rfl rfl) ?_
    refine AR.run rfl rfl (AO.callp rfl en23 rfl (show ACalls _ _ _ [] (Ret (i64 x62) []) from by subst e63; exact lib_IndexByte y13 60) ?_)
    refine sS rfl rfl rfl (asg rfl) ?_
    refine AR.nil ?_
    show AW _ _ _ _ _ _
    refine AW.seq ?_
    refine AW.seq ?_
    refine AW.region ?_
    show AR _ _ _ _ _ [0, 1] _
    refine sS rfl rfl rfl (mv rfl) ?_
    refine sS rfl rfl rfl (opS_lt rfl rfl) ?_
    refine AR.nil ?_
    show AW _ _ _ _ _ _
    refine AW.cond rfl (fun c64 => ?_) (fun c64 => ?_)
    · replace H := cnd_t c64 H
      refine AW.seq ?_
      obtain ⟨g65, H⟩ := grd_s H
      obtain ⟨x66, e67, H⟩ := lt_s H
      refine AW.region_draw (by kernel_rfl) ?_
      show AI _ _ _ _ 8 (Array.replicate 8 false) _
      refine AI.take (i := 0) rfl rfl (by kernel_rfl) (by kernel_rfl) (by kernel_rfl) (fun _ _ h => by obtain ⟨_, _, _, h, _⟩ := h; cases h) (opS_move (av := .pt _ _) rfl) ?_
      show AI _ _ _ _ _ #[true, false, false, false, false, false, false, false] _
      refine AI.take (i := 1) rfl rfl (by kernel_rfl) (by kernel_rfl) (by kernel_rfl) (fun _ _ h => by obtain ⟨_, _, _, h, _⟩ := h; cases h) (opS_nilCheck_pt rfl) ?_
      show AI _ _ _ _ _ #[true, true, false, false, false, false, false, false] _
      refine AI.take (i := 2) rfl rfl (by kernel_rfl) (by kernel_rfl) (by kernel_rfl) (fun _ _ h => by obtain ⟨_, _, _, h, _⟩ := h; cases h) (opS_fieldAddr_pt (n := 2) (by kernel_rfl) rfl) ?_
      show AI _ _ _ _ _ #[true, true, true, false, false, false, false, false] _
      refine AI.take (i := 3) rfl rfl (by kernel_rfl) (by kernel_rfl) (by kernel_rfl) (fun _ _ h => by obtain ⟨_, _, _, h, _⟩ := h; cases h) (opS_move (av := .pt _ _) rfl) ?_
      show AI _ _ _ _ _ #[true, true, true, true, false, false, false, false] _
      refine AI.take (i := 4) rfl rfl (by kernel_rfl) (by kernel_rfl) (by kernel_rfl) (fun _ _ h => by obtain ⟨_, _, _, h, _⟩ := h; cases h) (opS_nilCheck_pt rfl) ?_
      show AI _ _ _ _ _ #[true, true, true, true, true, false, false, false] _
      refine AI.take (i := 5) rfl rfl (by kernel_rfl) (by kernel_rfl) (by kernel_rfl) (fun _ _ h => by obtain ⟨_, _, _, h, _⟩ := h; cases h) (opS_fieldAddr_pt (n := 0) (by kernel_rfl) rfl) ?_
      show AI _ _ _ _ _ #[true, true, true, true, true, true, false, false] _
      refine AI.one (i := 6) (by kernel_rfl) rfl rfl ?_
      refine AIO.op rfl (opR_load_pt (i := 0) Tryz.underlying9 rfl rfl rfl rfl) ?_
      show AI _ _ _ _ _ #[true, true, true, true, true, true, true, false] _
      refine AI.one (i := 7) (by kernel_rfl) rfl rfl ?_
      refine AIO.callAt [0, 0, 1] rfl en24 rfl (Builder_WriteStringC (S y13) (slE Enc.str y14 (some t15)) o1 (t16) ht16 y17 y13 t18 (okW_s g65)) rfl (fun c A' h => by cases h.1) ?_
      rintro av A' ⟨h, t68, rfl⟩; cases h
      rw [e67]
      show AI _ _ _ _ _ #[true, true, true, true, true, true, true, true] _
      refine AI.done rfl ?_
      show AW _ _ _ _ _ _
      refine AW.seq ?_
      obtain ⟨x69, e70, H⟩ := bnd_s H
      refine AW.region ?_
      show AR _ _ _ _ _ [0, 1] _
      refine sS rfl rfl rfl (opS_move (av := .pt _ _) rfl) ?_
      refine AR.run rfl rfl (AO.callAt [0, 0, 1, 0] rfl en25 rfl (w_cut_end F o1 y13 y14 t15 (.pt o1 2) (.inr rfl) x66 t68 x69 e70) rfl (fun c A' h => by cases h.1) ?_)
      rintro av A' ⟨h, t71, rfl⟩; cases h
      refine AR.nil ?_
      show AW _ _ _ _ _ _
      refine AW.nil_objAt 0 3 1 5 rfl rfl fun t72 => ?_
      show AW _ _ _ _ _ ⟨_, _, [.tok t72 5, .obj o1 [S y13, slE Enc.str x69 (some t71), .v (.pointer none), slE Enc.byte [] (some t72)], .ty o1 37, .tok t71 9]⟩
      refine AW.seq ?_
      refine AW.region ?_
      show AR _ _ _ _ _ [0, 1, 2, 3, 4] _
      refine sS rfl rfl rfl (opS_move (av := .pt _ _) rfl) ?_
      refine sS rfl rfl rfl (opS_nilCheck_pt rfl) ?_
      refine sS rfl rfl rfl (opS_fieldAddr_pt (n := 1) (by kernel_rfl) rfl) ?_
      refine sR rfl rfl rfl (opR_load_pt (i := 1) Tryz.underlying24 rfl rfl rfl rfl) ?_
      refine sS rfl rfl rfl (opS_assign (av := slE _ _ _) rfl) ?_
      refine AR.nil ?_
      show AW _ _ _ _ _ _
      refine AW.ret ?_
      obtain rfl := Option.some.inj H
      exact And.intro rfl (Exists.intro _ (Exists.intro _ ⟨ResV.oneW rfl (.tok _ _ _), Sub.at [] rfl, rfl, rfl⟩))
    · replace H := cnd_f c64 H
      refine AW.skip ?_
      show AW _ _ _ _ _ _
      refine AW.seq ?_
      obtain ⟨g73, H⟩ := grd_s H
      obtain ⟨x74, e75, H⟩ := lt_s H
      obtain ⟨g76, H⟩ := grd_s H
      obtain ⟨x77, e78, H⟩ := lt_s H
      refine AW.region_draw (by kernel_rfl) ?_
      show AI _ _ _ _ 10 (Array.replicate 10 false) _
      refine AI.take (i := 0) rfl rfl (by kernel_rfl) (by kernel_rfl) (by kernel_rfl) (fun _ _ h => by obtain ⟨_, _, _, h, _⟩ := h; cases h) (opS_move (av := .pt _ _) rfl) ?_
      show AI _ _ _ _ _ #[true, false, false, false, false, false, false, false, false, false] _
      refine AI.take (i := 1) rfl rfl (by kernel_rfl) (by kernel_rfl) (by kernel_rfl) (fun _ _ h => by obtain ⟨_, _, _, h, _⟩ := h; cases h) (opS_nilCheck_pt rfl) ?_
      show AI _ _ _ _ _ #[true, true, false, false, false, false, false, false, false, false] _
      refine AI.take (i := 2) rfl rfl (by kernel_rfl) (by kernel_rfl) (by kernel_rfl) (fun _ _ h => by obtain ⟨_, _, _, h, _⟩ := h; cases h) (opS_fieldAddr_pt (n := 2) (by kernel_rfl) rfl) ?_
      show AI _ _ _ _ _ #[true, true, true, false, false, false, false, false, false, false] _
      refine AI.take (i := 3) rfl rfl (by kernel_rfl) (by kernel_rfl) (by kernel_rfl) (fun _ _ h => by obtain ⟨_, _, _, h, _⟩ := h; cases h) (opS_move (av := .pt _ _) rfl) ?_
      show AI _ _ _ _ _ #[true, true, true, true, false, false, false, false, false, false] _
      refine AI.take (i := 4) rfl rfl (by kernel_rfl) (by kernel_rfl) (by kernel_rfl) (fun _ _ h => by obtain ⟨_, _, _, h, _⟩ := h; cases h) (opS_nilCheck_pt rfl) ?_
      show AI _ _ _ _ _ #[true, true, true, true, true, false, false, false, false, false] _
      refine AI.take (i := 5) rfl rfl (by kernel_rfl) (by kernel_rfl) (by kernel_rfl) (fun _ _ h => by obtain ⟨_, _, _, h, _⟩ := h; cases h) (opS_fieldAddr_pt (n := 0) (by kernel_rfl) rfl) ?_
      show AI _ _ _ _ _ #[true, true, true, true, true, true, false, false, false, false] _
      refine AI.take (i := 7) rfl rfl (by kernel_rfl) (by kernel_rfl) (by kernel_rfl) (fun _ _ h => by obtain ⟨_, _, _, h, _⟩ := h; cases h) (mv rfl) ?_
      show AI _ _ _ _ _ #[true, true, true, true, true, true, false, true, false, false] _
      refine AI.one (i := 6) (by kernel_rfl) rfl rfl ?_
      refine AIO.op rfl (opR_load_pt (i := 0) Tryz.underlying9 rfl rfl rfl rfl) ?_
      show AI _ _ _ _ _ #[true, true, true, true, true, true, true, true, false, false] _
      refine AI.take (i := 8) rfl rfl (by kernel_rfl) (by kernel_rfl) (by kernel_rfl) (fun _ _ h => by obtain ⟨_, _, _, h, _⟩ := h; cases h) (g_to_str Tryz.underlying9 rfl rfl g73 e75) ?_
      show AI _ _ _ _ _ #[true, true, true, true, true, true, true, true, true, false] _
      refine AI.one (i := 9) (by kernel_rfl) rfl rfl ?_
      refine AIO.callAt [0, 0, 1] rfl en24 rfl (Builder_WriteStringC (S y13) (slE Enc.str y14 (some t15)) o1 (t16) ht16 y17 x74 t18 (okW_s g76)) rfl (fun c A' h => by cases h.1) ?_
      rintro av A' ⟨h, t79, rfl⟩; cases h
      rw [e78]
      show AI _ _ _ _ _ #[true, true, true, true, true, true, true, true, true, true] _
      refine AI.done rfl ?_
      show AW _ _ _ _ _ _
      refine AW.seq ?_
      obtain ⟨g80, H⟩ := grd_s H
      obtain ⟨x81, e82, H⟩ := lt_s H
      refine AW.region ?_
      show AR _ _ _ _ _ [0, 1, 2, 3, 4, 5, 6, 7, 8, 9] _
      refine sS rfl rfl rfl (opS_move (av := .pt _ _) rfl) ?_
      refine sS rfl rfl rfl (opS_move (av := .pt _ _) rfl) ?_
      refine sS rfl rfl rfl (opS_nilCheck_pt rfl) ?_
      refine sS rfl rfl rfl (opS_fieldAddr_pt (n := 0) (by kernel_rfl) rfl) ?_
      refine sR rfl rfl rfl (opR_load_pt (i := 0) Tryz.underlying9 rfl rfl rfl rfl) ?_
      refine sS rfl rfl rfl (mv rfl) ?_
      refine sS rfl rfl rfl (g_from_str Tryz.underlying9 rfl rfl g80 e82) ?_
      refine sS rfl rfl rfl (opS_nilCheck_pt rfl) ?_
      refine sS rfl rfl rfl (opS_fieldAddr_pt (n := 0) (by kernel_rfl) rfl) ?_
      refine s0 rfl rfl (opR_store_pt (i := 0) (c := .v _) (by kernel_rfl) rfl rfl rfl rfl (Nat.le_of_ble_eq_true rfl)) ?_
      refine AR.nil ?_
      show AW _ _ _ _ _ _
      refine AW.seq ?_
      refine AW.seq ?_
      obtain ⟨x83, e84, H⟩ := bnd_s H
      refine AW.region ?_
      show AR _ _ _ _ _ [0, 1, 2, 3, 4, 5] _
      refine sS rfl rfl rfl (opS_move (av := .pt _ _) rfl) ?_
      refine sS rfl rfl rfl (opS_nilCheck_pt rfl) ?_
      refine sS rfl rfl rfl (opS_fieldAddr_pt (n := 0) (by kernel_rfl) rfl) ?_
      refine sR rfl rfl rfl (opR_load_pt (i := 0) Tryz.underlying9 rfl rfl rfl rfl) ?_
      refine AR.run rfl rfl (AO.callp rfl en26 rfl (w_plain_one F x81 1 plaina_k2 x83 e84) ?_)
      refine sS rfl rfl rfl (opS_not rfl) ?_
      refine AR.nil ?_
      show AW _ _ _ _ _ _
      refine AW.cond rfl (fun c85 => ?_) (fun c85 => ?_)
      · replace H := cnd_t c85 H
        refine AW.seq ?_
        obtain ⟨g86, H⟩ := grd_s H
        obtain ⟨x87, e88, H⟩ := lt_s H
        refine AW.region ?_
        show AR _ _ _ _ _ [0, 1, 2, 3] _
        refine sS rfl rfl rfl (opS_move (av := .pt _ _) rfl) ?_
        refine sS rfl rfl rfl (opS_nilCheck_pt rfl) ?_
        refine sS rfl rfl rfl (opS_fieldAddr_pt (n := 2) (by kernel_rfl) rfl) ?_
        refine AR.run rfl rfl (AO.callAt [0, 0, 0] rfl en24 rfl (Builder_WriteStringC (S x81) (slE Enc.str y14 (some t15)) o1 (.pt o1 2) (.inr rfl) x77 ([60] : List UInt8) t79 (okW_s g86)) rfl (fun c A' h => by cases h.1) ?_)
        rintro av A' ⟨h, t89, rfl⟩; cases h
        rw [e88]
        refine AR.nil ?_
        show AW _ _ _ _ _ _
        refine AW.seq ?_
        obtain ⟨g90, H⟩ := grd_s H
        obtain ⟨x91, e92, H⟩ := lt_s H
        refine AW.region ?_
        show AR _ _ _ _ _ [0, 1, 2, 3, 4, 5, 6, 7, 8] _
        refine sS rfl rfl rfl (opS_move (av := .pt _ _) rfl) ?_
        refine sS rfl rfl rfl (opS_move (av := .pt _ _) rfl) ?_
        refine sS rfl rfl rfl (opS_nilCheck_pt rfl) ?_
        refine sS rfl rfl rfl (opS_fieldAddr_pt (n := 0) (by kernel_rfl) rfl) ?_
        refine sR rfl rfl rfl (opR_load_pt (i := 0) Tryz.underlying9 rfl rfl rfl rfl) ?_
        refine sS rfl rfl rfl (g_from_str Tryz.underlying9 rfl rfl g90 e92) ?_
        refine sS rfl rfl rfl (opS_nilCheck_pt rfl) ?_
        refine sS rfl rfl rfl (opS_fieldAddr_pt (n := 0) (by kernel_rfl) rfl) ?_
        refine s0 rfl rfl (opR_store_pt (i := 0) (c := .v _) (by kernel_rfl) rfl rfl rfl rfl (Nat.le_of_ble_eq_true rfl)) ?_
        refine AR.nil ?_
        show AW _ _ _ _ _ _
        refine AW.goto ?_
        exact And.intro rfl (Exists.intro (F, y12, x91, y14, t15, (.pt o1 2), x87, t89) ⟨⟨H, .inr rfl⟩, WK.at [0, 0, 1, 0] (.cons (.refl _) (.cons (.refl _) (.nil _))) rfl⟩)
      · replace H := cnd_f c85 H
        refine AW.skip ?_
        show AW _ _ _ _ _ _
        refine AW.seq ?_
        refine AW.seq ?_
        obtain ⟨x93, x94, e95, H⟩ := bnd2_s H
        refine AW.region ?_
        show AR _ _ _ _ _ [0, 1, 2, 3, 4] _
        refine sS rfl rfl rfl (opS_move (av := mpI _ _) rfl) ?_
        refine sS rfl rfl rfl (opS_move (av := .pt _ _) rfl) ?_
        refine AR.run rfl rfl (AO.callAt [0, 0, 1, 0] rfl en27 rfl (w_cut_mark F o1 x81 y14 t15 (.pt o1 2) (.inr rfl) x77 t79 x93 x94 e95) rfl (fun c A' h => by cases h.1) ?_)
        rintro av A' ⟨h, rfl⟩; cases h
        refine sS rfl rfl rfl (g_lookup Tryz.underlying42 Tryz.underlying9 (fun _ => by kernel_rfl) rfl rfl) ?_
        refine sS rfl rfl rfl (opS_gt rfl rfl) ?_
        refine AR.nil ?_
        show AW _ _ _ _ _ _
        refine AW.cond rfl (fun c96 => ?_) (fun c96 => ?_)
        · replace H := cnd_t c96 H
          obtain ⟨x97, e98, H⟩ := bnd_s H
          refine AW.region ?_
          show AR _ _ _ _ _ [0, 1] _
          refine sS rfl rfl rfl (opS_move (av := .pt _ _) rfl) ?_
          refine AR.run rfl rfl (AO.callAt [0, 0, 0, 0] rfl en25 rfl (w_cut_end F o1 x94 y14 t15 (.pt o1 2) (.inr rfl) x77 t79 x97 e98) rfl (fun c A' h => by cases h.1) ?_)
          rintro av A' ⟨h, t99, rfl⟩; cases h
          refine AR.nil ?_
          show AW _ _ _ _ _ _
          refine AW.nil_objAt 0 3 1 5 rfl rfl fun t100 => ?_
          show AW _ _ _ _ _ ⟨_, _, [.tok t100 5, .obj o1 [S x94, slE Enc.str x97 (some t99), .v (.pointer none), slE Enc.byte [] (some t100)], .ty o1 37, .tok t99 9]⟩
          refine AW.goto ?_
          exact And.intro rfl (Exists.intro (F, y12, x94, x97, t99, (.v (.pointer none)), [], t100) ⟨⟨H, .inl rfl⟩, WK.at [1, 1, 1, 0] (.cons (.refl _) (.cons (.refl _) (.nil _))) rfl⟩)
        · replace H := cnd_f c96 H
          refine AW.skip ?_
          show AW _ _ _ _ _ _
          refine AW.goto ?_
          exact And.intro rfl (Exists.intro (F, y12, x94, y14, t15, (.pt o1 2), x77, t79) ⟨⟨H, .inr rfl⟩, WK.at [0, 0, 0, 0] (.cons (.refl _) (.cons (.refl _) (.nil _))) rfl⟩)
  rintro ⟨n20, y12, y13, y14, t15, t16, y17, t18⟩ ⟨H, ht16⟩
  obtain ⟨n20, rfl, H⟩ := loop_s H
  replace H : cut_all_B1 F (cut_all_L1 F n20) y12 y13 y14 y17 = some r8 := H
  unfold cut_all_B1 at H
  show AW _ _ _ _ _ _
  refine AW.seq ?_
  refine AW.skip ?_
  show AW _ _ _ _ _ _
  refine AW.seq ?_
  obtain ⟨x21, e22, H⟩ := lt_s H
  refine AW.region ?_
  show AR _ _ _ _ _ [0, 1, 2, 3, 4, 5] _
  refine sS rfl rfl rfl (opS_move (av := .pt _ _) rfl) ?_
  refine sS rfl rfl rfl (opS_nilCheck_pt rfl) ?_
  refine sS rfl rfl rfl (opS_fieldAddr_pt (n := 0) (by kernel_rfl) rfl) ?_
  refine sR rfl rfl rfl (opR_load_pt (i := 0) Tryz.underlying9 rfl rfl rfl rfl) ?_
  refine AR.run rfl rfl (AO.callp rfl en23 rfl (show ACalls _ _ _ [] (Ret (i64 x21) []) from by subst e22; exact lib_IndexByte y13 60) ?_)
  refine sS rfl rfl rfl (asg rfl) ?_
  refine AR.nil ?_
  show AW _ _ _ _ _ _
  refine AW.seq ?_
  refine AW.seq ?_
  refine AW.region ?_
  show AR _ _ _ _ _ [0, 1] _
  refine sS rfl rfl rfl (mv rfl) ?_
  refine sS rfl rfl rfl (opS_lt rfl rfl) ?_
  refine AR.nil ?_
  show AW _ _ _ _ _ _
  refine AW.cond rfl (fun c23 => ?_) (fun c23 => ?_)
  · replace H := cnd_t c23 H
    refine AW.seq ?_
    obtain ⟨g24, H⟩ := grd_s H
    obtain ⟨x25, e26, H⟩ := lt_s H
    refine AW.region_draw (by kernel_rfl) ?_
    show AI _ _ _ _ 8 (Array.replicate 8 false) _
    refine AI.take (i := 0) rfl rfl (by kernel_rfl) (by kernel_rfl) (by kernel_rfl) (fun _ _ h => by obtain ⟨_, _, _, h, _⟩ := h; cases h) (opS_move (av := .pt _ _) rfl) ?_
    show AI _ _ _ _ _ #[true, false, false, false, false, false, false, false] _
    refine AI.take (i := 1) rfl rfl (by kernel_rfl) (by kernel_rfl) (by kernel_rfl) (fun _ _ h => by obtain ⟨_, _, _, h, _⟩ := h; cases h) (opS_nilCheck_pt rfl) ?_
    show AI _ _ _ _ _ #[true, true, false, false, false, false, false, false] _
    refine AI.take (i := 2) rfl rfl (by kernel_rfl) (by kernel_rfl) (by kernel_rfl) (fun _ _ h => by obtain ⟨_, _, _, h, _⟩ := h; cases h) (opS_fieldAddr_pt (n := 2) (by kernel_rfl) rfl) ?_
    show AI _ _ _ _ _ #[true, true, true, false, false, false, false, false] _
    refine AI.take (i := 3) rfl rfl (by kernel_rfl) (by kernel_rfl) (by kernel_rfl) (fun _ _ h => by obtain ⟨_, _, _, h, _⟩ := h; cases h) (opS_move (av := .pt _ _) rfl) ?_
    show AI _ _ _ _ _ #[true, true, true, true, false, false, false, false] _
    refine AI.take (i := 4) rfl rfl (by kernel_rfl) (by kernel_rfl) (by kernel_rfl) (fun _ _ h => by obtain ⟨_, _, _, h, _⟩ := h; cases h) (opS_nilCheck_pt rfl) ?_
    show AI _ _ _ _ _ #[true, true, true, true, true, false, false, false] _
    refine AI.take (i := 5) rfl rfl (by kernel_rfl) (by kernel_rfl) (by kernel_rfl) (fun _ _ h => by obtain ⟨_, _, _, h, _⟩ := h; cases h) (opS_fieldAddr_pt (n := 0) (by kernel_rfl) rfl) ?_
    show AI _ _ _ _ _ #[true, true, true, true, true, true, false, false] _
    refine AI.one (i := 6) (by kernel_rfl) rfl rfl ?_
    refine AIO.op rfl (opR_load_pt (i := 0) Tryz.underlying9 rfl rfl rfl rfl) ?_
    show AI _ _ _ _ _ #[true, true, true, true, true, true, true, false] _
    refine AI.one (i := 7) (by kernel_rfl) rfl rfl ?_
    refine AIO.callAt [0, 0, 1] rfl en24 rfl (Builder_WriteStringC (S y13) (slE Enc.str y14 (some t15)) o1 (t16) ht16 y17 y13 t18 (okW_s g24)) rfl (fun c A' h => by cases h.1) ?_
    rintro av A' ⟨h, t27, rfl⟩; cases h
    rw [e26]
    show AI _ _ _ _ _ #[true, true, true, true, true, true, true, true] _
    refine AI.done rfl ?_
    show AW _ _ _ _ _ _
    refine AW.seq ?_
    obtain ⟨x28, e29, H⟩ := bnd_s H
    refine AW.region ?_
    show AR _ _ _ _ _ [0, 1] _
    refine sS rfl rfl rfl (opS_move (av := .pt _ _) rfl) ?_
    refine AR.run rfl rfl (AO.callAt [0, 0, 1, 0] rfl en25 rfl (w_cut_end F o1 y13 y14 t15 (.pt o1 2) (.inr rfl) x25 t27 x28 e29) rfl (fun c A' h => by cases h.1) ?_)
    rintro av A' ⟨h, t30, rfl⟩; cases h
    refine AR.nil ?_
    show AW _ _ _ _ _ _
    refine AW.nil_objAt 0 3 1 5 rfl rfl fun t31 => ?_
    show AW _ _ _ _ _ ⟨_, _, [.tok t31 5, .obj o1 [S y13, slE Enc.str x28 (some t30), .v (.pointer none), slE Enc.byte [] (some t31)], .ty o1 37, .tok t30 9]⟩
    refine AW.seq ?_
    refine AW.region ?_
    show AR _ _ _ _ _ [0, 1, 2, 3, 4] _
    refine sS rfl rfl rfl (opS_move (av := .pt _ _) rfl) ?_
    refine sS rfl rfl rfl (opS_nilCheck_pt rfl) ?_
    refine sS rfl rfl rfl (opS_fieldAddr_pt (n := 1) (by kernel_rfl) rfl) ?_
    refine sR rfl rfl rfl (opR_load_pt (i := 1) Tryz.underlying24 rfl rfl rfl rfl) ?_
    refine sS rfl rfl rfl (opS_assign (av := slE _ _ _) rfl) ?_
    refine AR.nil ?_
    show AW _ _ _ _ _ _
    refine AW.ret ?_
    obtain rfl := Option.some.inj H
    exact And.intro rfl (Exists.intro _ (Exists.intro _ ⟨ResV.oneW rfl (.tok _ _ _), Sub.at [] rfl, rfl, rfl⟩))
  · replace H := cnd_f c23 H
    refine AW.skip ?_
    show AW _ _ _ _ _ _
    refine AW.seq ?_
    obtain ⟨g32, H⟩ := grd_s H
    obtain ⟨x33, e34, H⟩ := lt_s H
    obtain ⟨g35, H⟩ := grd_s H
    obtain ⟨x36, e37, H⟩ := lt_s H
    refine AW.region_draw (by kernel_rfl) ?_
    show AI _ _ _ _ 10 (Array.replicate 10 false) _
    refine AI.take (i := 0) rfl rfl (by kernel_rfl) (by kernel_rfl) (by kernel_rfl) (fun _ _ h => by obtain ⟨_, _, _, h, _⟩ := h; cases h) (opS_move (av := .pt _ _) rfl) ?_
    show AI _ _ _ _ _ #[true, false, false, false, false, false, false, false, false, false] _
    refine AI.take (i := 1) rfl rfl (by kernel_rfl) (by kernel_rfl) (by kernel_rfl) (fun _ _ h => by obtain ⟨_, _, _, h, _⟩ := h; cases h) (opS_nilCheck_pt rfl) ?_
    show AI _ _ _ _ _ #[true, true, false, false, false, false, false, false, false, false] _
    refine AI.take (i := 2) rfl rfl (by kernel_rfl) (by kernel_rfl) (by kernel_rfl) (fun _ _ h => by obtain ⟨_, _, _, h, _⟩ := h; cases h) (opS_fieldAddr_pt (n := 2) (by kernel_rfl) rfl) ?_
    show AI _ _ _ _ _ #[true, true, true, false, false, false, false, false, false, false] _
    refine AI.take (i := 3) rfl rfl (by kernel_rfl) (by kernel_rfl) (by kernel_rfl) (fun _ _ h => by obtain ⟨_, _, _, h, _⟩ := h; cases h) (opS_move (av := .pt _ _) rfl) ?_
    show AI _ _ _ _ _ #[true, true, true, true, false, false, false, false, false, false] _
    refine AI.take (i := 4) rfl rfl (by kernel_rfl) (by kernel_rfl) (by kernel_rfl) (fun _ _ h => by obtain ⟨_, _, _, h, _⟩ := h; cases h) (opS_nilCheck_pt rfl) ?_
    show AI _ _ _ _ _ #[true, true, true, true, true, false, false, false, false, false] _
    refine AI.take (i := 5) rfl rfl (by kernel_rfl) (by kernel_rfl) (by kernel_rfl) (fun _ _ h => by obtain ⟨_, _, _, h, _⟩ := h; cases h) (opS_fieldAddr_pt (n := 0) (by kernel_rfl) rfl) ?_
    show AI _ _ _ _ _ #[true, true, true, true, true, true, false, false, false, false] _
    refine AI.take (i := 7) rfl rfl (by kernel_rfl) (by kernel_rfl) (by kernel_rfl) (fun _ _ h => by obtain ⟨_, _, _, h, _⟩ := h; cases h) (mv rfl) ?_
    show AI _ _ _ _ _ #[true, true, true, true, true, true, false, true, false, false] _
    refine AI.one (i := 6) (by kernel_rfl) rfl rfl ?_
    refine AIO.op rfl (opR_load_pt (i := 0) Tryz.underlying9 rfl rfl rfl rfl) ?_
    show AI _ _ _ _ _ #[true, true, true, true, true, true, true, true, false, false] _
    refine AI.take (i := 8) rfl rfl (by kernel_rfl) (by kernel_rfl) (by kernel_rfl) (fun _ _ h => by obtain ⟨_, _, _, h, _⟩ := h; cases h) (g_to_str Tryz.underlying9 rfl rfl g32 e34) ?_
    show AI _ _ _ _ _ #[true, true, true, true, true, true, true, true, true, false] _
    refine AI.one (i := 9) (by kernel_rfl) rfl rfl ?_
    refine AIO.callAt [0, 0, 1] rfl en24 rfl (Builder_WriteStringC (S y13) (slE Enc.str y14 (some t15)) o1 (t16) ht16 y17 x33 t18 (okW_s g35)) rfl (fun c A' h => by cases h.1) ?_
    rintro av A' ⟨h, t38, rfl⟩; cases h
    rw [e37]
    show AI _ _ _ _ _ #[true, true, true, true, true, true, true, true, true, true] _
    refine AI.done rfl ?_
    show AW _ _ _ _ _ _
    refine AW.seq ?_
    obtain ⟨g39, H⟩ := grd_s H
    obtain ⟨x40, e41, H⟩ := lt_s H
    refine AW.region ?_
    show AR _ _ _ _ _ [0, 1, 2, 3, 4, 5, 6, 7, 8, 9] _
    refine sS rfl rfl rfl (opS_move (av := .pt _ _) rfl) ?_
    refine sS rfl rfl rfl (opS_move (av := .pt _ _) rfl) ?_
    refine sS rfl rfl rfl (opS_nilCheck_pt rfl) ?_
    refine sS rfl rfl rfl (opS_fieldAddr_pt (n := 0) (by kernel_rfl) rfl) ?_
    refine sR rfl rfl rfl (opR_load_pt (i := 0) Tryz.underlying9 rfl rfl rfl rfl) ?_
    refine sS rfl rfl rfl (mv rfl) ?_
    refine sS rfl rfl rfl (g_from_str Tryz.underlying9 rfl rfl g39 e41) ?_
    refine sS rfl rfl rfl (opS_nilCheck_pt rfl) ?_
    refine sS rfl rfl rfl (opS_fieldAddr_pt (n := 0) (by kernel_rfl) rfl) ?_
    refine s0 rfl rfl (opR_store_pt (i := 0) (c := .v _) (by kernel_rfl) rfl rfl rfl rfl (Nat.le_of_ble_eq_true rfl)) ?_
    refine AR.nil ?_
    show AW _ _ _ _ _ _
    refine AW.seq ?_
    refine AW.seq ?_
    obtain ⟨x42, e43, H⟩ := bnd_s H
    refine AW.region ?_
    show AR _ _ _ _ _ [0, 1, 2, 3, 4, 5] _
    refine sS rfl rfl rfl (opS_move (av := .pt _ _) rfl) ?_
    refine sS rfl rfl rfl (opS_nilCheck_pt rfl) ?_
    refine sS rfl rfl rfl (opS_fieldAddr_pt (n := 0) (by kernel_rfl) rfl) ?_
    refine sR rfl rfl rfl (opR_load_pt (i := 0) Tryz.underlying9 rfl rfl rfl rfl) ?_
    refine AR.run rfl rfl (AO.callp rfl en26 rfl (w_plain_one F x40 1 plaina_k2 x42 e43) ?_)
    refine sS rfl rfl rfl (opS_not rfl) ?_
    refine AR.nil ?_
    show AW _ _ _ _ _ _
    refine AW.cond rfl (fun c44 => ?_) (fun c44 => ?_)
    · replace H := cnd_t c44 H
      refine AW.seq ?_
      obtain ⟨g45, H⟩ := grd_s H
      obtain ⟨x46, e47, H⟩ := lt_s H
      refine AW.region ?_
      show AR _ _ _ _ _ [0, 1, 2, 3] _
      refine sS rfl rfl rfl (opS_move (av := .pt _ _) rfl) ?_
      refine sS rfl rfl rfl (opS_nilCheck_pt rfl) ?_
      refine sS rfl rfl rfl (opS_fieldAddr_pt (n := 2) (by kernel_rfl) rfl) ?_
      refine AR.run rfl rfl (AO.callAt [0, 0, 0] rfl en24 rfl (Builder_WriteStringC (S x40) (slE Enc.str y14 (some t15)) o1 (.pt o1 2) (.inr rfl) x36 ([60] : List UInt8) t38 (okW_s g45)) rfl (fun c A' h => by cases h.1) ?_)
      rintro av A' ⟨h, t48, rfl⟩; cases h
      rw [e47]
      refine AR.nil ?_
      show AW _ _ _ _ _ _
      refine AW.seq ?_
      obtain ⟨g49, H⟩ := grd_s H
      obtain ⟨x50, e51, H⟩ := lt_s H
      refine AW.region ?_
      show AR _ _ _ _ _ [0, 1, 2, 3, 4, 5, 6, 7, 8] _
      refine sS rfl rfl rfl (opS_move (av := .pt _ _) rfl) ?_
      refine sS rfl rfl rfl (opS_move (av := .pt _ _) rfl) ?_
      refine sS rfl rfl rfl (opS_nilCheck_pt rfl) ?_
      refine sS rfl rfl rfl (opS_fieldAddr_pt (n := 0) (by kernel_rfl) rfl) ?_
      refine sR rfl rfl rfl (opR_load_pt (i := 0) Tryz.underlying9 rfl rfl rfl rfl) ?_
      refine sS rfl rfl rfl (g_from_str Tryz.underlying9 rfl rfl g49 e51) ?_
      refine sS rfl rfl rfl (opS_nilCheck_pt rfl) ?_
      refine sS rfl rfl rfl (opS_fieldAddr_pt (n := 0) (by kernel_rfl) rfl) ?_
      refine s0 rfl rfl (opR_store_pt (i := 0) (c := .v _) (by kernel_rfl) rfl rfl rfl rfl (Nat.le_of_ble_eq_true rfl)) ?_
      refine AR.nil ?_
      show AW _ _ _ _ _ _
      refine AW.goto ?_
      exact And.intro rfl (Exists.intro (n20, y12, x50, y14, t15, (.pt o1 2), x46, t48) ⟨⟨H, .inr rfl⟩, Nat.lt_succ_self _, WK.at [0, 0, 1, 0] (.cons (.refl _) (.cons (.refl _) (.nil _))) rfl⟩)
    · replace H := cnd_f c44 H
      refine AW.skip ?_
      show AW _ _ _ _ _ _
      refine AW.seq ?_
      refine AW.seq ?_
      obtain ⟨x52, x53, e54, H⟩ := bnd2_s H
      refine AW.region ?_
      show AR _ _ _ _ _ [0, 1, 2, 3, 4] _
      refine sS rfl rfl rfl (opS_move (av := mpI _ _) rfl) ?_
      refine sS rfl rfl rfl (opS_move (av := .pt _ _) rfl) ?_
      refine AR.run rfl rfl (AO.callAt [0, 0, 1, 0] rfl en27 rfl (w_cut_mark F o1 x40 y14 t15 (.pt o1 2) (.inr rfl) x36 t38 x52 x53 e54) rfl (fun c A' h => by cases h.1) ?_)
      rintro av A' ⟨h, rfl⟩; cases h
      refine sS rfl rfl rfl (g_lookup Tryz.underlying42 Tryz.underlying9 (fun _ => by kernel_rfl) rfl rfl) ?_
      refine sS rfl rfl rfl (opS_gt rfl rfl) ?_
      refine AR.nil ?_
      show AW _ _ _ _ _ _
      refine AW.cond rfl (fun c55 => ?_) (fun c55 => ?_)
      · replace H := cnd_t c55 H
        obtain ⟨x56, e57, H⟩ := bnd_s H
        refine AW.region ?_
        show AR _ _ _ _ _ [0, 1] _
        refine sS rfl rfl rfl (opS_move (av := .pt _ _) rfl) ?_
        refine AR.run rfl rfl (AO.callAt [0, 0, 0, 0] rfl en25 rfl (w_cut_end F o1 x53 y14 t15 (.pt o1 2) (.inr rfl) x36 t38 x56 e57) rfl (fun c A' h => by cases h.1) ?_)
        rintro av A' ⟨h, t58, rfl⟩; cases h
        refine AR.nil ?_
        show AW _ _ _ _ _ _
        refine AW.nil_objAt 0 3 1 5 rfl rfl fun t59 => ?_
        show AW _ _ _ _ _ ⟨_, _, [.tok t59 5, .obj o1 [S x53, slE Enc.str x56 (some t58), .v (.pointer none), slE Enc.byte [] (some t59)], .ty o1 37, .tok t58 9]⟩
        refine AW.goto ?_
        exact And.intro rfl (Exists.intro (n20, y12, x53, x56, t58, (.v (.pointer none)), [], t59) ⟨⟨H, .inl rfl⟩, Nat.lt_succ_self _, WK.at [1, 1, 1, 0] (.cons (.refl _) (.cons (.refl _) (.nil _))) rfl⟩)
      · replace H := cnd_f c55 H
        refine AW.skip ?_
        show AW _ _ _ _ _ _
        refine AW.goto ?_
        exact And.intro rfl (Exists.intro (n20, y12, x53, y14, t15, (.pt o1 2), x36, t38) ⟨⟨H, .inr rfl⟩, Nat.lt_succ_self _, WK.at [0, 0, 0, 0] (.cons (.refl _) (.cons (.refl _) (.nil _))) rfl⟩)
set_option maxRecDepth 100000 in
set_option maxHeartbeats 1000000 in
theorem w_plain_Of (F : Nat) (a1 : List UInt8) (r2 : List UInt8) (H : plain_Of F a1 = some r2) : ACalls Tryz.prog 8 [S a1] [] (Ret (S r2) []) := by
  unfold plain_Of at H
  refine ACalls.of_body Tryz.func8 rfl rfl ?_
  show AW _ _ 28 _ _ _
  refine AW.seq ?_
  refine AW.region ?_
  show AR _ _ _ _ _ [0] _
  refine sS rfl rfl rfl (asg rfl) ?_
  refine AR.nil ?_
  show AW _ _ _ _ _ _
  refine AW.seq ?_
  refine AW.region ?_
  show AR _ _ _ _ _ [0] _
  refine sS rfl rfl rfl (asg rfl) ?_
  refine AR.nil ?_
  show AW _ _ _ _ _ _
  refine AW.nil_grows 3 1 9 rfl fun t3 => ?_
  show AW _ _ _ _ _ ⟨(3, slE Enc.str [] (some t3)) :: _, _, _⟩
  refine AW.cut (X := (List (List UInt8)) × Nat) (fun (y31, t32) => ⟨[(3, slE Enc.str y31 (some t32))], [], [.tok t32 9]⟩) (fun (y31, t32) => plain_Of_j1 y31 = some r2) ?_ ?_
  ·
    refine AW.seq ?_
    obtain ⟨x7, e8, H⟩ := bnd_s H
    refine AW.region ?_
    show AR _ _ _ _ _ [0, 1, 2, 3, 4, 5] _
    refine sS rfl rfl rfl (mv rfl) ?_
    refine sS rfl rfl rfl (g_build (zs := [.string ⟨#[]⟩, .slice none 0 0, (.pointer none), .slice none 0 0]) (ps := [(0, 1), (1, 1), (2, 2)]) (cs := [S a1, nilS, .v (.pointer none), nilS]) (by kernel_rfl) rfl rfl) ?_
    refine sX rfl rfl rfl (opX_boxT rfl (.inr ⟨_, rfl⟩)) ?_
    rintro _ _ ⟨o4, rfl, rfl⟩
    refine AR.nil_objAt 0 1 1 9 rfl rfl fun t5 => ?_
    show AR _ _ _ _ _ _ ⟨_, _, [.tok t5 9, .obj o4 [S a1, slE Enc.str [] (some t5), .v (.pointer none), nilS], .ty o4 37, .tok t3 9]⟩
    refine AR.nil_objAt 1 3 1 5 rfl rfl fun t6 => ?_
    show AR _ _ _ _ _ _ ⟨_, _, [.tok t6 5, .tok t5 9, .obj o4 [S a1, slE Enc.str [] (some t5), .v (.pointer none), slE Enc.byte [] (some t6)], .ty o4 37, .tok t3 9]⟩
    refine AR.run rfl rfl (AO.callAt [2, 2, 1, 0] rfl en14 rfl (w_cut_all F o4 a1 [] t5 (.v (.pointer none)) (.inl rfl) [] t6 x7 e8) rfl (fun c A' h => by cases h.1) ?_)
    rintro av A' ⟨h, rfl⟩; cases h
    refine sS rfl rfl rfl (opS_len_sl Tryz.underlying24 rfl) ?_
    refine sS rfl rfl rfl (mv rfl) ?_
    refine AR.nil ?_
    show AW _ _ _ _ _ _
    refine AW.block ?_
    refine AW.loop (X := Nat × (List (List UInt8)) × Nat × Int) (fun (n13, y9, t10, y11) => ⟨[(3, slE Enc.str y9 (some t10)), (10, slE Enc.str x7 none), (11, i64 (x7.length : Int)), (12, i64 y11)], [], [.tok t10 9]⟩) (fun (n13, y9, t10, y11) => plain_Of_L1 F x7 n13 (y9, y11) = some r2) (fun (n13, y9, t10, y11) => n13) (F, [], t3, 0) H (WK.at [0] (.cons (.refl _) (.cons (.refl _) (.cons (.refl _) (.cons (.refl _) (.nil _))))) rfl) ?_
    rintro ⟨n13, y9, t10, y11⟩ H
    obtain ⟨n13, rfl, H⟩ := loop_s H
    replace H : plain_Of_B1 F x7 (plain_Of_L1 F x7 n13) y9 y11 = some r2 := H
    unfold plain_Of_B1 at H
    show AW _ _ _ _ _ _
    refine AW.seq ?_
    refine AW.region ?_
    show AR _ _ _ _ _ [0] _
    refine sS rfl rfl rfl (opS_lt rfl rfl) ?_
    refine AR.nil ?_
    show AW _ _ _ _ _ _
    refine AW.seq ?_
    refine AW.cond rfl (fun c14 => ?_) (fun c14 => ?_)
    · replace H := cnd_t c14 H
      refine AW.skip ?_
      show AW _ _ _ _ _ _
      refine AW.cut (X := (List (List UInt8)) × Nat) (fun (y27, t28) => ⟨[(3, slE Enc.str y27 (some t28)), (10, slE Enc.str x7 none), (11, i64 (x7.length : Int)), (12, i64 y11)], [], [.tok t28 9]⟩) (fun (y27, t28) => plain_Of_j2 y11 (plain_Of_L1 F x7 n13) y27 = some r2) ?_ ?_
      ·
        refine AW.block ?_
        refine AW.seq ?_
        obtain ⟨g15, H⟩ := grd_s H
        obtain ⟨x16, e17, H⟩ := lt_s H
        refine AW.region ?_
        show AR _ _ _ _ _ [0, 1, 2] _
        refine sS rfl rfl rfl (g_indexAddr (E := Enc.str) Tryz.underlying24 (by kernel_rfl) rfl rfl g15 e17) ?_
        refine sS rfl rfl rfl (opS_load_cp Tryz.underlying9 rfl rfl) ?_
        refine sS rfl rfl rfl (asg rfl) ?_
        refine AR.nil ?_
        show AW _ _ _ _ _ _
        refine AW.seq ?_
        obtain ⟨x18, e19, H⟩ := bnd_s H
        obtain ⟨x20, e21, H⟩ := bnd_s H
        refine AW.region ?_
        show AR _ _ _ _ _ [0, 1, 2, 3] _
        refine sS rfl rfl rfl (mv rfl) ?_
        refine AR.run rfl rfl (AO.callp rfl en15 rfl (w_ent_Loose F x16 x18 e19) ?_)
        refine AR.run rfl rfl (AO.callp rfl en11 rfl (w_ent_Trim F x18 x20 e21) ?_)
        refine sS rfl rfl rfl (asg rfl) ?_
        refine AR.nil ?_
        show AW _ _ _ _ _ _
        refine AW.seq ?_
        refine AW.region ?_
        show AR _ _ _ _ _ [0, 1] _
        refine sS rfl rfl rfl (mv rfl) ?_
        refine sS rfl rfl rfl (opS_nes rfl rfl) ?_
        refine AR.nil ?_
        show AW _ _ _ _ _ _
        refine AW.cond rfl (fun c22 => ?_) (fun c22 => ?_)
        · replace H := cnd_t c22 H
          obtain ⟨g24, H⟩ := grd_s H
          obtain ⟨x25, e26, H⟩ := lt_s H
          refine AW.region ?_
          show AR _ _ _ _ _ [0, 1, 2, 3, 4] _
          refine sS rfl rfl rfl (opS_move (av := slE _ _ _) rfl) ?_
          refine sS rfl rfl rfl (mv rfl) ?_
          refine sR rfl rfl rfl (opR_buildE (E := Enc.str) (bytes := 16) (xs := [.tmp 22]) (l := ([x20] : List (List UInt8))) Tryz.underlying24 (by kernel_rfl) rfl rfl (by decide) rfl rfl) ?_
          refine sX rfl rfl rfl (g_append (E := Enc.str) (bytes := 16) 0 Tryz.underlying24 Tryz.underlying24 rfl (by kernel_rfl) rfl rfl rfl rfl g24 e26) ?_
          rintro _ _ ⟨t23, rfl, rfl⟩
          refine sS rfl rfl rfl (opS_assign (av := slE _ _ _) rfl) ?_
          refine AR.nil ?_
          exact Exists.intro (x25, t23) ⟨H, WK.at [0] (.cons (.refl _) (.cons (.refl _) (.cons (.refl _) (.cons (.refl _) (.nil _))))) rfl⟩
        · replace H := cnd_f c22 H
          refine AW.skip ?_
          exact Exists.intro (y9, t10) ⟨H, WK.at [0] (.cons (.refl _) (.cons (.refl _) (.cons (.refl _) (.cons (.refl _) (.nil _))))) rfl⟩
      rintro ⟨y27, t28⟩ H
      replace H : plain_Of_j2 y11 (plain_Of_L1 F x7 n13) y27 = some r2 := H
      unfold plain_Of_j2 at H
      show AW _ _ _ _ _ _
      obtain ⟨g30, H⟩ := grd_s H
      refine AW.region ?_
      show AR _ _ _ _ _ [0, 1] _
      refine sS rfl rfl rfl (g_add rfl rfl g30) ?_
      refine sS rfl rfl rfl (mv rfl) ?_
      refine AR.nil ?_
      exact Exists.intro (n13, y27, t28, y11 + 1) ⟨H, Nat.lt_succ_self _, WK.at [0] (.cons (.refl _) (.cons (.refl _) (.cons (.refl _) (.cons (.refl _) (.nil _))))) rfl⟩
    · replace H := cnd_f c14 H
      refine AW.exit ?_
      exact Exists.intro (y9, t10) ⟨H, WK.at [0] (.cons (.refl _) (.nil _)) rfl⟩
  rintro ⟨y31, t32⟩ H
  replace H : plain_Of_j1 y31 = some r2 := H
  unfold plain_Of_j1 at H
  show AW _ _ _ _ _ _
  refine AW.seq ?_
  obtain ⟨g34, H⟩ := grd_s H
  obtain ⟨x35, e36, H⟩ := lt_s H
  refine AW.region ?_
  show AR _ _ _ _ _ [0, 1, 2] _
  refine sS rfl rfl rfl (opS_move (av := slE _ _ _) rfl) ?_
  refine AR.run rfl rfl (AO.callp rfl en16 rfl (show ACalls _ _ _ [] (Ret (S x35) []) from by subst e36; exact strings_Join y31 ([10] : List UInt8) (some t32) (okJoin_s g34).1 (okJoin_s g34).2) ?_)
  refine sS rfl rfl rfl (asg rfl) ?_
  refine AR.nil ?_
  show AW _ _ _ _ _ _
  refine AW.ret ?_
  obtain rfl := Option.some.inj H
  exact And.intro rfl (Exists.intro _ (Exists.intro _ ⟨ResV.oneW rfl (.refl _), Sub.at [] rfl, rfl, rfl⟩))
end Go.Proofs.YtjajiokihccobaaGreatDoor
