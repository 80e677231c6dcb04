/-
  The statements about plain texts: what is run is what the plain functions say. Printed by a program of ours.
-/
import Derived.Test.YtjajiokihccobaaDoorAvE
import Derived.Test.YtjajiokihccobaaDoorPvLib
import Derived.Test.YtjajiokihccobaaDoorP11Split
import Derived.Test.YtjajiokihccobaaDoorChecked
import Derived.Test.YtjajiokihccobaaDoorPlainAW
import Derived.Test.YtjajiokihccobaaDoorPlainLP
set_option linter.unusedVariables false
set_option linter.unusedSimpArgs false
namespace Go.Proofs.YtjajiokihccobaaDoor
open Go.RowKit Go.Av Go.Pv
theorem en7 : ∀ (args : Array Value) (w : World), (callFunc 7 args).run Tryd.prog w = .ok (.enter 7 args) w := fun _ _ => by kernel_rfl
theorem en8 : ∀ (args : Array Value) (w : World), (callFunc 8 args).run Tryd.prog w = .ok (.enter 8 args) w := fun _ _ => by kernel_rfl
theorem en10 : ∀ (args : Array Value) (w : World), (callFunc 10 args).run Tryd.prog w = .ok (.enter 10 args) w := fun _ _ => by kernel_rfl
theorem en11 : ∀ (args : Array Value) (w : World), (callFunc 11 args).run Tryd.prog w = .ok (.enter 11 args) w := fun _ _ => by kernel_rfl
set_option maxRecDepth 100000 in
set_option maxHeartbeats 1000000 in
theorem w_law11_awake (F : Nat) (r1 : Bool) (H : law11_awake F = some r1) : ACalls Tryd.prog 7 [] [] (Ret (B r1) []) := by
  unfold law11_awake at H
  refine ACalls.of_body Tryd.func7 rfl rfl ?_
  show AW _ _ 22 _ _ _
  refine AW.seq ?_
  refine AW.region ?_
  show AR _ _ _ _ _ [0] _
  refine sS rfl rfl rfl (asg rfl) ?_
  refine AR.nil ?_
  show AW _ _ _ _ _ _
  refine AW.seq ?_
  obtain ⟨x2, e3, H⟩ := bnd_s H
  refine AW.region ?_
  show AR _ _ _ _ _ [0, 1] _
  refine AR.run rfl rfl (AO.callp rfl en10 rfl (w_plain_Wrap F ([97, 32, 98, 99, 32, 100] : List UInt8) 4 x2 e3) ?_)
  refine sS rfl rfl rfl (opS_assign (av := slE _ _ _) rfl) ?_
  refine AR.nil ?_
  show AW _ _ _ _ _ _
  refine AW.seq ?_
  obtain ⟨x4, e5, H⟩ := bnd_s H
  obtain ⟨g8, H⟩ := grdc_s H
  obtain ⟨x9, e10, H⟩ := lt_s H
  obtain ⟨g12, H⟩ := grdc_s H
  obtain ⟨x13, e14, H⟩ := lt_s H
  refine AW.region ?_
  show AR _ _ _ _ _ [0, 1, 2, 3, 4, 5, 6, 7, 8, 9, 10, 11, 12, 13, 14, 15, 16, 17, 18, 19] _
  refine AR.run rfl rfl (AO.callp rfl en8 rfl (w_plain_Of F plainl_k1 x4 e5) ?_)
  refine sS rfl rfl rfl (opS_eqs rfl rfl) ?_
  refine sS rfl rfl rfl (mv rfl) ?_
  refine AR.meet (l := [7, 8, 9, 10, 11, 12, 13, 14, 15, 16, 17, 18, 19]) 9 (B ((decide (x4 = ([97, 10, 98, 38, 32, 99] : List UInt8))) && (decide ((x2.length : Int) = 2)))) (fun K => ?_) ?_
  · rcases Bool.eq_false_or_eq_true (decide (x4 = ([97, 10, 98, 38, 32, 99] : List UInt8))) with h6 | h6
    ·
      refine gT h6 rfl rfl rfl rfl rfl rfl (AO.ops rfl rfl (opS_move (av := slE _ _ _) rfl) ?_)
      refine gT h6 rfl rfl rfl rfl rfl rfl (AO.ops rfl rfl (opS_len_sl Tryd.underlying25 rfl) ?_)
      refine gT h6 rfl rfl rfl rfl rfl rfl (AO.ops rfl rfl (opS_eqi rfl rfl) ?_)
      refine sS rfl rfl rfl (opS_pick_t (av := .v _) rfl h6 rfl) ?_
      exact K _ 3 _ (B_congr (and_t h6)) rfl rfl
    ·
      refine gF h6 rfl rfl rfl rfl rfl ?_
      refine gF h6 rfl rfl rfl rfl rfl ?_
      refine gF h6 rfl rfl rfl rfl rfl ?_
      refine sS rfl rfl rfl (opS_pick_f (av := .v _) rfl h6 rfl) ?_
      exact K _ 3 _ (B_congr (and_f h6)) rfl rfl
  refine sS rfl rfl rfl (mv rfl) ?_
  refine AR.meet (l := [13, 14, 15, 16, 17, 18, 19]) 15 (B (((decide (x4 = ([97, 10, 98, 38, 32, 99] : List UInt8))) && (decide ((x2.length : Int) = 2))) && (decide (x9 = ([97, 32, 98, 99] : List UInt8))))) (fun K => ?_) ?_
  · rcases Bool.eq_false_or_eq_true ((decide (x4 = ([97, 10, 98, 38, 32, 99] : List UInt8))) && (decide ((x2.length : Int) = 2))) with h7 | h7
    ·
      refine gT h7 rfl rfl rfl rfl rfl rfl (AO.ops rfl rfl (opS_move (av := slE _ _ _) rfl) ?_)
      refine gT h7 rfl rfl rfl rfl rfl rfl (AO.ops rfl rfl (g_indexAddr (E := Enc.str) Tryd.underlying25 (by kernel_rfl) rfl rfl (g8 h7) e10) ?_)
      refine gT h7 rfl rfl rfl rfl rfl rfl (AO.ops rfl rfl (opS_load_cp Tryd.underlying9 rfl rfl) ?_)
      refine gT h7 rfl rfl rfl rfl rfl rfl (AO.ops rfl rfl (opS_eqs rfl rfl) ?_)
      refine sS rfl rfl rfl (opS_pick_t (av := .v _) rfl h7 rfl) ?_
      exact K _ 4 _ (B_congr (and_t h7)) rfl rfl
    ·
      refine gF h7 rfl rfl rfl rfl rfl ?_
      refine gF h7 rfl rfl rfl rfl rfl ?_
      refine gF h7 rfl rfl rfl rfl rfl ?_
      refine gF h7 rfl rfl rfl rfl rfl ?_
      refine sS rfl rfl rfl (opS_pick_f (av := .v _) rfl h7 rfl) ?_
      exact K _ 4 _ (B_congr (and_f h7)) rfl rfl
  refine sS rfl rfl rfl (mv rfl) ?_
  refine AR.meet (l := [19]) 21 (B ((((decide (x4 = ([97, 10, 98, 38, 32, 99] : List UInt8))) && (decide ((x2.length : Int) = 2))) && (decide (x9 = ([97, 32, 98, 99] : List UInt8)))) && (decide (x13 = ([100] : List UInt8))))) (fun K => ?_) ?_
  · rcases Bool.eq_false_or_eq_true (((decide (x4 = ([97, 10, 98, 38, 32, 99] : List UInt8))) && (decide ((x2.length : Int) = 2))) && (decide (x9 = ([97, 32, 98, 99] : List UInt8)))) with h11 | h11
    ·
      refine gT h11 rfl rfl rfl rfl rfl rfl (AO.ops rfl rfl (opS_move (av := slE _ _ _) rfl) ?_)
      refine gT h11 rfl rfl rfl rfl rfl rfl (AO.ops rfl rfl (g_indexAddr (E := Enc.str) Tryd.underlying25 (by kernel_rfl) rfl rfl (g12 h11) e14) ?_)
      refine gT h11 rfl rfl rfl rfl rfl rfl (AO.ops rfl rfl (opS_load_cp Tryd.underlying9 rfl rfl) ?_)
      refine gT h11 rfl rfl rfl rfl rfl rfl (AO.ops rfl rfl (opS_eqs rfl rfl) ?_)
      refine sS rfl rfl rfl (opS_pick_t (av := .v _) rfl h11 rfl) ?_
      exact K _ 4 _ (B_congr (and_t h11)) rfl rfl
    ·
      refine gF h11 rfl rfl rfl rfl rfl ?_
      refine gF h11 rfl rfl rfl rfl rfl ?_
      refine gF h11 rfl rfl rfl rfl rfl ?_
      refine gF h11 rfl rfl rfl rfl rfl ?_
      refine sS rfl rfl rfl (opS_pick_f (av := .v _) rfl h11 rfl) ?_
      exact K _ 4 _ (B_congr (and_f h11)) rfl rfl
  refine sS rfl rfl rfl (asg rfl) ?_
  refine AR.nil ?_
  show AW _ _ _ _ _ _
  refine AW.ret ?_
  obtain rfl := Option.some.inj H
  exact And.intro rfl (Exists.intro _ (Exists.intro _ ⟨ResV.oneW rfl (.refl _), Sub.at [] rfl, rfl, rfl⟩))
set_option maxRecDepth 100000 in
set_option maxHeartbeats 1000000 in
theorem w_law11_PlainSame (F : Nat) (a1 : List UInt8) (r2 : Bool) (H : law11_PlainSame F a1 = some r2) : ACalls Tryd.prog 3 [S a1] [] (Ret (B r2) []) := by
  unfold law11_PlainSame at H
  refine ACalls.of_body Tryd.func3 rfl rfl ?_
  show AW _ _ 35 _ _ _
  refine AW.seq ?_
  refine AW.region ?_
  show AR _ _ _ _ _ [0] _
  refine sS rfl rfl rfl (asg rfl) ?_
  refine AR.nil ?_
  show AW _ _ _ _ _ _
  refine AW.seq ?_
  obtain ⟨x3, e4, H⟩ := bnd_s H
  refine AW.region ?_
  show AR _ _ _ _ _ [0, 1] _
  refine AR.run rfl rfl (AO.callp rfl en7 rfl (w_law11_awake F x3 e4) ?_)
  refine sS rfl rfl rfl (asg rfl) ?_
  refine AR.nil ?_
  show AW _ _ _ _ _ _
  refine AW.seq ?_
  refine AW.seq ?_
  refine AW.region ?_
  show AR _ _ _ _ _ [0, 1, 2, 3, 4, 5, 6] _
  refine sS rfl rfl rfl (mv rfl) ?_
  refine sS rfl rfl rfl (opS_not rfl) ?_
  refine sS rfl rfl rfl (mv rfl) ?_
  refine AR.meet (l := []) 12 (B ((!x3) || (decide (1000 < (a1.length : Int))))) (fun K => ?_) ?_
  · rcases Bool.eq_false_or_eq_true (!x3) with h5 | h5
    ·
      refine gF h5 rfl rfl rfl rfl rfl ?_
      refine gF h5 rfl rfl rfl rfl rfl ?_
      refine gF h5 rfl rfl rfl rfl rfl ?_
      refine sS rfl rfl rfl (opS_pick_t (av := .v _) rfl h5 rfl) ?_
      exact K _ 3 _ (B_congr (or_t h5)) rfl rfl
    ·
      refine gT h5 rfl rfl rfl rfl rfl rfl (AO.ops rfl rfl (mv rfl) ?_)
      refine gT h5 rfl rfl rfl rfl rfl rfl (AO.ops rfl rfl (opS_len_str Tryd.underlying9 rfl) ?_)
      refine gT h5 rfl rfl rfl rfl rfl rfl (AO.ops rfl rfl (opS_gt rfl rfl) ?_)
      refine sS rfl rfl rfl (opS_pick_f (av := .v _) rfl h5 rfl) ?_
      exact K _ 3 _ (B_congr (or_f h5)) rfl rfl
  refine AR.nil ?_
  show AW _ _ _ _ _ _
  refine AW.cond rfl (fun c6 => ?_) (fun c6 => ?_)
  · replace H := cnd_t c6 H
    refine AW.seq ?_
    refine AW.region ?_
    show AR _ _ _ _ _ [0, 1] _
    refine sS rfl rfl rfl (mv rfl) ?_
    refine sS rfl rfl rfl (asg rfl) ?_
    refine AR.nil ?_
    show AW _ _ _ _ _ _
    refine AW.ret ?_
    obtain rfl := Option.some.inj H
    exact And.intro rfl (Exists.intro _ (Exists.intro _ ⟨ResV.oneW rfl (.refl _), Sub.at [] rfl, rfl, rfl⟩))
  · replace H := cnd_f c6 H
    refine AW.skip ?_
    show AW _ _ _ _ _ _
    refine AW.cut (X := Unit) (fun _ => ⟨[(0, S a1)], [], []⟩) (fun _ => law11_PlainSame_j1 F a1 = some r2) ?_ ?_
    ·
      refine AW.seq ?_
      refine AW.region ?_
      show AR _ _ _ _ _ [0] _
      refine sS rfl rfl rfl (asg rfl) ?_
      refine AR.nil ?_
      show AW _ _ _ _ _ _
      refine AW.block ?_
      refine AW.loop (X := Nat × Int) (fun (n9, y7) => ⟨[(0, S a1), (4, i64 y7)], [], []⟩) (fun (n9, y7) => law11_PlainSame_L1 F a1 n9 y7 = some r2) (fun (n9, y7) => n9) (F, 0) H (WK.at [] (.cons (.refl _) (.cons (.refl _) (.nil _))) rfl) ?_
      rintro ⟨n9, y7⟩ H
      obtain ⟨n9, rfl, H⟩ := loop_s H
      replace H : law11_PlainSame_B1 F a1 (law11_PlainSame_L1 F a1 n9) y7 = some r2 := H
      unfold law11_PlainSame_B1 at H
      show AW _ _ _ _ _ _
      refine AW.seq ?_
      refine AW.seq ?_
      refine AW.region ?_
      show AR _ _ _ _ _ [0, 1, 2, 3] _
      refine sS rfl rfl rfl (mv rfl) ?_
      refine sS rfl rfl rfl (mv rfl) ?_
      refine sS rfl rfl rfl (opS_len_str Tryd.underlying9 rfl) ?_
      refine sS rfl rfl rfl (opS_lt rfl rfl) ?_
      refine AR.nil ?_
      show AW _ _ _ _ _ _
      refine AW.cond rfl (fun c10 => ?_) (fun c10 => ?_)
      · replace H := cnd_t c10 H
        refine AW.skip ?_
        show AW _ _ _ _ _ _
        refine AW.seq ?_
        refine AW.block ?_
        refine AW.seq ?_
        obtain ⟨g11, H⟩ := grd_s H
        obtain ⟨x12, e13, H⟩ := lt_s H
        obtain ⟨g15, H⟩ := grdc_s H
        obtain ⟨x16, e17, H⟩ := lt_s H
        refine AW.region ?_
        show AR _ _ _ _ _ [0, 1, 2, 3, 4, 5, 6, 7, 8, 9] _
        refine sS rfl rfl rfl (mv rfl) ?_
        refine sS rfl rfl rfl (mv rfl) ?_
        refine sS rfl rfl rfl (g_index_str Tryd.underlying9 rfl rfl g11 e13) ?_
        refine sS rfl rfl rfl (g_eq8 (a := x12) (b := 60) rfl rfl) ?_
        refine sS rfl rfl rfl (mv rfl) ?_
        refine AR.meet (l := []) 29 (B ((decide (x12 = 60)) || (decide (x16 = 38)))) (fun K => ?_) ?_
        · rcases Bool.eq_false_or_eq_true (decide (x12 = 60)) with h14 | h14
          ·
            refine gF h14 rfl rfl rfl rfl rfl ?_
            refine gF h14 rfl rfl rfl rfl rfl ?_
            refine gF h14 rfl rfl rfl rfl rfl ?_
            refine gF h14 rfl rfl rfl rfl rfl ?_
            refine sS rfl rfl rfl (opS_pick_t (av := .v _) rfl h14 rfl) ?_
            exact K _ 4 _ (B_congr (or_t h14)) rfl rfl
          ·
            refine gT h14 rfl rfl rfl rfl rfl rfl (AO.ops rfl rfl (mv rfl) ?_)
            refine gT h14 rfl rfl rfl rfl rfl rfl (AO.ops rfl rfl (mv rfl) ?_)
            refine gT h14 rfl rfl rfl rfl rfl rfl (AO.ops rfl rfl (g_index_str Tryd.underlying9 rfl rfl (g15 (nf h14)) e17) ?_)
            refine gT h14 rfl rfl rfl rfl rfl rfl (AO.ops rfl rfl (g_eq8 (a := x16) (b := 38) rfl rfl) ?_)
            refine sS rfl rfl rfl (opS_pick_f (av := .v _) rfl h14 rfl) ?_
            exact K _ 4 _ (B_congr (or_f h14)) rfl rfl
        refine AR.nil ?_
        show AW _ _ _ _ _ _
        refine AW.cond rfl (fun c18 => ?_) (fun c18 => ?_)
        · replace H := cnd_t c18 H
          refine AW.seq ?_
          refine AW.region ?_
          show AR _ _ _ _ _ [0] _
          refine sS rfl rfl rfl (asg rfl) ?_
          refine AR.nil ?_
          show AW _ _ _ _ _ _
          refine AW.ret ?_
          obtain rfl := Option.some.inj H
          exact And.intro rfl (Exists.intro _ (Exists.intro _ ⟨ResV.oneW rfl (.refl _), Sub.at [] rfl, rfl, rfl⟩))
        · replace H := cnd_f c18 H
          refine AW.skip ?_
          show AW _ _ _ _ _ _
          obtain ⟨g19, H⟩ := grd_s H
          refine AW.region ?_
          show AR _ _ _ _ _ [0, 1, 2] _
          refine sS rfl rfl rfl (mv rfl) ?_
          refine sS rfl rfl rfl (g_add rfl rfl g19) ?_
          refine sS rfl rfl rfl (asg rfl) ?_
          refine AR.nil ?_
          exact Exists.intro (n9, y7 + 1) ⟨H, Nat.lt_succ_self _, WK.at [] (.cons (.refl _) (.cons (.refl _) (.nil _))) rfl⟩
      · replace H := cnd_f c10 H
        refine AW.exit ?_
        exact Exists.intro () ⟨H, WK.at [] (.cons (.refl _) (.nil _)) rfl⟩
    rintro _ H
    replace H : law11_PlainSame_j1 F a1 = some r2 := H
    unfold law11_PlainSame_j1 at H
    show AW _ _ _ _ _ _
    refine AW.seq ?_
    obtain ⟨x21, e22, H⟩ := bnd_s H
    obtain ⟨x23, e24, H⟩ := bnd_s H
    refine AW.region ?_
    show AR _ _ _ _ _ [0, 1, 2, 3, 4, 5] _
    refine sS rfl rfl rfl (mv rfl) ?_
    refine AR.run rfl rfl (AO.callp rfl en8 rfl (w_plain_Of F a1 x21 e22) ?_)
    refine sS rfl rfl rfl (mv rfl) ?_
    refine AR.run rfl rfl (AO.callp rfl en9 rfl (w_ref07_Trim F a1 x23 e24) ?_)
    refine sS rfl rfl rfl (opS_eqs rfl rfl) ?_
    refine sS rfl rfl rfl (asg rfl) ?_
    refine AR.nil ?_
    show AW _ _ _ _ _ _
    refine AW.ret ?_
    obtain rfl := Option.some.inj H
    exact And.intro rfl (Exists.intro _ (Exists.intro _ ⟨ResV.oneW rfl (.refl _), Sub.at [] rfl, rfl, rfl⟩))
set_option maxRecDepth 100000 in
set_option maxHeartbeats 1000000 in
theorem w_law11_PlainLines (F : Nat) (a1 : List UInt8) (r2 : Bool) (H : law11_PlainLines F a1 = some r2) : ACalls Tryd.prog 4 [S a1] [] (Ret (B r2) []) := by
  unfold law11_PlainLines at H
  refine ACalls.of_body Tryd.func4 rfl rfl ?_
  show AW _ _ 81 _ _ _
  refine AW.seq ?_
  refine AW.region ?_
  show AR _ _ _ _ _ [0] _
  refine sS rfl rfl rfl (asg rfl) ?_
  refine AR.nil ?_
  show AW _ _ _ _ _ _
  refine AW.seq ?_
  obtain ⟨x3, e4, H⟩ := bnd_s H
  refine AW.region ?_
  show AR _ _ _ _ _ [0, 1] _
  refine AR.run rfl rfl (AO.callp rfl en7 rfl (w_law11_awake F x3 e4) ?_)
  refine sS rfl rfl rfl (asg rfl) ?_
  refine AR.nil ?_
  show AW _ _ _ _ _ _
  refine AW.seq ?_
  refine AW.seq ?_
  refine AW.region ?_
  show AR _ _ _ _ _ [0, 1, 2, 3, 4, 5, 6] _
  refine sS rfl rfl rfl (mv rfl) ?_
  refine sS rfl rfl rfl (opS_not rfl) ?_
  refine sS rfl rfl rfl (mv rfl) ?_
  refine AR.meet (l := []) 14 (B ((!x3) || (decide (1000 < (a1.length : Int))))) (fun K => ?_) ?_
  · rcases Bool.eq_false_or_eq_true (!x3) with h5 | h5
    ·
      refine gF h5 rfl rfl rfl rfl rfl ?_
      refine gF h5 rfl rfl rfl rfl rfl ?_
      refine gF h5 rfl rfl rfl rfl rfl ?_
      refine sS rfl rfl rfl (opS_pick_t (av := .v _) rfl h5 rfl) ?_
      exact K _ 3 _ (B_congr (or_t h5)) rfl rfl
    ·
      refine gT h5 rfl rfl rfl rfl rfl rfl (AO.ops rfl rfl (mv rfl) ?_)
      refine gT h5 rfl rfl rfl rfl rfl rfl (AO.ops rfl rfl (opS_len_str Tryd.underlying9 rfl) ?_)
      refine gT h5 rfl rfl rfl rfl rfl rfl (AO.ops rfl rfl (opS_gt rfl rfl) ?_)
      refine sS rfl rfl rfl (opS_pick_f (av := .v _) rfl h5 rfl) ?_
      exact K _ 3 _ (B_congr (or_f h5)) rfl rfl
  refine AR.nil ?_
  show AW _ _ _ _ _ _
  refine AW.cond rfl (fun c6 => ?_) (fun c6 => ?_)
  · replace H := cnd_t c6 H
    refine AW.seq ?_
    refine AW.region ?_
    show AR _ _ _ _ _ [0, 1] _
    refine sS rfl rfl rfl (mv rfl) ?_
    refine sS rfl rfl rfl (asg rfl) ?_
    refine AR.nil ?_
    show AW _ _ _ _ _ _
    refine AW.ret ?_
    obtain rfl := Option.some.inj H
    exact And.intro rfl (Exists.intro _ (Exists.intro _ ⟨ResV.oneW rfl (.refl _), Sub.at [] rfl, rfl, rfl⟩))
  · replace H := cnd_f c6 H
    refine AW.skip ?_
    show AW _ _ _ _ _ _
    refine AW.seq ?_
    obtain ⟨x7, e8, H⟩ := bnd_s H
    refine AW.region ?_
    show AR _ _ _ _ _ [0, 1, 2] _
    refine sS rfl rfl rfl (mv rfl) ?_
    refine AR.run rfl rfl (AO.callp rfl en8 rfl (w_plain_Of F a1 x7 e8) ?_)
    refine sS rfl rfl rfl (asg rfl) ?_
    refine AR.nil ?_
    show AW _ _ _ _ _ _
    refine AW.seq ?_
    refine AW.region ?_
    show AR _ _ _ _ _ [0] _
    refine sS rfl rfl rfl (asg rfl) ?_
    refine AR.nil ?_
    show AW _ _ _ _ _ _
    refine AW.cut (X := UInt8) (fun y42 => ⟨[(4, S x7), (5, u8 y42)], [], []⟩) (fun y42 => law11_PlainLines_j1 x7 y42 = some r2) ?_ ?_
    ·
      refine AW.seq ?_
      refine AW.region ?_
      show AR _ _ _ _ _ [0] _
      refine sS rfl rfl rfl (asg rfl) ?_
      refine AR.nil ?_
      show AW _ _ _ _ _ _
      refine AW.block ?_
      refine AW.loop (X := Nat × UInt8 × Int) (fun (n12, y9, y10) => ⟨[(4, S x7), (5, u8 y9), (6, i64 y10)], [], []⟩) (fun (n12, y9, y10) => law11_PlainLines_L1 x7 n12 (y9, y10) = some r2) (fun (n12, y9, y10) => n12) (F, 10, 0) H (WK.at [] (.cons (.refl _) (.cons (.refl _) (.cons (.refl _) (.nil _)))) rfl) ?_
      rintro ⟨n12, y9, y10⟩ H
      obtain ⟨n12, rfl, H⟩ := loop_s H
      replace H : law11_PlainLines_B1 x7 (law11_PlainLines_L1 x7 n12) y9 y10 = some r2 := H
      unfold law11_PlainLines_B1 at H
      show AW _ _ _ _ _ _
      refine AW.seq ?_
      refine AW.seq ?_
      refine AW.region ?_
      show AR _ _ _ _ _ [0, 1, 2, 3] _
      refine sS rfl rfl rfl (mv rfl) ?_
      refine sS rfl rfl rfl (mv rfl) ?_
      refine sS rfl rfl rfl (opS_len_str Tryd.underlying9 rfl) ?_
      refine sS rfl rfl rfl (opS_lt rfl rfl) ?_
      refine AR.nil ?_
      show AW _ _ _ _ _ _
      refine AW.cond rfl (fun c13 => ?_) (fun c13 => ?_)
      · replace H := cnd_t c13 H
        refine AW.skip ?_
        show AW _ _ _ _ _ _
        refine AW.seq ?_
        refine AW.block ?_
        refine AW.seq ?_
        refine AW.seq ?_
        obtain ⟨g14, H⟩ := grd_s H
        obtain ⟨x15, e16, H⟩ := lt_s H
        obtain ⟨g19, H⟩ := grdc_s H
        obtain ⟨x20, e21, H⟩ := lt_s H
        obtain ⟨g25, H⟩ := grdc_s H
        obtain ⟨x26, e27, H⟩ := lt_s H
        obtain ⟨g30, H⟩ := grdc_s H
        obtain ⟨x31, e32, H⟩ := lt_s H
        obtain ⟨g34, H⟩ := grdc_s H
        obtain ⟨x35, e36, H⟩ := lt_s H
        refine AW.region ?_
        show AR _ _ _ _ _ [0, 1, 2, 3, 4, 5, 6, 7, 8, 9, 10, 11, 12, 13, 14, 15, 16, 17, 18, 19, 20, 21, 22, 23, 24, 25, 26, 27, 28, 29, 30, 31, 32, 33, 34, 35, 36, 37, 38, 39, 40, 41, 42, 43] _
        refine sS rfl rfl rfl (mv rfl) ?_
        refine sS rfl rfl rfl (mv rfl) ?_
        refine sS rfl rfl rfl (g_index_str Tryd.underlying9 rfl rfl g14 e16) ?_
        refine sS rfl rfl rfl (g_eq8 (a := x15) (b := 10) rfl rfl) ?_
        refine sS rfl rfl rfl (mv rfl) ?_
        refine AR.meet (l := [8, 9, 10, 11, 12, 13, 14, 15, 16, 17, 18, 19, 20, 21, 22, 23, 24, 25, 26, 27, 28, 29, 30, 31, 32, 33, 34, 35, 36, 37, 38, 39, 40, 41, 42, 43]) 31 (B ((decide (x15 = 10)) && (decide (y9 = 10)))) (fun K => ?_) ?_
        · rcases Bool.eq_false_or_eq_true (decide (x15 = 10)) with h17 | h17
          ·
            refine gT h17 rfl rfl rfl rfl rfl rfl (AO.ops rfl rfl (mv rfl) ?_)
            refine gT h17 rfl rfl rfl rfl rfl rfl (AO.ops rfl rfl (g_eq8 (a := y9) (b := 10) rfl rfl) ?_)
            refine sS rfl rfl rfl (opS_pick_t (av := .v _) rfl h17 rfl) ?_
            exact K _ 2 _ (B_congr (and_t h17)) rfl rfl
          ·
            refine gF h17 rfl rfl rfl rfl rfl ?_
            refine gF h17 rfl rfl rfl rfl rfl ?_
            refine sS rfl rfl rfl (opS_pick_f (av := .v _) rfl h17 rfl) ?_
            exact K _ 2 _ (B_congr (and_f h17)) rfl rfl
        refine sS rfl rfl rfl (mv rfl) ?_
        refine AR.meet (l := [22, 23, 24, 25, 26, 27, 28, 29, 30, 31, 32, 33, 34, 35, 36, 37, 38, 39, 40, 41, 42, 43]) 45 (B (((decide (x15 = 10)) && (decide (y9 = 10))) || ((decide (x20 = 32)) && ((decide (y9 = 32)) || (decide (y9 = 10)))))) (fun K => ?_) ?_
        · rcases Bool.eq_false_or_eq_true ((decide (x15 = 10)) && (decide (y9 = 10))) with h18 | h18
          ·
            refine gF h18 rfl rfl rfl rfl rfl ?_
            refine gF h18 rfl rfl rfl rfl rfl ?_
            refine gF h18 rfl rfl rfl rfl rfl ?_
            refine gF h18 rfl rfl rfl rfl rfl ?_
            refine gF h18 rfl rfl rfl rfl rfl ?_
            refine gU rfl rfl rfl rfl rfl ?_
            refine gU rfl rfl rfl rfl rfl ?_
            refine gU rfl rfl rfl rfl rfl ?_
            refine gU rfl rfl rfl rfl rfl ?_
            refine gU rfl rfl rfl rfl rfl ?_
            refine gU rfl rfl rfl rfl rfl ?_
            refine gF h18 rfl rfl rfl rfl rfl ?_
            refine sS rfl rfl rfl (opS_pick_t (av := .v _) rfl h18 rfl) ?_
            exact K _ 12 _ (B_congr (or_t h18)) rfl rfl
          ·
            refine gT h18 rfl rfl rfl rfl rfl rfl (AO.ops rfl rfl (mv rfl) ?_)
            refine gT h18 rfl rfl rfl rfl rfl rfl (AO.ops rfl rfl (mv rfl) ?_)
            refine gT h18 rfl rfl rfl rfl rfl rfl (AO.ops rfl rfl (g_index_str Tryd.underlying9 rfl rfl (g19 (nf h18)) e21) ?_)
            refine gT h18 rfl rfl rfl rfl rfl rfl (AO.ops rfl rfl (g_eq8 (a := x20) (b := 32) rfl rfl) ?_)
            refine gT h18 rfl rfl rfl rfl rfl rfl (AO.ops rfl rfl (mv rfl) ?_)
            refine AR.meet (l := [21, 22, 23, 24, 25, 26, 27, 28, 29, 30, 31, 32, 33, 34, 35, 36, 37, 38, 39, 40, 41, 42, 43]) 44 (B ((decide (x20 = 32)) && ((decide (y9 = 32)) || (decide (y9 = 10))))) (fun K => ?_) ?_
            · rcases Bool.eq_false_or_eq_true (decide (x20 = 32)) with h22 | h22
              ·
                refine gT h22 rfl rfl rfl rfl rfl rfl (AO.ops rfl rfl (mv rfl) ?_)
                refine gT h22 rfl rfl rfl rfl rfl rfl (AO.ops rfl rfl (g_eq8 (a := y9) (b := 32) rfl rfl) ?_)
                refine gT h22 rfl rfl rfl rfl rfl rfl (AO.ops rfl rfl (mv rfl) ?_)
                refine AR.meet (l := [20, 21, 22, 23, 24, 25, 26, 27, 28, 29, 30, 31, 32, 33, 34, 35, 36, 37, 38, 39, 40, 41, 42, 43]) 43 (B ((decide (y9 = 32)) || (decide (y9 = 10)))) (fun K => ?_) ?_
                · rcases Bool.eq_false_or_eq_true (decide (y9 = 32)) with h23 | h23
                  ·
                    refine gF h23 rfl rfl rfl rfl rfl ?_
                    refine gF h23 rfl rfl rfl rfl rfl ?_
                    refine gT h22 rfl rfl rfl rfl rfl rfl (AO.ops rfl rfl (opS_pick_t (av := .v _) rfl h23 rfl) ?_)
                    exact K _ 2 _ (B_congr (or_t h23)) rfl rfl
                  ·
                    refine gT h23 rfl rfl rfl rfl rfl rfl (AO.ops rfl rfl (mv rfl) ?_)
                    refine gT h23 rfl rfl rfl rfl rfl rfl (AO.ops rfl rfl (g_eq8 (a := y9) (b := 10) rfl rfl) ?_)
                    refine gT h22 rfl rfl rfl rfl rfl rfl (AO.ops rfl rfl (opS_pick_f (av := .v _) rfl h23 rfl) ?_)
                    exact K _ 2 _ (B_congr (or_f h23)) rfl rfl
                refine gT h18 rfl rfl rfl rfl rfl rfl (AO.ops rfl rfl (opS_pick_t (av := .v _) rfl h22 rfl) ?_)
                exact K _ 4 _ (B_congr (and_t h22)) rfl rfl
              ·
                refine gF h22 rfl rfl rfl rfl rfl ?_
                refine gF h22 rfl rfl rfl rfl rfl ?_
                refine gF h22 rfl rfl rfl rfl rfl ?_
                refine gU rfl rfl rfl rfl rfl ?_
                refine gU rfl rfl rfl rfl rfl ?_
                refine gF h22 rfl rfl rfl rfl rfl ?_
                refine gT h18 rfl rfl rfl rfl rfl rfl (AO.ops rfl rfl (opS_pick_f (av := .v _) rfl h22 rfl) ?_)
                exact K _ 6 _ (B_congr (and_f h22)) rfl rfl
            refine sS rfl rfl rfl (opS_pick_f (av := .v _) rfl h18 rfl) ?_
            exact K _ 6 _ (B_congr (or_f h18)) rfl rfl
        refine sS rfl rfl rfl (mv rfl) ?_
        refine AR.meet (l := [32, 33, 34, 35, 36, 37, 38, 39, 40, 41, 42, 43]) 55 (B ((((decide (x15 = 10)) && (decide (y9 = 10))) || ((decide (x20 = 32)) && ((decide (y9 = 32)) || (decide (y9 = 10))))) || ((decide (x26 = 10)) && (decide (y9 = 32))))) (fun K => ?_) ?_
        · rcases Bool.eq_false_or_eq_true (((decide (x15 = 10)) && (decide (y9 = 10))) || ((decide (x20 = 32)) && ((decide (y9 = 32)) || (decide (y9 = 10))))) with h24 | h24
          ·
            refine gF h24 rfl rfl rfl rfl rfl ?_
            refine gF h24 rfl rfl rfl rfl rfl ?_
            refine gF h24 rfl rfl rfl rfl rfl ?_
            refine gF h24 rfl rfl rfl rfl rfl ?_
            refine gF h24 rfl rfl rfl rfl rfl ?_
            refine gU rfl rfl rfl rfl rfl ?_
            refine gU rfl rfl rfl rfl rfl ?_
            refine gF h24 rfl rfl rfl rfl rfl ?_
            refine sS rfl rfl rfl (opS_pick_t (av := .v _) rfl h24 rfl) ?_
            exact K _ 8 _ (B_congr (or_t h24)) rfl rfl
          ·
            refine gT h24 rfl rfl rfl rfl rfl rfl (AO.ops rfl rfl (mv rfl) ?_)
            refine gT h24 rfl rfl rfl rfl rfl rfl (AO.ops rfl rfl (mv rfl) ?_)
            refine gT h24 rfl rfl rfl rfl rfl rfl (AO.ops rfl rfl (g_index_str Tryd.underlying9 rfl rfl (g25 (nf h24)) e27) ?_)
            refine gT h24 rfl rfl rfl rfl rfl rfl (AO.ops rfl rfl (g_eq8 (a := x26) (b := 10) rfl rfl) ?_)
            refine gT h24 rfl rfl rfl rfl rfl rfl (AO.ops rfl rfl (mv rfl) ?_)
            refine AR.meet (l := [31, 32, 33, 34, 35, 36, 37, 38, 39, 40, 41, 42, 43]) 54 (B ((decide (x26 = 10)) && (decide (y9 = 32)))) (fun K => ?_) ?_
            · rcases Bool.eq_false_or_eq_true (decide (x26 = 10)) with h28 | h28
              ·
                refine gT h28 rfl rfl rfl rfl rfl rfl (AO.ops rfl rfl (mv rfl) ?_)
                refine gT h28 rfl rfl rfl rfl rfl rfl (AO.ops rfl rfl (g_eq8 (a := y9) (b := 32) rfl rfl) ?_)
                refine gT h24 rfl rfl rfl rfl rfl rfl (AO.ops rfl rfl (opS_pick_t (av := .v _) rfl h28 rfl) ?_)
                exact K _ 2 _ (B_congr (and_t h28)) rfl rfl
              ·
                refine gF h28 rfl rfl rfl rfl rfl ?_
                refine gF h28 rfl rfl rfl rfl rfl ?_
                refine gT h24 rfl rfl rfl rfl rfl rfl (AO.ops rfl rfl (opS_pick_f (av := .v _) rfl h28 rfl) ?_)
                exact K _ 2 _ (B_congr (and_f h28)) rfl rfl
            refine sS rfl rfl rfl (opS_pick_f (av := .v _) rfl h24 rfl) ?_
            exact K _ 6 _ (B_congr (or_f h24)) rfl rfl
        refine sS rfl rfl rfl (mv rfl) ?_
        refine AR.meet (l := [38, 39, 40, 41, 42, 43]) 61 (B (((((decide (x15 = 10)) && (decide (y9 = 10))) || ((decide (x20 = 32)) && ((decide (y9 = 32)) || (decide (y9 = 10))))) || ((decide (x26 = 10)) && (decide (y9 = 32)))) || (decide (x31 = 9)))) (fun K => ?_) ?_
        · rcases Bool.eq_false_or_eq_true ((((decide (x15 = 10)) && (decide (y9 = 10))) || ((decide (x20 = 32)) && ((decide (y9 = 32)) || (decide (y9 = 10))))) || ((decide (x26 = 10)) && (decide (y9 = 32)))) with h29 | h29
          ·
            refine gF h29 rfl rfl rfl rfl rfl ?_
            refine gF h29 rfl rfl rfl rfl rfl ?_
            refine gF h29 rfl rfl rfl rfl rfl ?_
            refine gF h29 rfl rfl rfl rfl rfl ?_
            refine sS rfl rfl rfl (opS_pick_t (av := .v _) rfl h29 rfl) ?_
            exact K _ 4 _ (B_congr (or_t h29)) rfl rfl
          ·
            refine gT h29 rfl rfl rfl rfl rfl rfl (AO.ops rfl rfl (mv rfl) ?_)
            refine gT h29 rfl rfl rfl rfl rfl rfl (AO.ops rfl rfl (mv rfl) ?_)
            refine gT h29 rfl rfl rfl rfl rfl rfl (AO.ops rfl rfl (g_index_str Tryd.underlying9 rfl rfl (g30 (nf h29)) e32) ?_)
            refine gT h29 rfl rfl rfl rfl rfl rfl (AO.ops rfl rfl (g_eq8 (a := x31) (b := 9) rfl rfl) ?_)
            refine sS rfl rfl rfl (opS_pick_f (av := .v _) rfl h29 rfl) ?_
            exact K _ 4 _ (B_congr (or_f h29)) rfl rfl
        refine sS rfl rfl rfl (mv rfl) ?_
        refine AR.meet (l := []) 67 (B ((((((decide (x15 = 10)) && (decide (y9 = 10))) || ((decide (x20 = 32)) && ((decide (y9 = 32)) || (decide (y9 = 10))))) || ((decide (x26 = 10)) && (decide (y9 = 32)))) || (decide (x31 = 9))) || (decide (x35 = 13)))) (fun K => ?_) ?_
        · rcases Bool.eq_false_or_eq_true (((((decide (x15 = 10)) && (decide (y9 = 10))) || ((decide (x20 = 32)) && ((decide (y9 = 32)) || (decide (y9 = 10))))) || ((decide (x26 = 10)) && (decide (y9 = 32)))) || (decide (x31 = 9))) with h33 | h33
          ·
            refine gF h33 rfl rfl rfl rfl rfl ?_
            refine gF h33 rfl rfl rfl rfl rfl ?_
            refine gF h33 rfl rfl rfl rfl rfl ?_
            refine gF h33 rfl rfl rfl rfl rfl ?_
            refine sS rfl rfl rfl (opS_pick_t (av := .v _) rfl h33 rfl) ?_
            exact K _ 4 _ (B_congr (or_t h33)) rfl rfl
          ·
            refine gT h33 rfl rfl rfl rfl rfl rfl (AO.ops rfl rfl (mv rfl) ?_)
            refine gT h33 rfl rfl rfl rfl rfl rfl (AO.ops rfl rfl (mv rfl) ?_)
            refine gT h33 rfl rfl rfl rfl rfl rfl (AO.ops rfl rfl (g_index_str Tryd.underlying9 rfl rfl (g34 (nf h33)) e36) ?_)
            refine gT h33 rfl rfl rfl rfl rfl rfl (AO.ops rfl rfl (g_eq8 (a := x35) (b := 13) rfl rfl) ?_)
            refine sS rfl rfl rfl (opS_pick_f (av := .v _) rfl h33 rfl) ?_
            exact K _ 4 _ (B_congr (or_f h33)) rfl rfl
        refine AR.nil ?_
        show AW _ _ _ _ _ _
        refine AW.cond rfl (fun c37 => ?_) (fun c37 => ?_)
        · replace H := cnd_t c37 H
          refine AW.seq ?_
          refine AW.region ?_
          show AR _ _ _ _ _ [0] _
          refine sS rfl rfl rfl (asg rfl) ?_
          refine AR.nil ?_
          show AW _ _ _ _ _ _
          refine AW.ret ?_
          obtain rfl := Option.some.inj H
          exact And.intro rfl (Exists.intro _ (Exists.intro _ ⟨ResV.oneW rfl (.refl _), Sub.at [] rfl, rfl, rfl⟩))
        · replace H := cnd_f c37 H
          refine AW.skip ?_
          show AW _ _ _ _ _ _
          obtain ⟨g38, H⟩ := grd_s H
          obtain ⟨x39, e40, H⟩ := lt_s H
          refine AW.region ?_
          show AR _ _ _ _ _ [0, 1, 2, 3] _
          refine sS rfl rfl rfl (mv rfl) ?_
          refine sS rfl rfl rfl (mv rfl) ?_
          refine sS rfl rfl rfl (g_index_str Tryd.underlying9 rfl rfl g38 e40) ?_
          refine sS rfl rfl rfl (asg rfl) ?_
          refine AR.nil ?_
          show AW _ _ _ _ _ _
          obtain ⟨g41, H⟩ := grd_s H
          refine AW.region ?_
          show AR _ _ _ _ _ [0, 1, 2] _
          refine sS rfl rfl rfl (mv rfl) ?_
          refine sS rfl rfl rfl (g_add rfl rfl g41) ?_
          refine sS rfl rfl rfl (asg rfl) ?_
          refine AR.nil ?_
          exact Exists.intro (n12, x39, y10 + 1) ⟨H, Nat.lt_succ_self _, WK.at [] (.cons (.refl _) (.cons (.refl _) (.cons (.refl _) (.nil _)))) rfl⟩
      · replace H := cnd_f c13 H
        refine AW.exit ?_
        exact Exists.intro y9 ⟨H, WK.at [] (.cons (.refl _) (.cons (.refl _) (.nil _))) rfl⟩
    rintro y42 H
    replace H : law11_PlainLines_j1 x7 y42 = some r2 := H
    unfold law11_PlainLines_j1 at H
    show AW _ _ _ _ _ _
    refine AW.seq ?_
    refine AW.region ?_
    show AR _ _ _ _ _ [0, 1, 2, 3, 4, 5, 6, 7, 8, 9, 10] _
    refine sS rfl rfl rfl (mv rfl) ?_
    refine sS rfl rfl rfl (opS_eqs rfl rfl) ?_
    refine sS rfl rfl rfl (mv rfl) ?_
    refine AR.meet (l := [10]) 80 (B ((decide (x7 = ([] : List UInt8))) || ((!decide (y42 = 10)) && (!decide (y42 = 32))))) (fun K => ?_) ?_
    · rcases Bool.eq_false_or_eq_true (decide (x7 = ([] : List UInt8))) with h44 | h44
      ·
        refine gF h44 rfl rfl rfl rfl rfl ?_
        refine gF h44 rfl rfl rfl rfl rfl ?_
        refine gF h44 rfl rfl rfl rfl rfl ?_
        refine gU rfl rfl rfl rfl rfl ?_
        refine gU rfl rfl rfl rfl rfl ?_
        refine gF h44 rfl rfl rfl rfl rfl ?_
        refine sS rfl rfl rfl (opS_pick_t (av := .v _) rfl h44 rfl) ?_
        exact K _ 6 _ (B_congr (or_t h44)) rfl rfl
      ·
        refine gT h44 rfl rfl rfl rfl rfl rfl (AO.ops rfl rfl (mv rfl) ?_)
        refine gT h44 rfl rfl rfl rfl rfl rfl (AO.ops rfl rfl (g_ne8 (a := y42) (b := 10) rfl rfl) ?_)
        refine gT h44 rfl rfl rfl rfl rfl rfl (AO.ops rfl rfl (mv rfl) ?_)
        refine AR.meet (l := [9, 10]) 79 (B ((!decide (y42 = 10)) && (!decide (y42 = 32)))) (fun K => ?_) ?_
        · rcases Bool.eq_false_or_eq_true (!decide (y42 = 10)) with h45 | h45
          ·
            refine gT h45 rfl rfl rfl rfl rfl rfl (AO.ops rfl rfl (mv rfl) ?_)
            refine gT h45 rfl rfl rfl rfl rfl rfl (AO.ops rfl rfl (g_ne8 (a := y42) (b := 32) rfl rfl) ?_)
            refine gT h44 rfl rfl rfl rfl rfl rfl (AO.ops rfl rfl (opS_pick_t (av := .v _) rfl h45 rfl) ?_)
            exact K _ 2 _ (B_congr (and_t h45)) rfl rfl
          ·
            refine gF h45 rfl rfl rfl rfl rfl ?_
            refine gF h45 rfl rfl rfl rfl rfl ?_
            refine gT h44 rfl rfl rfl rfl rfl rfl (AO.ops rfl rfl (opS_pick_f (av := .v _) rfl h45 rfl) ?_)
            exact K _ 2 _ (B_congr (and_f h45)) rfl rfl
        refine sS rfl rfl rfl (opS_pick_f (av := .v _) rfl h44 rfl) ?_
        exact K _ 4 _ (B_congr (or_f h44)) rfl rfl
    refine sS rfl rfl rfl (asg rfl) ?_
    refine AR.nil ?_
    show AW _ _ _ _ _ _
    refine AW.ret ?_
    obtain rfl := Option.some.inj H
    exact And.intro rfl (Exists.intro _ (Exists.intro _ ⟨ResV.oneW rfl (.refl _), Sub.at [] rfl, rfl, rfl⟩))
set_option maxRecDepth 100000 in
set_option maxHeartbeats 1000000 in
theorem w_law11_PlainMarks (F : Nat) (a1 : List UInt8) (a2 : List UInt8) (a3 : Int) (r4 : Bool) (H : law11_PlainMarks F a1 a2 a3 = some r4) : ACalls Tryd.prog 5 [S a1, S a2, i64 a3] [] (Ret (B r4) []) := by
  unfold law11_PlainMarks at H
  refine ACalls.of_body Tryd.func5 rfl rfl ?_
  show AW _ _ 84 _ _ _
  refine AW.seq ?_
  refine AW.region ?_
  show AR _ _ _ _ _ [0] _
  refine sS rfl rfl rfl (asg rfl) ?_
  refine AR.nil ?_
  show AW _ _ _ _ _ _
  refine AW.seq ?_
  obtain ⟨x5, e6, H⟩ := bnd_s H
  refine AW.region ?_
  show AR _ _ _ _ _ [0, 1] _
  refine AR.run rfl rfl (AO.callp rfl en7 rfl (w_law11_awake F x5 e6) ?_)
  refine sS rfl rfl rfl (asg rfl) ?_
  refine AR.nil ?_
  show AW _ _ _ _ _ _
  refine AW.seq ?_
  refine AW.seq ?_
  refine AW.region ?_
  show AR _ _ _ _ _ [0, 1, 2, 3, 4, 5, 6, 7, 8, 9, 10, 11, 12, 13, 14, 15, 16, 17, 18, 19, 20, 21, 22, 23, 24, 25, 26, 27] _
  refine sS rfl rfl rfl (mv rfl) ?_
  refine sS rfl rfl rfl (opS_not rfl) ?_
  refine sS rfl rfl rfl (mv rfl) ?_
  refine AR.meet (l := [7, 8, 9, 10, 11, 12, 13, 14, 15, 16, 17, 18, 19, 20, 21, 22, 23, 24, 25, 26, 27]) 19 (B ((!x5) || (decide (100 < (a1.length : Int))))) (fun K => ?_) ?_
  · rcases Bool.eq_false_or_eq_true (!x5) with h7 | h7
    ·
      refine gF h7 rfl rfl rfl rfl rfl ?_
      refine gF h7 rfl rfl rfl rfl rfl ?_
      refine gF h7 rfl rfl rfl rfl rfl ?_
      refine sS rfl rfl rfl (opS_pick_t (av := .v _) rfl h7 rfl) ?_
      exact K _ 3 _ (B_congr (or_t h7)) rfl rfl
    ·
      refine gT h7 rfl rfl rfl rfl rfl rfl (AO.ops rfl rfl (mv rfl) ?_)
      refine gT h7 rfl rfl rfl rfl rfl rfl (AO.ops rfl rfl (opS_len_str Tryd.underlying9 rfl) ?_)
      refine gT h7 rfl rfl rfl rfl rfl rfl (AO.ops rfl rfl (opS_gt rfl rfl) ?_)
      refine sS rfl rfl rfl (opS_pick_f (av := .v _) rfl h7 rfl) ?_
      exact K _ 3 _ (B_congr (or_f h7)) rfl rfl
  refine sS rfl rfl rfl (mv rfl) ?_
  refine AR.meet (l := [12, 13, 14, 15, 16, 17, 18, 19, 20, 21, 22, 23, 24, 25, 26, 27]) 24 (B (((!x5) || (decide (100 < (a1.length : Int)))) || (decide (100 < (a2.length : Int))))) (fun K => ?_) ?_
  · rcases Bool.eq_false_or_eq_true ((!x5) || (decide (100 < (a1.length : Int)))) with h8 | h8
    ·
      refine gF h8 rfl rfl rfl rfl rfl ?_
      refine gF h8 rfl rfl rfl rfl rfl ?_
      refine gF h8 rfl rfl rfl rfl rfl ?_
      refine sS rfl rfl rfl (opS_pick_t (av := .v _) rfl h8 rfl) ?_
      exact K _ 3 _ (B_congr (or_t h8)) rfl rfl
    ·
      refine gT h8 rfl rfl rfl rfl rfl rfl (AO.ops rfl rfl (mv rfl) ?_)
      refine gT h8 rfl rfl rfl rfl rfl rfl (AO.ops rfl rfl (opS_len_str Tryd.underlying9 rfl) ?_)
      refine gT h8 rfl rfl rfl rfl rfl rfl (AO.ops rfl rfl (opS_gt rfl rfl) ?_)
      refine sS rfl rfl rfl (opS_pick_f (av := .v _) rfl h8 rfl) ?_
      exact K _ 3 _ (B_congr (or_f h8)) rfl rfl
  refine sS rfl rfl rfl (mv rfl) ?_
  refine AR.meet (l := [16, 17, 18, 19, 20, 21, 22, 23, 24, 25, 26, 27]) 28 (B ((((!x5) || (decide (100 < (a1.length : Int)))) || (decide (100 < (a2.length : Int)))) || (decide (a3 < 0)))) (fun K => ?_) ?_
  · rcases Bool.eq_false_or_eq_true (((!x5) || (decide (100 < (a1.length : Int)))) || (decide (100 < (a2.length : Int)))) with h9 | h9
    ·
      refine gF h9 rfl rfl rfl rfl rfl ?_
      refine gF h9 rfl rfl rfl rfl rfl ?_
      refine sS rfl rfl rfl (opS_pick_t (av := .v _) rfl h9 rfl) ?_
      exact K _ 2 _ (B_congr (or_t h9)) rfl rfl
    ·
      refine gT h9 rfl rfl rfl rfl rfl rfl (AO.ops rfl rfl (mv rfl) ?_)
      refine gT h9 rfl rfl rfl rfl rfl rfl (AO.ops rfl rfl (opS_lt rfl rfl) ?_)
      refine sS rfl rfl rfl (opS_pick_f (av := .v _) rfl h9 rfl) ?_
      exact K _ 2 _ (B_congr (or_f h9)) rfl rfl
  refine sS rfl rfl rfl (mv rfl) ?_
  refine AR.meet (l := [20, 21, 22, 23, 24, 25, 26, 27]) 32 (B (((((!x5) || (decide (100 < (a1.length : Int)))) || (decide (100 < (a2.length : Int)))) || (decide (a3 < 0))) || (decide (9 < a3)))) (fun K => ?_) ?_
  · rcases Bool.eq_false_or_eq_true ((((!x5) || (decide (100 < (a1.length : Int)))) || (decide (100 < (a2.length : Int)))) || (decide (a3 < 0))) with h10 | h10
    ·
      refine gF h10 rfl rfl rfl rfl rfl ?_
      refine gF h10 rfl rfl rfl rfl rfl ?_
      refine sS rfl rfl rfl (opS_pick_t (av := .v _) rfl h10 rfl) ?_
      exact K _ 2 _ (B_congr (or_t h10)) rfl rfl
    ·
      refine gT h10 rfl rfl rfl rfl rfl rfl (AO.ops rfl rfl (mv rfl) ?_)
      refine gT h10 rfl rfl rfl rfl rfl rfl (AO.ops rfl rfl (opS_gt rfl rfl) ?_)
      refine sS rfl rfl rfl (opS_pick_f (av := .v _) rfl h10 rfl) ?_
      exact K _ 2 _ (B_congr (or_f h10)) rfl rfl
  refine sS rfl rfl rfl (mv rfl) ?_
  refine AR.meet (l := [24, 25, 26, 27]) 36 (B ((((((!x5) || (decide (100 < (a1.length : Int)))) || (decide (100 < (a2.length : Int)))) || (decide (a3 < 0))) || (decide (9 < a3))) || (decide (a1 = ([] : List UInt8))))) (fun K => ?_) ?_
  · rcases Bool.eq_false_or_eq_true (((((!x5) || (decide (100 < (a1.length : Int)))) || (decide (100 < (a2.length : Int)))) || (decide (a3 < 0))) || (decide (9 < a3))) with h11 | h11
    ·
      refine gF h11 rfl rfl rfl rfl rfl ?_
      refine gF h11 rfl rfl rfl rfl rfl ?_
      refine sS rfl rfl rfl (opS_pick_t (av := .v _) rfl h11 rfl) ?_
      exact K _ 2 _ (B_congr (or_t h11)) rfl rfl
    ·
      refine gT h11 rfl rfl rfl rfl rfl rfl (AO.ops rfl rfl (mv rfl) ?_)
      refine gT h11 rfl rfl rfl rfl rfl rfl (AO.ops rfl rfl (opS_eqs rfl rfl) ?_)
      refine sS rfl rfl rfl (opS_pick_f (av := .v _) rfl h11 rfl) ?_
      exact K _ 2 _ (B_congr (or_f h11)) rfl rfl
  refine sS rfl rfl rfl (mv rfl) ?_
  refine AR.meet (l := []) 40 (B (((((((!x5) || (decide (100 < (a1.length : Int)))) || (decide (100 < (a2.length : Int)))) || (decide (a3 < 0))) || (decide (9 < a3))) || (decide (a1 = ([] : List UInt8)))) || (decide (a2 = ([] : List UInt8))))) (fun K => ?_) ?_
  · rcases Bool.eq_false_or_eq_true ((((((!x5) || (decide (100 < (a1.length : Int)))) || (decide (100 < (a2.length : Int)))) || (decide (a3 < 0))) || (decide (9 < a3))) || (decide (a1 = ([] : List UInt8)))) with h12 | h12
    ·
      refine gF h12 rfl rfl rfl rfl rfl ?_
      refine gF h12 rfl rfl rfl rfl rfl ?_
      refine sS rfl rfl rfl (opS_pick_t (av := .v _) rfl h12 rfl) ?_
      exact K _ 2 _ (B_congr (or_t h12)) rfl rfl
    ·
      refine gT h12 rfl rfl rfl rfl rfl rfl (AO.ops rfl rfl (mv rfl) ?_)
      refine gT h12 rfl rfl rfl rfl rfl rfl (AO.ops rfl rfl (opS_eqs rfl rfl) ?_)
      refine sS rfl rfl rfl (opS_pick_f (av := .v _) rfl h12 rfl) ?_
      exact K _ 2 _ (B_congr (or_f h12)) rfl rfl
  refine AR.nil ?_
  show AW _ _ _ _ _ _
  refine AW.cond rfl (fun c13 => ?_) (fun c13 => ?_)
  · replace H := cnd_t c13 H
    refine AW.seq ?_
    refine AW.region ?_
    show AR _ _ _ _ _ [0, 1] _
    refine sS rfl rfl rfl (mv rfl) ?_
    refine sS rfl rfl rfl (asg rfl) ?_
    refine AR.nil ?_
    show AW _ _ _ _ _ _
    refine AW.ret ?_
    obtain rfl := Option.some.inj H
    exact And.intro rfl (Exists.intro _ (Exists.intro _ ⟨ResV.oneW rfl (.refl _), Sub.at [] rfl, rfl, rfl⟩))
  · replace H := cnd_f c13 H
    refine AW.skip ?_
    show AW _ _ _ _ _ _
    refine AW.seq ?_
    obtain ⟨g14, H⟩ := grd_s H
    obtain ⟨x15, e16, H⟩ := lt_s H
    refine AW.region ?_
    show AR _ _ _ _ _ [0, 1, 2, 3] _
    refine sS rfl rfl rfl (mv rfl) ?_
    refine sS rfl rfl rfl (mv rfl) ?_
    refine sS rfl rfl rfl (g_cat rfl rfl g14 e16) ?_
    refine sS rfl rfl rfl (asg rfl) ?_
    refine AR.nil ?_
    show AW _ _ _ _ _ _
    refine AW.cut (X := Unit) (fun _ => ⟨[(0, S a1), (1, S a2), (2, i64 a3)], [], []⟩) (fun _ => law11_PlainMarks_j1 F a1 a2 a3 = some r4) ?_ ?_
    ·
      refine AW.seq ?_
      refine AW.region ?_
      show AR _ _ _ _ _ [0] _
      refine sS rfl rfl rfl (asg rfl) ?_
      refine AR.nil ?_
      show AW _ _ _ _ _ _
      refine AW.block ?_
      refine AW.loop (X := Nat × Int) (fun (n19, y17) => ⟨[(0, S a1), (1, S a2), (2, i64 a3), (8, S x15), (9, i64 y17)], [], []⟩) (fun (n19, y17) => law11_PlainMarks_L1 F a1 a2 a3 x15 n19 y17 = some r4) (fun (n19, y17) => n19) (F, 0) H (WK.at [] (.cons (.refl _) (.cons (.refl _) (.cons (.refl _) (.cons (.refl _) (.cons (.refl _) (.nil _)))))) rfl) ?_
      rintro ⟨n19, y17⟩ H
      obtain ⟨n19, rfl, H⟩ := loop_s H
      replace H : law11_PlainMarks_B1 F a1 a2 a3 x15 (law11_PlainMarks_L1 F a1 a2 a3 x15 n19) y17 = some r4 := H
      unfold law11_PlainMarks_B1 at H
      show AW _ _ _ _ _ _
      refine AW.seq ?_
      refine AW.seq ?_
      refine AW.region ?_
      show AR _ _ _ _ _ [0, 1, 2, 3] _
      refine sS rfl rfl rfl (mv rfl) ?_
      refine sS rfl rfl rfl (mv rfl) ?_
      refine sS rfl rfl rfl (opS_len_str Tryd.underlying9 rfl) ?_
      refine sS rfl rfl rfl (opS_lt rfl rfl) ?_
      refine AR.nil ?_
      show AW _ _ _ _ _ _
      refine AW.cond rfl (fun c20 => ?_) (fun c20 => ?_)
      · replace H := cnd_t c20 H
        refine AW.skip ?_
        show AW _ _ _ _ _ _
        refine AW.seq ?_
        refine AW.block ?_
        refine AW.seq ?_
        obtain ⟨g21, H⟩ := grd_s H
        obtain ⟨x22, e23, H⟩ := lt_s H
        obtain ⟨g25, H⟩ := grdc_s H
        obtain ⟨x26, e27, H⟩ := lt_s H
        refine AW.region ?_
        show AR _ _ _ _ _ [0, 1, 2, 3, 4, 5, 6, 7, 8, 9] _
        refine sS rfl rfl rfl (mv rfl) ?_
        refine sS rfl rfl rfl (mv rfl) ?_
        refine sS rfl rfl rfl (g_index_str Tryd.underlying9 rfl rfl g21 e23) ?_
        refine sS rfl rfl rfl (opS_lt rfl rfl) ?_
        refine sS rfl rfl rfl (mv rfl) ?_
        refine AR.meet (l := []) 60 (B ((decide ((x22.toNat : Int) < 97)) || (decide (122 < (x26.toNat : Int))))) (fun K => ?_) ?_
        · rcases Bool.eq_false_or_eq_true (decide ((x22.toNat : Int) < 97)) with h24 | h24
          ·
            refine gF h24 rfl rfl rfl rfl rfl ?_
            refine gF h24 rfl rfl rfl rfl rfl ?_
            refine gF h24 rfl rfl rfl rfl rfl ?_
            refine gF h24 rfl rfl rfl rfl rfl ?_
            refine sS rfl rfl rfl (opS_pick_t (av := .v _) rfl h24 rfl) ?_
            exact K _ 4 _ (B_congr (or_t h24)) rfl rfl
          ·
            refine gT h24 rfl rfl rfl rfl rfl rfl (AO.ops rfl rfl (mv rfl) ?_)
            refine gT h24 rfl rfl rfl rfl rfl rfl (AO.ops rfl rfl (mv rfl) ?_)
            refine gT h24 rfl rfl rfl rfl rfl rfl (AO.ops rfl rfl (g_index_str Tryd.underlying9 rfl rfl (g25 (nf h24)) e27) ?_)
            refine gT h24 rfl rfl rfl rfl rfl rfl (AO.ops rfl rfl (opS_gt rfl rfl) ?_)
            refine sS rfl rfl rfl (opS_pick_f (av := .v _) rfl h24 rfl) ?_
            exact K _ 4 _ (B_congr (or_f h24)) rfl rfl
        refine AR.nil ?_
        show AW _ _ _ _ _ _
        refine AW.cond rfl (fun c28 => ?_) (fun c28 => ?_)
        · replace H := cnd_t c28 H
          refine AW.seq ?_
          refine AW.region ?_
          show AR _ _ _ _ _ [0] _
          refine sS rfl rfl rfl (asg rfl) ?_
          refine AR.nil ?_
          show AW _ _ _ _ _ _
          refine AW.ret ?_
          obtain rfl := Option.some.inj H
          exact And.intro rfl (Exists.intro _ (Exists.intro _ ⟨ResV.oneW rfl (.refl _), Sub.at [] rfl, rfl, rfl⟩))
        · replace H := cnd_f c28 H
          refine AW.skip ?_
          show AW _ _ _ _ _ _
          obtain ⟨g29, H⟩ := grd_s H
          refine AW.region ?_
          show AR _ _ _ _ _ [0, 1, 2] _
          refine sS rfl rfl rfl (mv rfl) ?_
          refine sS rfl rfl rfl (g_add rfl rfl g29) ?_
          refine sS rfl rfl rfl (asg rfl) ?_
          refine AR.nil ?_
          exact Exists.intro (n19, y17 + 1) ⟨H, Nat.lt_succ_self _, WK.at [] (.cons (.refl _) (.cons (.refl _) (.cons (.refl _) (.cons (.refl _) (.cons (.refl _) (.nil _)))))) rfl⟩
      · replace H := cnd_f c20 H
        refine AW.exit ?_
        exact Exists.intro () ⟨H, WK.at [] (.cons (.refl _) (.cons (.refl _) (.cons (.refl _) (.nil _)))) rfl⟩
    rintro _ H
    replace H : law11_PlainMarks_j1 F a1 a2 a3 = some r4 := H
    unfold law11_PlainMarks_j1 at H
    show AW _ _ _ _ _ _
    refine AW.seq ?_
    refine AW.region ?_
    show AR _ _ _ _ _ [0, 1] _
    refine sR rfl rfl rfl (opR_buildE (E := Enc.str) (bytes := 16) (xs := [.const _, .const _, .const _, .const _, .const _, .const _, .const _, .const _, .const _, .const _]) (l := ([([60, 98, 62] : List UInt8), ([60, 47, 105, 62] : List UInt8), ([60, 97, 32, 104, 114, 101, 102, 61, 34, 120, 34, 62] : List UInt8), ([60, 33, 45, 45, 32, 121, 32, 45, 45, 62] : List UInt8), ([60, 115, 116, 121, 108, 101, 62, 113, 60, 47, 115, 116, 121, 108, 101, 62] : List UInt8), ([60, 98, 114, 62] : List UInt8), ([60, 80, 62] : List UInt8), ([60, 47, 100, 105, 118, 62] : List UInt8), ([60, 104, 51, 32, 99, 108, 97, 115, 115, 61, 39, 122, 39, 62] : List UInt8), ([60, 108, 105, 47, 62] : List UInt8)] : List (List UInt8))) Tryd.underlying25 (by kernel_rfl) rfl rfl (by decide) rfl rfl) ?_
    refine sS rfl rfl rfl (opS_assign (av := slE _ _ _) rfl) ?_
    refine AR.nil ?_
    show AW _ _ _ _ _ _
    refine AW.seq ?_
    obtain ⟨g31, H⟩ := grd_s H
    obtain ⟨x32, e33, H⟩ := lt_s H
    obtain ⟨g34, H⟩ := grd_s H
    obtain ⟨x35, e36, H⟩ := lt_s H
    obtain ⟨g37, H⟩ := grd_s H
    obtain ⟨x38, e39, H⟩ := lt_s H
    obtain ⟨x40, e41, H⟩ := bnd_s H
    refine AW.region ?_
    show AR _ _ _ _ _ [0, 1, 2, 3, 4, 5, 6, 7, 8, 9] _
    refine sS rfl rfl rfl (mv rfl) ?_
    refine sS rfl rfl rfl (opS_move (av := slE _ _ _) rfl) ?_
    refine sS rfl rfl rfl (mv rfl) ?_
    refine sS rfl rfl rfl (g_indexAddr (E := Enc.str) Tryd.underlying25 (by kernel_rfl) rfl rfl g31 e33) ?_
    refine sS rfl rfl rfl (opS_load_cp Tryd.underlying9 rfl rfl) ?_
    refine sS rfl rfl rfl (g_cat rfl rfl g34 e36) ?_
    refine sS rfl rfl rfl (mv rfl) ?_
    refine sS rfl rfl rfl (g_cat rfl rfl g37 e39) ?_
    refine AR.run rfl rfl (AO.callp rfl en8 rfl (w_plain_Of F x38 x40 e41) ?_)
    refine sS rfl rfl rfl (asg rfl) ?_
    refine AR.nil ?_
    show AW _ _ _ _ _ _
    refine AW.seq ?_
    refine AW.seq ?_
    refine AW.region ?_
    show AR _ _ _ _ _ [0, 1] _
    refine sS rfl rfl rfl (mv rfl) ?_
    refine sS rfl rfl rfl (opS_lt rfl rfl) ?_
    refine AR.nil ?_
    show AW _ _ _ _ _ _
    refine AW.cond rfl (fun c42 => ?_) (fun c42 => ?_)
    · replace H := cnd_t c42 H
      refine AW.seq ?_
      obtain ⟨g43, H⟩ := grd_s H
      obtain ⟨x44, e45, H⟩ := lt_s H
      refine AW.region ?_
      show AR _ _ _ _ _ [0, 1, 2, 3, 4, 5] _
      refine sS rfl rfl rfl (mv rfl) ?_
      refine sS rfl rfl rfl (mv rfl) ?_
      refine sS rfl rfl rfl (mv rfl) ?_
      refine sS rfl rfl rfl (g_cat rfl rfl g43 e45) ?_
      refine sS rfl rfl rfl (opS_eqs rfl rfl) ?_
      refine sS rfl rfl rfl (asg rfl) ?_
      refine AR.nil ?_
      show AW _ _ _ _ _ _
      refine AW.ret ?_
      obtain rfl := Option.some.inj H
      exact And.intro rfl (Exists.intro _ (Exists.intro _ ⟨ResV.oneW rfl (.refl _), Sub.at [] rfl, rfl, rfl⟩))
    · replace H := cnd_f c42 H
      refine AW.skip ?_
      show AW _ _ _ _ _ _
      refine AW.seq ?_
      obtain ⟨g46, H⟩ := grd_s H
      obtain ⟨x47, e48, H⟩ := lt_s H
      obtain ⟨g49, H⟩ := grd_s H
      obtain ⟨x50, e51, H⟩ := lt_s H
      refine AW.region ?_
      show AR _ _ _ _ _ [0, 1, 2, 3, 4, 5, 6] _
      refine sS rfl rfl rfl (mv rfl) ?_
      refine sS rfl rfl rfl (mv rfl) ?_
      refine sS rfl rfl rfl (g_cat rfl rfl g46 e48) ?_
      refine sS rfl rfl rfl (mv rfl) ?_
      refine sS rfl rfl rfl (g_cat rfl rfl g49 e51) ?_
      refine sS rfl rfl rfl (opS_eqs rfl rfl) ?_
      refine sS rfl rfl rfl (asg rfl) ?_
      refine AR.nil ?_
      show AW _ _ _ _ _ _
      refine AW.ret ?_
      obtain rfl := Option.some.inj H
      exact And.intro rfl (Exists.intro _ (Exists.intro _ ⟨ResV.oneW rfl (.refl _), Sub.at [] rfl, rfl, rfl⟩))
set_option maxRecDepth 100000 in
set_option maxHeartbeats 1000000 in
theorem w_law11_PlainWraps (F : Nat) (a1 : List UInt8) (a2 : Int) (r3 : Bool) (H : law11_PlainWraps F a1 a2 = some r3) : ACalls Tryd.prog 6 [S a1, i64 a2] [] (Ret (B r3) []) := by
  unfold law11_PlainWraps at H
  refine ACalls.of_body Tryd.func6 rfl rfl ?_
  show AW _ _ 118 _ _ _
  refine AW.seq ?_
  refine AW.region ?_
  show AR _ _ _ _ _ [0] _
  refine sS rfl rfl rfl (asg rfl) ?_
  refine AR.nil ?_
  show AW _ _ _ _ _ _
  refine AW.seq ?_
  obtain ⟨x4, e5, H⟩ := bnd_s H
  refine AW.region ?_
  show AR _ _ _ _ _ [0, 1] _
  refine AR.run rfl rfl (AO.callp rfl en7 rfl (w_law11_awake F x4 e5) ?_)
  refine sS rfl rfl rfl (asg rfl) ?_
  refine AR.nil ?_
  show AW _ _ _ _ _ _
  refine AW.seq ?_
  refine AW.seq ?_
  refine AW.region ?_
  show AR _ _ _ _ _ [0, 1, 2, 3, 4, 5, 6, 7, 8, 9, 10, 11, 12, 13, 14] _
  refine sS rfl rfl rfl (mv rfl) ?_
  refine sS rfl rfl rfl (opS_not rfl) ?_
  refine sS rfl rfl rfl (mv rfl) ?_
  refine AR.meet (l := [7, 8, 9, 10, 11, 12, 13, 14]) 18 (B ((!x4) || (decide (600 < (a1.length : Int))))) (fun K => ?_) ?_
  · rcases Bool.eq_false_or_eq_true (!x4) with h6 | h6
    ·
      refine gF h6 rfl rfl rfl rfl rfl ?_
      refine gF h6 rfl rfl rfl rfl rfl ?_
      refine gF h6 rfl rfl rfl rfl rfl ?_
      refine sS rfl rfl rfl (opS_pick_t (av := .v _) rfl h6 rfl) ?_
      exact K _ 3 _ (B_congr (or_t h6)) rfl rfl
    ·
      refine gT h6 rfl rfl rfl rfl rfl rfl (AO.ops rfl rfl (mv rfl) ?_)
      refine gT h6 rfl rfl rfl rfl rfl rfl (AO.ops rfl rfl (opS_len_str Tryd.underlying9 rfl) ?_)
      refine gT h6 rfl rfl rfl rfl rfl rfl (AO.ops rfl rfl (opS_gt rfl rfl) ?_)
      refine sS rfl rfl rfl (opS_pick_f (av := .v _) rfl h6 rfl) ?_
      exact K _ 3 _ (B_congr (or_f h6)) rfl rfl
  refine sS rfl rfl rfl (mv rfl) ?_
  refine AR.meet (l := [11, 12, 13, 14]) 22 (B (((!x4) || (decide (600 < (a1.length : Int)))) || (decide (a2 < 1)))) (fun K => ?_) ?_
  · rcases Bool.eq_false_or_eq_true ((!x4) || (decide (600 < (a1.length : Int)))) with h7 | h7
    ·
      refine gF h7 rfl rfl rfl rfl rfl ?_
      refine gF h7 rfl rfl rfl rfl rfl ?_
      refine sS rfl rfl rfl (opS_pick_t (av := .v _) rfl h7 rfl) ?_
      exact K _ 2 _ (B_congr (or_t h7)) rfl rfl
    ·
      refine gT h7 rfl rfl rfl rfl rfl rfl (AO.ops rfl rfl (mv rfl) ?_)
      refine gT h7 rfl rfl rfl rfl rfl rfl (AO.ops rfl rfl (opS_lt rfl rfl) ?_)
      refine sS rfl rfl rfl (opS_pick_f (av := .v _) rfl h7 rfl) ?_
      exact K _ 2 _ (B_congr (or_f h7)) rfl rfl
  refine sS rfl rfl rfl (mv rfl) ?_
  refine AR.meet (l := []) 26 (B ((((!x4) || (decide (600 < (a1.length : Int)))) || (decide (a2 < 1))) || (decide (1000 < a2)))) (fun K => ?_) ?_
  · rcases Bool.eq_false_or_eq_true (((!x4) || (decide (600 < (a1.length : Int)))) || (decide (a2 < 1))) with h8 | h8
    ·
      refine gF h8 rfl rfl rfl rfl rfl ?_
      refine gF h8 rfl rfl rfl rfl rfl ?_
      refine sS rfl rfl rfl (opS_pick_t (av := .v _) rfl h8 rfl) ?_
      exact K _ 2 _ (B_congr (or_t h8)) rfl rfl
    ·
      refine gT h8 rfl rfl rfl rfl rfl rfl (AO.ops rfl rfl (mv rfl) ?_)
      refine gT h8 rfl rfl rfl rfl rfl rfl (AO.ops rfl rfl (opS_gt rfl rfl) ?_)
      refine sS rfl rfl rfl (opS_pick_f (av := .v _) rfl h8 rfl) ?_
      exact K _ 2 _ (B_congr (or_f h8)) rfl rfl
  refine AR.nil ?_
  show AW _ _ _ _ _ _
  refine AW.cond rfl (fun c9 => ?_) (fun c9 => ?_)
  · replace H := cnd_t c9 H
    refine AW.seq ?_
    refine AW.region ?_
    show AR _ _ _ _ _ [0, 1] _
    refine sS rfl rfl rfl (mv rfl) ?_
    refine sS rfl rfl rfl (asg rfl) ?_
    refine AR.nil ?_
    show AW _ _ _ _ _ _
    refine AW.ret ?_
    obtain rfl := Option.some.inj H
    exact And.intro rfl (Exists.intro _ (Exists.intro _ ⟨ResV.oneW rfl (.refl _), Sub.at [] rfl, rfl, rfl⟩))
  · replace H := cnd_f c9 H
    refine AW.skip ?_
    show AW _ _ _ _ _ _
    refine AW.cut (X := Unit) (fun _ => ⟨[(0, S a1), (1, i64 a2)], [], []⟩) (fun _ => law11_PlainWraps_j3 F a1 a2 = some r3) ?_ ?_
    ·
      refine AW.seq ?_
      refine AW.region ?_
      show AR _ _ _ _ _ [0] _
      refine sS rfl rfl rfl (asg rfl) ?_
      refine AR.nil ?_
      show AW _ _ _ _ _ _
      refine AW.block ?_
      refine AW.loop (X := Nat × Int) (fun (n12, y10) => ⟨[(0, S a1), (1, i64 a2), (6, i64 y10)], [], []⟩) (fun (n12, y10) => law11_PlainWraps_L2 F a1 a2 n12 y10 = some r3) (fun (n12, y10) => n12) (F, 0) H (WK.at [] (.cons (.refl _) (.cons (.refl _) (.cons (.refl _) (.nil _)))) rfl) ?_
      rintro ⟨n12, y10⟩ H
      obtain ⟨n12, rfl, H⟩ := loop_s H
      replace H : law11_PlainWraps_B2 F a1 a2 (law11_PlainWraps_L2 F a1 a2 n12) y10 = some r3 := H
      unfold law11_PlainWraps_B2 at H
      show AW _ _ _ _ _ _
      refine AW.seq ?_
      refine AW.seq ?_
      refine AW.region ?_
      show AR _ _ _ _ _ [0, 1, 2, 3] _
      refine sS rfl rfl rfl (mv rfl) ?_
      refine sS rfl rfl rfl (mv rfl) ?_
      refine sS rfl rfl rfl (opS_len_str Tryd.underlying9 rfl) ?_
      refine sS rfl rfl rfl (opS_lt rfl rfl) ?_
      refine AR.nil ?_
      show AW _ _ _ _ _ _
      refine AW.cond rfl (fun c13 => ?_) (fun c13 => ?_)
      · replace H := cnd_t c13 H
        refine AW.skip ?_
        show AW _ _ _ _ _ _
        refine AW.seq ?_
        refine AW.block ?_
        refine AW.seq ?_
        obtain ⟨g14, H⟩ := grd_s H
        obtain ⟨x15, e16, H⟩ := lt_s H
        refine AW.region ?_
        show AR _ _ _ _ _ [0, 1, 2, 3] _
        refine sS rfl rfl rfl (mv rfl) ?_
        refine sS rfl rfl rfl (mv rfl) ?_
        refine sS rfl rfl rfl (g_index_str Tryd.underlying9 rfl rfl g14 e16) ?_
        refine sS rfl rfl rfl (g_eq8 (a := x15) (b := 10) rfl rfl) ?_
        refine AR.nil ?_
        show AW _ _ _ _ _ _
        refine AW.cond rfl (fun c17 => ?_) (fun c17 => ?_)
        · replace H := cnd_t c17 H
          refine AW.seq ?_
          refine AW.region ?_
          show AR _ _ _ _ _ [0] _
          refine sS rfl rfl rfl (asg rfl) ?_
          refine AR.nil ?_
          show AW _ _ _ _ _ _
          refine AW.ret ?_
          obtain rfl := Option.some.inj H
          exact And.intro rfl (Exists.intro _ (Exists.intro _ ⟨ResV.oneW rfl (.refl _), Sub.at [] rfl, rfl, rfl⟩))
        · replace H := cnd_f c17 H
          refine AW.skip ?_
          show AW _ _ _ _ _ _
          obtain ⟨g18, H⟩ := grd_s H
          refine AW.region ?_
          show AR _ _ _ _ _ [0, 1, 2] _
          refine sS rfl rfl rfl (mv rfl) ?_
          refine sS rfl rfl rfl (g_add rfl rfl g18) ?_
          refine sS rfl rfl rfl (asg rfl) ?_
          refine AR.nil ?_
          exact Exists.intro (n12, y10 + 1) ⟨H, Nat.lt_succ_self _, WK.at [] (.cons (.refl _) (.cons (.refl _) (.cons (.refl _) (.nil _)))) rfl⟩
      · replace H := cnd_f c13 H
        refine AW.exit ?_
        exact Exists.intro () ⟨H, WK.at [] (.cons (.refl _) (.cons (.refl _) (.nil _))) rfl⟩
    rintro _ H
    replace H : law11_PlainWraps_j3 F a1 a2 = some r3 := H
    unfold law11_PlainWraps_j3 at H
    show AW _ _ _ _ _ _
    refine AW.seq ?_
    obtain ⟨x20, e21, H⟩ := bnd_s H
    refine AW.region ?_
    show AR _ _ _ _ _ [0, 1, 2, 3] _
    refine sS rfl rfl rfl (mv rfl) ?_
    refine sS rfl rfl rfl (mv rfl) ?_
    refine AR.run rfl rfl (AO.callp rfl en10 rfl (w_plain_Wrap F a1 a2 x20 e21) ?_)
    refine sS rfl rfl rfl (opS_assign (av := slE _ _ _) rfl) ?_
    refine AR.nil ?_
    show AW _ _ _ _ _ _
    refine AW.seq ?_
    refine AW.seq ?_
    refine AW.region ?_
    show AR _ _ _ _ _ [0, 1, 2] _
    refine sS rfl rfl rfl (opS_move (av := slE _ _ _) rfl) ?_
    refine sS rfl rfl rfl (opS_len_sl Tryd.underlying25 rfl) ?_
    refine sS rfl rfl rfl (opS_eqi rfl rfl) ?_
    refine AR.nil ?_
    show AW _ _ _ _ _ _
    refine AW.cond rfl (fun c22 => ?_) (fun c22 => ?_)
    · replace H := cnd_t c22 H
      refine AW.seq ?_
      refine AW.region ?_
      show AR _ _ _ _ _ [0] _
      refine sS rfl rfl rfl (asg rfl) ?_
      refine AR.nil ?_
      show AW _ _ _ _ _ _
      refine AW.ret ?_
      obtain rfl := Option.some.inj H
      exact And.intro rfl (Exists.intro _ (Exists.intro _ ⟨ResV.oneW rfl (.refl _), Sub.at [] rfl, rfl, rfl⟩))
    · replace H := cnd_f c22 H
      refine AW.skip ?_
      show AW _ _ _ _ _ _
      refine AW.seq ?_
      refine AW.region ?_
      show AR _ _ _ _ _ [0] _
      refine sS rfl rfl rfl (asg rfl) ?_
      refine AR.nil ?_
      show AW _ _ _ _ _ _
      refine AW.cut (X := (List UInt8)) (fun y72 => ⟨[(0, S a1), (8, S y72)], [], []⟩) (fun y72 => law11_PlainWraps_j1 F a1 y72 = some r3) ?_ ?_
      ·
        refine AW.seq ?_
        refine AW.region ?_
        show AR _ _ _ _ _ [0] _
        refine sS rfl rfl rfl (asg rfl) ?_
        refine AR.nil ?_
        show AW _ _ _ _ _ _
        refine AW.block ?_
        refine AW.loop (X := Nat × (List UInt8) × Int) (fun (n26, y23, y24) => ⟨[(0, S a1), (1, i64 a2), (7, slE Enc.str x20 none), (8, S y23), (9, i64 y24)], [], []⟩) (fun (n26, y23, y24) => law11_PlainWraps_L1 F a1 a2 x20 n26 (y23, y24) = some r3) (fun (n26, y23, y24) => n26) (F, ([] : List UInt8), 0) H (WK.at [] (.cons (.refl _) (.cons (.refl _) (.cons (.refl _) (.cons (.refl _) (.cons (.refl _) (.nil _)))))) rfl) ?_
        rintro ⟨n26, y23, y24⟩ H
        obtain ⟨n26, rfl, H⟩ := loop_s H
        replace H : law11_PlainWraps_B1 F a1 a2 x20 (law11_PlainWraps_L1 F a1 a2 x20 n26) y23 y24 = some r3 := H
        unfold law11_PlainWraps_B1 at H
        show AW _ _ _ _ _ _
        refine AW.seq ?_
        refine AW.seq ?_
        refine AW.region ?_
        show AR _ _ _ _ _ [0, 1, 2, 3] _
        refine sS rfl rfl rfl (mv rfl) ?_
        refine sS rfl rfl rfl (opS_move (av := slE _ _ _) rfl) ?_
        refine sS rfl rfl rfl (opS_len_sl Tryd.underlying25 rfl) ?_
        refine sS rfl rfl rfl (opS_lt rfl rfl) ?_
        refine AR.nil ?_
        show AW _ _ _ _ _ _
        refine AW.cond rfl (fun c27 => ?_) (fun c27 => ?_)
        · replace H := cnd_t c27 H
          refine AW.skip ?_
          show AW _ _ _ _ _ _
          refine AW.seq ?_
          refine AW.block ?_
          refine AW.seq ?_
          obtain ⟨g28, H⟩ := grd_s H
          obtain ⟨x29, e30, H⟩ := lt_s H
          obtain ⟨x31, e32, H⟩ := bnd_s H
          refine AW.region ?_
          show AR _ _ _ _ _ [0, 1, 2, 3, 4, 5] _
          refine sS rfl rfl rfl (opS_move (av := slE _ _ _) rfl) ?_
          refine sS rfl rfl rfl (mv rfl) ?_
          refine sS rfl rfl rfl (g_indexAddr (E := Enc.str) Tryd.underlying25 (by kernel_rfl) rfl rfl g28 e30) ?_
          refine sS rfl rfl rfl (opS_load_cp Tryd.underlying9 rfl rfl) ?_
          refine AR.run rfl rfl (AO.callp rfl en11 rfl (w_ref11_Words F x29 x31 e32) ?_)
          refine sS rfl rfl rfl (opS_assign (av := slE _ _ _) rfl) ?_
          refine AR.nil ?_
          show AW _ _ _ _ _ _
          refine AW.seq ?_
          refine AW.seq ?_
          obtain ⟨g33, H⟩ := grd_s H
          obtain ⟨x34, e35, H⟩ := lt_s H
          obtain ⟨g40, H⟩ := grdc_s H
          obtain ⟨g41, H⟩ := grdc_s H
          obtain ⟨x42, e43, H⟩ := lt_s H
          obtain ⟨g44, H⟩ := grdc_s H
          obtain ⟨g45, H⟩ := grdc_s H
          obtain ⟨x46, e47, H⟩ := lt_s H
          obtain ⟨g48, H⟩ := grdc_s H
          obtain ⟨g50, H⟩ := grdc_s H
          obtain ⟨x51, e52, H⟩ := lt_s H
          obtain ⟨g53, H⟩ := grdc_s H
          obtain ⟨x54, e55, H⟩ := lt_s H
          obtain ⟨x56, e57, H⟩ := bndc_s H
          refine AW.region_draw (by kernel_rfl) ?_
          show AI _ _ _ _ 49 (Array.replicate 49 false) _
          refine AI.take (i := 0) rfl rfl (by kernel_rfl) (by kernel_rfl) (by kernel_rfl) (fun _ _ h => by obtain ⟨_, _, _, h, _⟩ := h; cases h) (opS_move (av := slE _ _ _) rfl) ?_
          show AI _ _ _ _ _ #[true, false, false, false, false, false, false, false, false, false, false, false, false, false, false, false, false, false, false, false, false, false, false, false, false, false, false, false, false, false, false, false, false, false, false, false, false, false, false, false, false, false, false, false, false, false, false, false, false] _
          refine AI.take (i := 1) rfl rfl (by kernel_rfl) (by kernel_rfl) (by kernel_rfl) (fun _ _ h => by obtain ⟨_, _, _, h, _⟩ := h; cases h) (mv rfl) ?_
          show AI _ _ _ _ _ #[true, true, false, false, false, false, false, false, false, false, false, false, false, false, false, false, false, false, false, false, false, false, false, false, false, false, false, false, false, false, false, false, false, false, false, false, false, false, false, false, false, false, false, false, false, false, false, false, false] _
          refine AI.take (i := 2) rfl rfl (by kernel_rfl) (by kernel_rfl) (by kernel_rfl) (fun _ _ h => by obtain ⟨_, _, _, h, _⟩ := h; cases h) (g_indexAddr (E := Enc.str) Tryd.underlying25 (by kernel_rfl) rfl rfl g33 e35) ?_
          show AI _ _ _ _ _ #[true, true, true, false, false, false, false, false, false, false, false, false, false, false, false, false, false, false, false, false, false, false, false, false, false, false, false, false, false, false, false, false, false, false, false, false, false, false, false, false, false, false, false, false, false, false, false, false, false] _
          refine AI.take (i := 3) rfl rfl (by kernel_rfl) (by kernel_rfl) (by kernel_rfl) (fun _ _ h => by obtain ⟨_, _, _, h, _⟩ := h; cases h) (opS_load_cp Tryd.underlying9 rfl rfl) ?_
          show AI _ _ _ _ _ #[true, true, true, true, false, false, false, false, false, false, false, false, false, false, false, false, false, false, false, false, false, false, false, false, false, false, false, false, false, false, false, false, false, false, false, false, false, false, false, false, false, false, false, false, false, false, false, false, false] _
          refine AI.take (i := 4) rfl rfl (by kernel_rfl) (by kernel_rfl) (by kernel_rfl) (fun _ _ h => by obtain ⟨_, _, _, h, _⟩ := h; cases h) (opS_len_str Tryd.underlying9 rfl) ?_
          show AI _ _ _ _ _ #[true, true, true, true, true, false, false, false, false, false, false, false, false, false, false, false, false, false, false, false, false, false, false, false, false, false, false, false, false, false, false, false, false, false, false, false, false, false, false, false, false, false, false, false, false, false, false, false, false] _
          refine AI.take (i := 5) rfl rfl (by kernel_rfl) (by kernel_rfl) (by kernel_rfl) (fun _ _ h => by obtain ⟨_, _, _, h, _⟩ := h; cases h) (mv rfl) ?_
          show AI _ _ _ _ _ #[true, true, true, true, true, true, false, false, false, false, false, false, false, false, false, false, false, false, false, false, false, false, false, false, false, false, false, false, false, false, false, false, false, false, false, false, false, false, false, false, false, false, false, false, false, false, false, false, false] _
          refine AI.take (i := 6) rfl rfl (by kernel_rfl) (by kernel_rfl) (by kernel_rfl) (fun _ _ h => by obtain ⟨_, _, _, h, _⟩ := h; cases h) (opS_gt rfl rfl) ?_
          show AI _ _ _ _ _ #[true, true, true, true, true, true, true, false, false, false, false, false, false, false, false, false, false, false, false, false, false, false, false, false, false, false, false, false, false, false, false, false, false, false, false, false, false, false, false, false, false, false, false, false, false, false, false, false, false] _
          refine AI.take (i := 7) rfl rfl (by kernel_rfl) (by kernel_rfl) (by kernel_rfl) (fun _ _ h => by obtain ⟨_, _, _, h, _⟩ := h; cases h) (mv rfl) ?_
          show AI _ _ _ _ _ #[true, true, true, true, true, true, true, true, false, false, false, false, false, false, false, false, false, false, false, false, false, false, false, false, false, false, false, false, false, false, false, false, false, false, false, false, false, false, false, false, false, false, false, false, false, false, false, false, false] _
          refine AI.meet 37 #[true, true, true, true, true, true, true, true, true, true, true, true, false, false, false, false, false, false, false, false, false, false, false, false, false, false, false, false, false, false, false, false, false, false, false, false, false, false, false, false, false, false, false, false, false, false, false, false, false] 66 (B ((decide (a2 < (x34.length : Int))) && (!decide ((x31.length : Int) = 1)))) (fun K11 => ?_) ?_
          · refine AI.gsplit (t := 62) rfl (fun h36 => ?_) (fun h36 => ?_)
            ·
              refine AI.gtake (i := 8) rfl rfl (by kernel_rfl) (by kernel_rfl) (by kernel_rfl) rfl rfl rfl (fun _ _ h => by obtain ⟨_, _, _, h, _⟩ := h; cases h) h36 (opS_move (av := slE _ _ _) rfl) ?_
              show AI _ _ _ _ _ #[true, true, true, true, true, true, true, true, true, false, false, false, false, false, false, false, false, false, false, false, false, false, false, false, false, false, false, false, false, false, false, false, false, false, false, false, false, false, false, false, false, false, false, false, false, false, false, false, false] _
              refine AI.gtake (i := 9) rfl rfl (by kernel_rfl) (by kernel_rfl) (by kernel_rfl) rfl rfl rfl (fun _ _ h => by obtain ⟨_, _, _, h, _⟩ := h; cases h) h36 (opS_len_sl Tryd.underlying25 rfl) ?_
              show AI _ _ _ _ _ #[true, true, true, true, true, true, true, true, true, true, false, false, false, false, false, false, false, false, false, false, false, false, false, false, false, false, false, false, false, false, false, false, false, false, false, false, false, false, false, false, false, false, false, false, false, false, false, false, false] _
              refine AI.gtake (i := 10) rfl rfl (by kernel_rfl) (by kernel_rfl) (by kernel_rfl) rfl rfl rfl (fun _ _ h => by obtain ⟨_, _, _, h, _⟩ := h; cases h) h36 (opS_nei rfl rfl) ?_
              show AI _ _ _ _ _ #[true, true, true, true, true, true, true, true, true, true, true, false, false, false, false, false, false, false, false, false, false, false, false, false, false, false, false, false, false, false, false, false, false, false, false, false, false, false, false, false, false, false, false, false, false, false, false, false, false] _
              refine AI.take (i := 11) rfl rfl (by kernel_rfl) (by kernel_rfl) (by kernel_rfl) (fun _ _ h => by obtain ⟨_, _, _, h, _⟩ := h; cases h) (OpS.eq (av' := B ((decide (a2 < (x34.length : Int))) && (!decide ((x31.length : Int) = 1)))) (opS_pick_t (av := .v _) rfl h36 rfl) (B_congr (and_t h36))) ?_
              show AI _ _ _ _ _ #[true, true, true, true, true, true, true, true, true, true, true, true, false, false, false, false, false, false, false, false, false, false, false, false, false, false, false, false, false, false, false, false, false, false, false, false, false, false, false, false, false, false, false, false, false, false, false, false, false] _
              exact K11 _ 3 rfl rfl
            ·
              refine AI.gskip (i := 8) rfl rfl (by kernel_rfl) (by kernel_rfl) (by kernel_rfl) rfl rfl rfl (fun _ _ h => by obtain ⟨_, _, _, h, _⟩ := h; cases h) h36 ?_
              show AI _ _ _ _ _ #[true, true, true, true, true, true, true, true, true, false, false, false, false, false, false, false, false, false, false, false, false, false, false, false, false, false, false, false, false, false, false, false, false, false, false, false, false, false, false, false, false, false, false, false, false, false, false, false, false] _
              refine AI.gskip (i := 9) rfl rfl (by kernel_rfl) (by kernel_rfl) (by kernel_rfl) rfl rfl rfl (fun _ _ h => by obtain ⟨_, _, _, h, _⟩ := h; cases h) h36 ?_
              show AI _ _ _ _ _ #[true, true, true, true, true, true, true, true, true, true, false, false, false, false, false, false, false, false, false, false, false, false, false, false, false, false, false, false, false, false, false, false, false, false, false, false, false, false, false, false, false, false, false, false, false, false, false, false, false] _
              refine AI.gskip (i := 10) rfl rfl (by kernel_rfl) (by kernel_rfl) (by kernel_rfl) rfl rfl rfl (fun _ _ h => by obtain ⟨_, _, _, h, _⟩ := h; cases h) h36 ?_
              show AI _ _ _ _ _ #[true, true, true, true, true, true, true, true, true, true, true, false, false, false, false, false, false, false, false, false, false, false, false, false, false, false, false, false, false, false, false, false, false, false, false, false, false, false, false, false, false, false, false, false, false, false, false, false, false] _
              refine AI.take (i := 11) rfl rfl (by kernel_rfl) (by kernel_rfl) (by kernel_rfl) (fun _ _ h => by obtain ⟨_, _, _, h, _⟩ := h; cases h) (OpS.eq (av' := B ((decide (a2 < (x34.length : Int))) && (!decide ((x31.length : Int) = 1)))) (opS_pick_f (av := .v _) rfl h36 rfl) (B_congr (and_f h36))) ?_
              show AI _ _ _ _ _ #[true, true, true, true, true, true, true, true, true, true, true, true, false, false, false, false, false, false, false, false, false, false, false, false, false, false, false, false, false, false, false, false, false, false, false, false, false, false, false, false, false, false, false, false, false, false, false, false, false] _
              exact K11 _ 3 rfl rfl
          refine AI.take (i := 12) rfl rfl (by kernel_rfl) (by kernel_rfl) (by kernel_rfl) (fun _ _ h => by obtain ⟨_, _, _, h, _⟩ := h; cases h) (mv rfl) ?_
          show AI _ _ _ _ _ #[true, true, true, true, true, true, true, true, true, true, true, true, true, false, false, false, false, false, false, false, false, false, false, false, false, false, false, false, false, false, false, false, false, false, false, false, false, false, false, false, false, false, false, false, false, false, false, false, false] _
          refine AI.meet 12 #[true, true, true, true, true, true, true, true, true, true, true, true, true, true, true, true, true, true, true, true, true, true, true, true, true, true, true, true, true, true, true, true, true, true, true, true, true, false, false, false, false, false, false, false, false, false, false, false, false] 91 (B (((decide (a2 < (x34.length : Int))) && (!decide ((x31.length : Int) = 1))) || ((decide (0 < y24)) && ((decide ((x31.length : Int) = 0)) || (decide (((x42.length : Int) + 1) + (x46.length : Int) ≤ a2)))))) (fun K36 => ?_) ?_
          · refine AI.gsplit (t := 67) rfl (fun h37 => ?_) (fun h37 => ?_)
            ·
              refine AI.gskip (i := 13) rfl rfl (by kernel_rfl) (by kernel_rfl) (by kernel_rfl) rfl rfl rfl (fun _ _ h => by obtain ⟨_, _, _, h, _⟩ := h; cases h) h37 ?_
              show AI _ _ _ _ _ #[true, true, true, true, true, true, true, true, true, true, true, true, true, true, false, false, false, false, false, false, false, false, false, false, false, false, false, false, false, false, false, false, false, false, false, false, false, false, false, false, false, false, false, false, false, false, false, false, false] _
              refine AI.gskip (i := 14) rfl rfl (by kernel_rfl) (by kernel_rfl) (by kernel_rfl) rfl rfl rfl (fun _ _ h => by obtain ⟨_, _, _, h, _⟩ := h; cases h) h37 ?_
              show AI _ _ _ _ _ #[true, true, true, true, true, true, true, true, true, true, true, true, true, true, true, false, false, false, false, false, false, false, false, false, false, false, false, false, false, false, false, false, false, false, false, false, false, false, false, false, false, false, false, false, false, false, false, false, false] _
              refine AI.gskip (i := 15) rfl rfl (by kernel_rfl) (by kernel_rfl) (by kernel_rfl) rfl rfl rfl (fun _ _ h => by obtain ⟨_, _, _, h, _⟩ := h; cases h) h37 ?_
              show AI _ _ _ _ _ #[true, true, true, true, true, true, true, true, true, true, true, true, true, true, true, true, false, false, false, false, false, false, false, false, false, false, false, false, false, false, false, false, false, false, false, false, false, false, false, false, false, false, false, false, false, false, false, false, false] _
              refine AI.gskip_u (i := 16) rfl rfl (by kernel_rfl) (by kernel_rfl) (by kernel_rfl) rfl rfl rfl (fun _ _ h => by obtain ⟨_, _, _, h, _⟩ := h; cases h) ?_
              show AI _ _ _ _ _ #[true, true, true, true, true, true, true, true, true, true, true, true, true, true, true, true, true, false, false, false, false, false, false, false, false, false, false, false, false, false, false, false, false, false, false, false, false, false, false, false, false, false, false, false, false, false, false, false, false] _
              refine AI.gskip_u (i := 17) rfl rfl (by kernel_rfl) (by kernel_rfl) (by kernel_rfl) rfl rfl rfl (fun _ _ h => by obtain ⟨_, _, _, h, _⟩ := h; cases h) ?_
              show AI _ _ _ _ _ #[true, true, true, true, true, true, true, true, true, true, true, true, true, true, true, true, true, true, false, false, false, false, false, false, false, false, false, false, false, false, false, false, false, false, false, false, false, false, false, false, false, false, false, false, false, false, false, false, false] _
              refine AI.gskip_u (i := 18) rfl rfl (by kernel_rfl) (by kernel_rfl) (by kernel_rfl) rfl rfl rfl (fun _ _ h => by obtain ⟨_, _, _, h, _⟩ := h; cases h) ?_
              show AI _ _ _ _ _ #[true, true, true, true, true, true, true, true, true, true, true, true, true, true, true, true, true, true, true, false, false, false, false, false, false, false, false, false, false, false, false, false, false, false, false, false, false, false, false, false, false, false, false, false, false, false, false, false, false] _
              refine AI.gskip_u (i := 19) rfl rfl (by kernel_rfl) (by kernel_rfl) (by kernel_rfl) rfl rfl rfl (fun _ _ h => by obtain ⟨_, _, _, h, _⟩ := h; cases h) ?_
              show AI _ _ _ _ _ #[true, true, true, true, true, true, true, true, true, true, true, true, true, true, true, true, true, true, true, true, false, false, false, false, false, false, false, false, false, false, false, false, false, false, false, false, false, false, false, false, false, false, false, false, false, false, false, false, false] _
              refine AI.gskip_u (i := 20) rfl rfl (by kernel_rfl) (by kernel_rfl) (by kernel_rfl) rfl rfl rfl (fun _ _ h => by obtain ⟨_, _, _, h, _⟩ := h; cases h) ?_
              show AI _ _ _ _ _ #[true, true, true, true, true, true, true, true, true, true, true, true, true, true, true, true, true, true, true, true, true, false, false, false, false, false, false, false, false, false, false, false, false, false, false, false, false, false, false, false, false, false, false, false, false, false, false, false, false] _
              refine AI.gskip_u (i := 21) rfl rfl (by kernel_rfl) (by kernel_rfl) (by kernel_rfl) rfl rfl rfl (fun _ _ h => by obtain ⟨_, _, _, h, _⟩ := h; cases h) ?_
              show AI _ _ _ _ _ #[true, true, true, true, true, true, true, true, true, true, true, true, true, true, true, true, true, true, true, true, true, true, false, false, false, false, false, false, false, false, false, false, false, false, false, false, false, false, false, false, false, false, false, false, false, false, false, false, false] _
              refine AI.gskip_u (i := 22) rfl rfl (by kernel_rfl) (by kernel_rfl) (by kernel_rfl) rfl rfl rfl (fun _ _ h => by obtain ⟨_, _, _, h, _⟩ := h; cases h) ?_
              show AI _ _ _ _ _ #[true, true, true, true, true, true, true, true, true, true, true, true, true, true, true, true, true, true, true, true, true, true, true, false, false, false, false, false, false, false, false, false, false, false, false, false, false, false, false, false, false, false, false, false, false, false, false, false, false] _
              refine AI.gskip_u (i := 23) rfl rfl (by kernel_rfl) (by kernel_rfl) (by kernel_rfl) rfl rfl rfl (fun _ _ h => by obtain ⟨_, _, _, h, _⟩ := h; cases h) ?_
              show AI _ _ _ _ _ #[true, true, true, true, true, true, true, true, true, true, true, true, true, true, true, true, true, true, true, true, true, true, true, true, false, false, false, false, false, false, false, false, false, false, false, false, false, false, false, false, false, false, false, false, false, false, false, false, false] _
              refine AI.gskip_u (i := 24) rfl rfl (by kernel_rfl) (by kernel_rfl) (by kernel_rfl) rfl rfl rfl (fun _ _ h => by obtain ⟨_, _, _, h, _⟩ := h; cases h) ?_
              show AI _ _ _ _ _ #[true, true, true, true, true, true, true, true, true, true, true, true, true, true, true, true, true, true, true, true, true, true, true, true, true, false, false, false, false, false, false, false, false, false, false, false, false, false, false, false, false, false, false, false, false, false, false, false, false] _
              refine AI.gskip_u (i := 25) rfl rfl (by kernel_rfl) (by kernel_rfl) (by kernel_rfl) rfl rfl rfl (fun _ _ h => by obtain ⟨_, _, _, h, _⟩ := h; cases h) ?_
              show AI _ _ _ _ _ #[true, true, true, true, true, true, true, true, true, true, true, true, true, true, true, true, true, true, true, true, true, true, true, true, true, true, false, false, false, false, false, false, false, false, false, false, false, false, false, false, false, false, false, false, false, false, false, false, false] _
              refine AI.gskip_u (i := 26) rfl rfl (by kernel_rfl) (by kernel_rfl) (by kernel_rfl) rfl rfl rfl (fun _ _ h => by obtain ⟨_, _, _, h, _⟩ := h; cases h) ?_
              show AI _ _ _ _ _ #[true, true, true, true, true, true, true, true, true, true, true, true, true, true, true, true, true, true, true, true, true, true, true, true, true, true, true, false, false, false, false, false, false, false, false, false, false, false, false, false, false, false, false, false, false, false, false, false, false] _
              refine AI.gskip_u (i := 27) rfl rfl (by kernel_rfl) (by kernel_rfl) (by kernel_rfl) rfl rfl rfl (fun _ _ h => by obtain ⟨_, _, _, h, _⟩ := h; cases h) ?_
              show AI _ _ _ _ _ #[true, true, true, true, true, true, true, true, true, true, true, true, true, true, true, true, true, true, true, true, true, true, true, true, true, true, true, true, false, false, false, false, false, false, false, false, false, false, false, false, false, false, false, false, false, false, false, false, false] _
              refine AI.gskip_u (i := 28) rfl rfl (by kernel_rfl) (by kernel_rfl) (by kernel_rfl) rfl rfl rfl (fun _ _ h => by obtain ⟨_, _, _, h, _⟩ := h; cases h) ?_
              show AI _ _ _ _ _ #[true, true, true, true, true, true, true, true, true, true, true, true, true, true, true, true, true, true, true, true, true, true, true, true, true, true, true, true, true, false, false, false, false, false, false, false, false, false, false, false, false, false, false, false, false, false, false, false, false] _
              refine AI.gskip_u (i := 29) rfl rfl (by kernel_rfl) (by kernel_rfl) (by kernel_rfl) rfl rfl rfl (fun _ _ h => by obtain ⟨_, _, _, h, _⟩ := h; cases h) ?_
              show AI _ _ _ _ _ #[true, true, true, true, true, true, true, true, true, true, true, true, true, true, true, true, true, true, true, true, true, true, true, true, true, true, true, true, true, true, false, false, false, false, false, false, false, false, false, false, false, false, false, false, false, false, false, false, false] _
              refine AI.gskip_u (i := 30) rfl rfl (by kernel_rfl) (by kernel_rfl) (by kernel_rfl) rfl rfl rfl (fun _ _ h => by obtain ⟨_, _, _, h, _⟩ := h; cases h) ?_
              show AI _ _ _ _ _ #[true, true, true, true, true, true, true, true, true, true, true, true, true, true, true, true, true, true, true, true, true, true, true, true, true, true, true, true, true, true, true, false, false, false, false, false, false, false, false, false, false, false, false, false, false, false, false, false, false] _
              refine AI.gskip_u (i := 31) rfl rfl (by kernel_rfl) (by kernel_rfl) (by kernel_rfl) rfl rfl rfl (fun _ _ h => by obtain ⟨_, _, _, h, _⟩ := h; cases h) ?_
              show AI _ _ _ _ _ #[true, true, true, true, true, true, true, true, true, true, true, true, true, true, true, true, true, true, true, true, true, true, true, true, true, true, true, true, true, true, true, true, false, false, false, false, false, false, false, false, false, false, false, false, false, false, false, false, false] _
              refine AI.gskip_u (i := 32) rfl rfl (by kernel_rfl) (by kernel_rfl) (by kernel_rfl) rfl rfl rfl (fun _ _ h => by obtain ⟨_, _, _, h, _⟩ := h; cases h) ?_
              show AI _ _ _ _ _ #[true, true, true, true, true, true, true, true, true, true, true, true, true, true, true, true, true, true, true, true, true, true, true, true, true, true, true, true, true, true, true, true, true, false, false, false, false, false, false, false, false, false, false, false, false, false, false, false, false] _
              refine AI.gskip_u (i := 33) rfl rfl (by kernel_rfl) (by kernel_rfl) (by kernel_rfl) rfl rfl rfl (fun _ _ h => by obtain ⟨_, _, _, h, _⟩ := h; cases h) ?_
              show AI _ _ _ _ _ #[true, true, true, true, true, true, true, true, true, true, true, true, true, true, true, true, true, true, true, true, true, true, true, true, true, true, true, true, true, true, true, true, true, true, false, false, false, false, false, false, false, false, false, false, false, false, false, false, false] _
              refine AI.gskip_u (i := 34) rfl rfl (by kernel_rfl) (by kernel_rfl) (by kernel_rfl) rfl rfl rfl (fun _ _ h => by obtain ⟨_, _, _, h, _⟩ := h; cases h) ?_
              show AI _ _ _ _ _ #[true, true, true, true, true, true, true, true, true, true, true, true, true, true, true, true, true, true, true, true, true, true, true, true, true, true, true, true, true, true, true, true, true, true, true, false, false, false, false, false, false, false, false, false, false, false, false, false, false] _
              refine AI.gskip (i := 35) rfl rfl (by kernel_rfl) (by kernel_rfl) (by kernel_rfl) rfl rfl rfl (fun _ _ h => by obtain ⟨_, _, _, h, _⟩ := h; cases h) h37 ?_
              show AI _ _ _ _ _ #[true, true, true, true, true, true, true, true, true, true, true, true, true, true, true, true, true, true, true, true, true, true, true, true, true, true, true, true, true, true, true, true, true, true, true, true, false, false, false, false, false, false, false, false, false, false, false, false, false] _
              refine AI.take (i := 36) rfl rfl (by kernel_rfl) (by kernel_rfl) (by kernel_rfl) (fun _ _ h => by obtain ⟨_, _, _, h, _⟩ := h; cases h) (OpS.eq (av' := B (((decide (a2 < (x34.length : Int))) && (!decide ((x31.length : Int) = 1))) || ((decide (0 < y24)) && ((decide ((x31.length : Int) = 0)) || (decide (((x42.length : Int) + 1) + (x46.length : Int) ≤ a2)))))) (opS_pick_t (av := .v _) rfl h37 rfl) (B_congr (or_t h37))) ?_
              show AI _ _ _ _ _ #[true, true, true, true, true, true, true, true, true, true, true, true, true, true, true, true, true, true, true, true, true, true, true, true, true, true, true, true, true, true, true, true, true, true, true, true, true, false, false, false, false, false, false, false, false, false, false, false, false] _
              exact K36 _ 23 rfl rfl
            ·
              refine AI.gtake (i := 13) rfl rfl (by kernel_rfl) (by kernel_rfl) (by kernel_rfl) rfl rfl rfl (fun _ _ h => by obtain ⟨_, _, _, h, _⟩ := h; cases h) h37 (mv rfl) ?_
              show AI _ _ _ _ _ #[true, true, true, true, true, true, true, true, true, true, true, true, true, true, false, false, false, false, false, false, false, false, false, false, false, false, false, false, false, false, false, false, false, false, false, false, false, false, false, false, false, false, false, false, false, false, false, false, false] _
              refine AI.gtake (i := 14) rfl rfl (by kernel_rfl) (by kernel_rfl) (by kernel_rfl) rfl rfl rfl (fun _ _ h => by obtain ⟨_, _, _, h, _⟩ := h; cases h) h37 (opS_gt rfl rfl) ?_
              show AI _ _ _ _ _ #[true, true, true, true, true, true, true, true, true, true, true, true, true, true, true, false, false, false, false, false, false, false, false, false, false, false, false, false, false, false, false, false, false, false, false, false, false, false, false, false, false, false, false, false, false, false, false, false, false] _
              refine AI.gtake (i := 15) rfl rfl (by kernel_rfl) (by kernel_rfl) (by kernel_rfl) rfl rfl rfl (fun _ _ h => by obtain ⟨_, _, _, h, _⟩ := h; cases h) h37 (mv rfl) ?_
              show AI _ _ _ _ _ #[true, true, true, true, true, true, true, true, true, true, true, true, true, true, true, true, false, false, false, false, false, false, false, false, false, false, false, false, false, false, false, false, false, false, false, false, false, false, false, false, false, false, false, false, false, false, false, false, false] _
              refine AI.meet 13 #[true, true, true, true, true, true, true, true, true, true, true, true, true, true, true, true, true, true, true, true, true, true, true, true, true, true, true, true, true, true, true, true, true, true, true, true, false, false, false, false, false, false, false, false, false, false, false, false, false] 90 (B ((decide (0 < y24)) && ((decide ((x31.length : Int) = 0)) || (decide (((x42.length : Int) + 1) + (x46.length : Int) ≤ a2))))) (fun K35 => ?_) ?_
              · refine AI.gsplit (t := 70) rfl (fun h38 => ?_) (fun h38 => ?_)
                ·
                  refine AI.gtake (i := 16) rfl rfl (by kernel_rfl) (by kernel_rfl) (by kernel_rfl) rfl rfl rfl (fun _ _ h => by obtain ⟨_, _, _, h, _⟩ := h; cases h) h38 (opS_move (av := slE _ _ _) rfl) ?_
                  show AI _ _ _ _ _ #[true, true, true, true, true, true, true, true, true, true, true, true, true, true, true, true, true, false, false, false, false, false, false, false, false, false, false, false, false, false, false, false, false, false, false, false, false, false, false, false, false, false, false, false, false, false, false, false, false] _
                  refine AI.gtake (i := 17) rfl rfl (by kernel_rfl) (by kernel_rfl) (by kernel_rfl) rfl rfl rfl (fun _ _ h => by obtain ⟨_, _, _, h, _⟩ := h; cases h) h38 (opS_len_sl Tryd.underlying25 rfl) ?_
                  show AI _ _ _ _ _ #[true, true, true, true, true, true, true, true, true, true, true, true, true, true, true, true, true, true, false, false, false, false, false, false, false, false, false, false, false, false, false, false, false, false, false, false, false, false, false, false, false, false, false, false, false, false, false, false, false] _
                  refine AI.gtake (i := 18) rfl rfl (by kernel_rfl) (by kernel_rfl) (by kernel_rfl) rfl rfl rfl (fun _ _ h => by obtain ⟨_, _, _, h, _⟩ := h; cases h) h38 (opS_eqi rfl rfl) ?_
                  show AI _ _ _ _ _ #[true, true, true, true, true, true, true, true, true, true, true, true, true, true, true, true, true, true, true, false, false, false, false, false, false, false, false, false, false, false, false, false, false, false, false, false, false, false, false, false, false, false, false, false, false, false, false, false, false] _
                  refine AI.gtake (i := 19) rfl rfl (by kernel_rfl) (by kernel_rfl) (by kernel_rfl) rfl rfl rfl (fun _ _ h => by obtain ⟨_, _, _, h, _⟩ := h; cases h) h38 (mv rfl) ?_
                  show AI _ _ _ _ _ #[true, true, true, true, true, true, true, true, true, true, true, true, true, true, true, true, true, true, true, true, false, false, false, false, false, false, false, false, false, false, false, false, false, false, false, false, false, false, false, false, false, false, false, false, false, false, false, false, false] _
                  refine AI.meet 14 #[true, true, true, true, true, true, true, true, true, true, true, true, true, true, true, true, true, true, true, true, true, true, true, true, true, true, true, true, true, true, true, true, true, true, true, false, false, false, false, false, false, false, false, false, false, false, false, false, false] 89 (B ((decide ((x31.length : Int) = 0)) || (decide (((x42.length : Int) + 1) + (x46.length : Int) ≤ a2)))) (fun K34 => ?_) ?_
                  · refine AI.gsplit (t := 74) rfl (fun h39 => ?_) (fun h39 => ?_)
                    ·
                      refine AI.gskip (i := 20) rfl rfl (by kernel_rfl) (by kernel_rfl) (by kernel_rfl) rfl rfl rfl (fun _ _ h => by obtain ⟨_, _, _, h, _⟩ := h; cases h) h39 ?_
                      show AI _ _ _ _ _ #[true, true, true, true, true, true, true, true, true, true, true, true, true, true, true, true, true, true, true, true, true, false, false, false, false, false, false, false, false, false, false, false, false, false, false, false, false, false, false, false, false, false, false, false, false, false, false, false, false] _
                      refine AI.gskip (i := 21) rfl rfl (by kernel_rfl) (by kernel_rfl) (by kernel_rfl) rfl rfl rfl (fun _ _ h => by obtain ⟨_, _, _, h, _⟩ := h; cases h) h39 ?_
                      show AI _ _ _ _ _ #[true, true, true, true, true, true, true, true, true, true, true, true, true, true, true, true, true, true, true, true, true, true, false, false, false, false, false, false, false, false, false, false, false, false, false, false, false, false, false, false, false, false, false, false, false, false, false, false, false] _
                      refine AI.gskip (i := 22) rfl rfl (by kernel_rfl) (by kernel_rfl) (by kernel_rfl) rfl rfl rfl (fun _ _ h => by obtain ⟨_, _, _, h, _⟩ := h; cases h) h39 ?_
                      show AI _ _ _ _ _ #[true, true, true, true, true, true, true, true, true, true, true, true, true, true, true, true, true, true, true, true, true, true, true, false, false, false, false, false, false, false, false, false, false, false, false, false, false, false, false, false, false, false, false, false, false, false, false, false, false] _
                      refine AI.gskip (i := 23) rfl rfl (by kernel_rfl) (by kernel_rfl) (by kernel_rfl) rfl rfl rfl (fun _ _ h => by obtain ⟨_, _, _, h, _⟩ := h; cases h) h39 ?_
                      show AI _ _ _ _ _ #[true, true, true, true, true, true, true, true, true, true, true, true, true, true, true, true, true, true, true, true, true, true, true, true, false, false, false, false, false, false, false, false, false, false, false, false, false, false, false, false, false, false, false, false, false, false, false, false, false] _
                      refine AI.gskip (i := 24) rfl rfl (by kernel_rfl) (by kernel_rfl) (by kernel_rfl) rfl rfl rfl (fun _ _ h => by obtain ⟨_, _, _, h, _⟩ := h; cases h) h39 ?_
                      show AI _ _ _ _ _ #[true, true, true, true, true, true, true, true, true, true, true, true, true, true, true, true, true, true, true, true, true, true, true, true, true, false, false, false, false, false, false, false, false, false, false, false, false, false, false, false, false, false, false, false, false, false, false, false, false] _
                      refine AI.gskip (i := 25) rfl rfl (by kernel_rfl) (by kernel_rfl) (by kernel_rfl) rfl rfl rfl (fun _ _ h => by obtain ⟨_, _, _, h, _⟩ := h; cases h) h39 ?_
                      show AI _ _ _ _ _ #[true, true, true, true, true, true, true, true, true, true, true, true, true, true, true, true, true, true, true, true, true, true, true, true, true, true, false, false, false, false, false, false, false, false, false, false, false, false, false, false, false, false, false, false, false, false, false, false, false] _
                      refine AI.gskip (i := 26) rfl rfl (by kernel_rfl) (by kernel_rfl) (by kernel_rfl) rfl rfl rfl (fun _ _ h => by obtain ⟨_, _, _, h, _⟩ := h; cases h) h39 ?_
                      show AI _ _ _ _ _ #[true, true, true, true, true, true, true, true, true, true, true, true, true, true, true, true, true, true, true, true, true, true, true, true, true, true, true, false, false, false, false, false, false, false, false, false, false, false, false, false, false, false, false, false, false, false, false, false, false] _
                      refine AI.gskip (i := 27) rfl rfl (by kernel_rfl) (by kernel_rfl) (by kernel_rfl) rfl rfl rfl (fun _ _ h => by obtain ⟨_, _, _, h, _⟩ := h; cases h) h39 ?_
                      show AI _ _ _ _ _ #[true, true, true, true, true, true, true, true, true, true, true, true, true, true, true, true, true, true, true, true, true, true, true, true, true, true, true, true, false, false, false, false, false, false, false, false, false, false, false, false, false, false, false, false, false, false, false, false, false] _
                      refine AI.gskip (i := 28) rfl rfl (by kernel_rfl) (by kernel_rfl) (by kernel_rfl) rfl rfl rfl (fun _ _ h => by obtain ⟨_, _, _, h, _⟩ := h; cases h) h39 ?_
                      show AI _ _ _ _ _ #[true, true, true, true, true, true, true, true, true, true, true, true, true, true, true, true, true, true, true, true, true, true, true, true, true, true, true, true, true, false, false, false, false, false, false, false, false, false, false, false, false, false, false, false, false, false, false, false, false] _
                      refine AI.gskip (i := 29) rfl rfl (by kernel_rfl) (by kernel_rfl) (by kernel_rfl) rfl rfl rfl (fun _ _ h => by obtain ⟨_, _, _, h, _⟩ := h; cases h) h39 ?_
                      show AI _ _ _ _ _ #[true, true, true, true, true, true, true, true, true, true, true, true, true, true, true, true, true, true, true, true, true, true, true, true, true, true, true, true, true, true, false, false, false, false, false, false, false, false, false, false, false, false, false, false, false, false, false, false, false] _
                      refine AI.gskip (i := 30) rfl rfl (by kernel_rfl) (by kernel_rfl) (by kernel_rfl) rfl rfl rfl (fun _ _ h => by obtain ⟨_, _, _, h, _⟩ := h; cases h) h39 ?_
                      show AI _ _ _ _ _ #[true, true, true, true, true, true, true, true, true, true, true, true, true, true, true, true, true, true, true, true, true, true, true, true, true, true, true, true, true, true, true, false, false, false, false, false, false, false, false, false, false, false, false, false, false, false, false, false, false] _
                      refine AI.gskip (i := 31) rfl rfl (by kernel_rfl) (by kernel_rfl) (by kernel_rfl) rfl rfl rfl (fun _ _ h => by obtain ⟨_, _, _, h, _⟩ := h; cases h) h39 ?_
                      show AI _ _ _ _ _ #[true, true, true, true, true, true, true, true, true, true, true, true, true, true, true, true, true, true, true, true, true, true, true, true, true, true, true, true, true, true, true, true, false, false, false, false, false, false, false, false, false, false, false, false, false, false, false, false, false] _
                      refine AI.gskip (i := 32) rfl rfl (by kernel_rfl) (by kernel_rfl) (by kernel_rfl) rfl rfl rfl (fun _ _ h => by obtain ⟨_, _, _, h, _⟩ := h; cases h) h39 ?_
                      show AI _ _ _ _ _ #[true, true, true, true, true, true, true, true, true, true, true, true, true, true, true, true, true, true, true, true, true, true, true, true, true, true, true, true, true, true, true, true, true, false, false, false, false, false, false, false, false, false, false, false, false, false, false, false, false] _
                      refine AI.gskip (i := 33) rfl rfl (by kernel_rfl) (by kernel_rfl) (by kernel_rfl) rfl rfl rfl (fun _ _ h => by obtain ⟨_, _, _, h, _⟩ := h; cases h) h39 ?_
                      show AI _ _ _ _ _ #[true, true, true, true, true, true, true, true, true, true, true, true, true, true, true, true, true, true, true, true, true, true, true, true, true, true, true, true, true, true, true, true, true, true, false, false, false, false, false, false, false, false, false, false, false, false, false, false, false] _
                      refine AI.gtake (i := 34) rfl rfl (by kernel_rfl) (by kernel_rfl) (by kernel_rfl) rfl rfl rfl (fun _ _ h => by obtain ⟨_, _, _, h, _⟩ := h; cases h) h38 (OpS.eq (av' := B ((decide ((x31.length : Int) = 0)) || (decide (((x42.length : Int) + 1) + (x46.length : Int) ≤ a2)))) (opS_pick_t (av := .v _) rfl h39 rfl) (B_congr (or_t h39))) ?_
                      show AI _ _ _ _ _ #[true, true, true, true, true, true, true, true, true, true, true, true, true, true, true, true, true, true, true, true, true, true, true, true, true, true, true, true, true, true, true, true, true, true, true, false, false, false, false, false, false, false, false, false, false, false, false, false, false] _
                      exact K34 _ 14 rfl rfl
                    ·
                      refine AI.gtake (i := 20) rfl rfl (by kernel_rfl) (by kernel_rfl) (by kernel_rfl) rfl rfl rfl (fun _ _ h => by obtain ⟨_, _, _, h, _⟩ := h; cases h) h39 (opS_move (av := slE _ _ _) rfl) ?_
                      show AI _ _ _ _ _ #[true, true, true, true, true, true, true, true, true, true, true, true, true, true, true, true, true, true, true, true, true, false, false, false, false, false, false, false, false, false, false, false, false, false, false, false, false, false, false, false, false, false, false, false, false, false, false, false, false] _
                      refine AI.gtake (i := 21) rfl rfl (by kernel_rfl) (by kernel_rfl) (by kernel_rfl) rfl rfl rfl (fun _ _ h => by obtain ⟨_, _, _, h, _⟩ := h; cases h) h39 (mv rfl) ?_
                      show AI _ _ _ _ _ #[true, true, true, true, true, true, true, true, true, true, true, true, true, true, true, true, true, true, true, true, true, true, false, false, false, false, false, false, false, false, false, false, false, false, false, false, false, false, false, false, false, false, false, false, false, false, false, false, false] _
                      refine AI.gtake (i := 22) rfl rfl (by kernel_rfl) (by kernel_rfl) (by kernel_rfl) rfl rfl rfl (fun _ _ h => by obtain ⟨_, _, _, h, _⟩ := h; cases h) h39 (g_sub rfl rfl (g40 (and_tt (and_tt (nf h37) h38) (nf h39)))) ?_
                      show AI _ _ _ _ _ #[true, true, true, true, true, true, true, true, true, true, true, true, true, true, true, true, true, true, true, true, true, true, true, false, false, false, false, false, false, false, false, false, false, false, false, false, false, false, false, false, false, false, false, false, false, false, false, false, false] _
                      refine AI.gtake (i := 23) rfl rfl (by kernel_rfl) (by kernel_rfl) (by kernel_rfl) rfl rfl rfl (fun _ _ h => by obtain ⟨_, _, _, h, _⟩ := h; cases h) h39 (g_indexAddr (E := Enc.str) Tryd.underlying25 (by kernel_rfl) rfl rfl (g41 (and_tt (and_tt (nf h37) h38) (nf h39))) e43) ?_
                      show AI _ _ _ _ _ #[true, true, true, true, true, true, true, true, true, true, true, true, true, true, true, true, true, true, true, true, true, true, true, true, false, false, false, false, false, false, false, false, false, false, false, false, false, false, false, false, false, false, false, false, false, false, false, false, false] _
                      refine AI.gtake (i := 24) rfl rfl (by kernel_rfl) (by kernel_rfl) (by kernel_rfl) rfl rfl rfl (fun _ _ h => by obtain ⟨_, _, _, h, _⟩ := h; cases h) h39 (opS_load_cp Tryd.underlying9 rfl rfl) ?_
                      show AI _ _ _ _ _ #[true, true, true, true, true, true, true, true, true, true, true, true, true, true, true, true, true, true, true, true, true, true, true, true, true, false, false, false, false, false, false, false, false, false, false, false, false, false, false, false, false, false, false, false, false, false, false, false, false] _
                      refine AI.gtake (i := 25) rfl rfl (by kernel_rfl) (by kernel_rfl) (by kernel_rfl) rfl rfl rfl (fun _ _ h => by obtain ⟨_, _, _, h, _⟩ := h; cases h) h39 (opS_len_str Tryd.underlying9 rfl) ?_
                      show AI _ _ _ _ _ #[true, true, true, true, true, true, true, true, true, true, true, true, true, true, true, true, true, true, true, true, true, true, true, true, true, true, false, false, false, false, false, false, false, false, false, false, false, false, false, false, false, false, false, false, false, false, false, false, false] _
                      refine AI.gtake (i := 26) rfl rfl (by kernel_rfl) (by kernel_rfl) (by kernel_rfl) rfl rfl rfl (fun _ _ h => by obtain ⟨_, _, _, h, _⟩ := h; cases h) h39 (g_add rfl rfl (g44 (and_tt (and_tt (nf h37) h38) (nf h39)))) ?_
                      show AI _ _ _ _ _ #[true, true, true, true, true, true, true, true, true, true, true, true, true, true, true, true, true, true, true, true, true, true, true, true, true, true, true, false, false, false, false, false, false, false, false, false, false, false, false, false, false, false, false, false, false, false, false, false, false] _
                      refine AI.gtake (i := 27) rfl rfl (by kernel_rfl) (by kernel_rfl) (by kernel_rfl) rfl rfl rfl (fun _ _ h => by obtain ⟨_, _, _, h, _⟩ := h; cases h) h39 (opS_move (av := slE _ _ _) rfl) ?_
                      show AI _ _ _ _ _ #[true, true, true, true, true, true, true, true, true, true, true, true, true, true, true, true, true, true, true, true, true, true, true, true, true, true, true, true, false, false, false, false, false, false, false, false, false, false, false, false, false, false, false, false, false, false, false, false, false] _
                      refine AI.gtake (i := 28) rfl rfl (by kernel_rfl) (by kernel_rfl) (by kernel_rfl) rfl rfl rfl (fun _ _ h => by obtain ⟨_, _, _, h, _⟩ := h; cases h) h39 (g_indexAddr (E := Enc.str) Tryd.underlying25 (by kernel_rfl) rfl rfl (g45 (and_tt (and_tt (nf h37) h38) (nf h39))) e47) ?_
                      show AI _ _ _ _ _ #[true, true, true, true, true, true, true, true, true, true, true, true, true, true, true, true, true, true, true, true, true, true, true, true, true, true, true, true, true, false, false, false, false, false, false, false, false, false, false, false, false, false, false, false, false, false, false, false, false] _
                      refine AI.gtake (i := 29) rfl rfl (by kernel_rfl) (by kernel_rfl) (by kernel_rfl) rfl rfl rfl (fun _ _ h => by obtain ⟨_, _, _, h, _⟩ := h; cases h) h39 (opS_load_cp Tryd.underlying9 rfl rfl) ?_
                      show AI _ _ _ _ _ #[true, true, true, true, true, true, true, true, true, true, true, true, true, true, true, true, true, true, true, true, true, true, true, true, true, true, true, true, true, true, false, false, false, false, false, false, false, false, false, false, false, false, false, false, false, false, false, false, false] _
                      refine AI.gtake (i := 30) rfl rfl (by kernel_rfl) (by kernel_rfl) (by kernel_rfl) rfl rfl rfl (fun _ _ h => by obtain ⟨_, _, _, h, _⟩ := h; cases h) h39 (opS_len_str Tryd.underlying9 rfl) ?_
                      show AI _ _ _ _ _ #[true, true, true, true, true, true, true, true, true, true, true, true, true, true, true, true, true, true, true, true, true, true, true, true, true, true, true, true, true, true, true, false, false, false, false, false, false, false, false, false, false, false, false, false, false, false, false, false, false] _
                      refine AI.gtake (i := 31) rfl rfl (by kernel_rfl) (by kernel_rfl) (by kernel_rfl) rfl rfl rfl (fun _ _ h => by obtain ⟨_, _, _, h, _⟩ := h; cases h) h39 (g_add rfl rfl (g48 (and_tt (and_tt (nf h37) h38) (nf h39)))) ?_
                      show AI _ _ _ _ _ #[true, true, true, true, true, true, true, true, true, true, true, true, true, true, true, true, true, true, true, true, true, true, true, true, true, true, true, true, true, true, true, true, false, false, false, false, false, false, false, false, false, false, false, false, false, false, false, false, false] _
                      refine AI.gtake (i := 32) rfl rfl (by kernel_rfl) (by kernel_rfl) (by kernel_rfl) rfl rfl rfl (fun _ _ h => by obtain ⟨_, _, _, h, _⟩ := h; cases h) h39 (mv rfl) ?_
                      show AI _ _ _ _ _ #[true, true, true, true, true, true, true, true, true, true, true, true, true, true, true, true, true, true, true, true, true, true, true, true, true, true, true, true, true, true, true, true, true, false, false, false, false, false, false, false, false, false, false, false, false, false, false, false, false] _
                      refine AI.gtake (i := 33) rfl rfl (by kernel_rfl) (by kernel_rfl) (by kernel_rfl) rfl rfl rfl (fun _ _ h => by obtain ⟨_, _, _, h, _⟩ := h; cases h) h39 (opS_le rfl rfl) ?_
                      show AI _ _ _ _ _ #[true, true, true, true, true, true, true, true, true, true, true, true, true, true, true, true, true, true, true, true, true, true, true, true, true, true, true, true, true, true, true, true, true, true, false, false, false, false, false, false, false, false, false, false, false, false, false, false, false] _
                      refine AI.gtake (i := 34) rfl rfl (by kernel_rfl) (by kernel_rfl) (by kernel_rfl) rfl rfl rfl (fun _ _ h => by obtain ⟨_, _, _, h, _⟩ := h; cases h) h38 (OpS.eq (av' := B ((decide ((x31.length : Int) = 0)) || (decide (((x42.length : Int) + 1) + (x46.length : Int) ≤ a2)))) (opS_pick_f (av := .v _) rfl h39 rfl) (B_congr (or_f h39))) ?_
                      show AI _ _ _ _ _ #[true, true, true, true, true, true, true, true, true, true, true, true, true, true, true, true, true, true, true, true, true, true, true, true, true, true, true, true, true, true, true, true, true, true, true, false, false, false, false, false, false, false, false, false, false, false, false, false, false] _
                      exact K34 _ 14 rfl rfl
                  refine AI.gtake (i := 35) rfl rfl (by kernel_rfl) (by kernel_rfl) (by kernel_rfl) rfl rfl rfl (fun _ _ h => by obtain ⟨_, _, _, h, _⟩ := h; cases h) h37 (OpS.eq (av' := B ((decide (0 < y24)) && ((decide ((x31.length : Int) = 0)) || (decide (((x42.length : Int) + 1) + (x46.length : Int) ≤ a2))))) (opS_pick_t (av := .v _) rfl h38 rfl) (B_congr (and_t h38))) ?_
                  show AI _ _ _ _ _ #[true, true, true, true, true, true, true, true, true, true, true, true, true, true, true, true, true, true, true, true, true, true, true, true, true, true, true, true, true, true, true, true, true, true, true, true, false, false, false, false, false, false, false, false, false, false, false, false, false] _
                  exact K35 _ 5 rfl rfl
                ·
                  refine AI.gskip (i := 16) rfl rfl (by kernel_rfl) (by kernel_rfl) (by kernel_rfl) rfl rfl rfl (fun _ _ h => by obtain ⟨_, _, _, h, _⟩ := h; cases h) h38 ?_
                  show AI _ _ _ _ _ #[true, true, true, true, true, true, true, true, true, true, true, true, true, true, true, true, true, false, false, false, false, false, false, false, false, false, false, false, false, false, false, false, false, false, false, false, false, false, false, false, false, false, false, false, false, false, false, false, false] _
                  refine AI.gskip (i := 17) rfl rfl (by kernel_rfl) (by kernel_rfl) (by kernel_rfl) rfl rfl rfl (fun _ _ h => by obtain ⟨_, _, _, h, _⟩ := h; cases h) h38 ?_
                  show AI _ _ _ _ _ #[true, true, true, true, true, true, true, true, true, true, true, true, true, true, true, true, true, true, false, false, false, false, false, false, false, false, false, false, false, false, false, false, false, false, false, false, false, false, false, false, false, false, false, false, false, false, false, false, false] _
                  refine AI.gskip (i := 18) rfl rfl (by kernel_rfl) (by kernel_rfl) (by kernel_rfl) rfl rfl rfl (fun _ _ h => by obtain ⟨_, _, _, h, _⟩ := h; cases h) h38 ?_
                  show AI _ _ _ _ _ #[true, true, true, true, true, true, true, true, true, true, true, true, true, true, true, true, true, true, true, false, false, false, false, false, false, false, false, false, false, false, false, false, false, false, false, false, false, false, false, false, false, false, false, false, false, false, false, false, false] _
                  refine AI.gskip (i := 19) rfl rfl (by kernel_rfl) (by kernel_rfl) (by kernel_rfl) rfl rfl rfl (fun _ _ h => by obtain ⟨_, _, _, h, _⟩ := h; cases h) h38 ?_
                  show AI _ _ _ _ _ #[true, true, true, true, true, true, true, true, true, true, true, true, true, true, true, true, true, true, true, true, false, false, false, false, false, false, false, false, false, false, false, false, false, false, false, false, false, false, false, false, false, false, false, false, false, false, false, false, false] _
                  refine AI.gskip_u (i := 20) rfl rfl (by kernel_rfl) (by kernel_rfl) (by kernel_rfl) rfl rfl rfl (fun _ _ h => by obtain ⟨_, _, _, h, _⟩ := h; cases h) ?_
                  show AI _ _ _ _ _ #[true, true, true, true, true, true, true, true, true, true, true, true, true, true, true, true, true, true, true, true, true, false, false, false, false, false, false, false, false, false, false, false, false, false, false, false, false, false, false, false, false, false, false, false, false, false, false, false, false] _
                  refine AI.gskip_u (i := 21) rfl rfl (by kernel_rfl) (by kernel_rfl) (by kernel_rfl) rfl rfl rfl (fun _ _ h => by obtain ⟨_, _, _, h, _⟩ := h; cases h) ?_
                  show AI _ _ _ _ _ #[true, true, true, true, true, true, true, true, true, true, true, true, true, true, true, true, true, true, true, true, true, true, false, false, false, false, false, false, false, false, false, false, false, false, false, false, false, false, false, false, false, false, false, false, false, false, false, false, false] _
                  refine AI.gskip_u (i := 22) rfl rfl (by kernel_rfl) (by kernel_rfl) (by kernel_rfl) rfl rfl rfl (fun _ _ h => by obtain ⟨_, _, _, h, _⟩ := h; cases h) ?_
                  show AI _ _ _ _ _ #[true, true, true, true, true, true, true, true, true, true, true, true, true, true, true, true, true, true, true, true, true, true, true, false, false, false, false, false, false, false, false, false, false, false, false, false, false, false, false, false, false, false, false, false, false, false, false, false, false] _
                  refine AI.gskip_u (i := 23) rfl rfl (by kernel_rfl) (by kernel_rfl) (by kernel_rfl) rfl rfl rfl (fun _ _ h => by obtain ⟨_, _, _, h, _⟩ := h; cases h) ?_
                  show AI _ _ _ _ _ #[true, true, true, true, true, true, true, true, true, true, true, true, true, true, true, true, true, true, true, true, true, true, true, true, false, false, false, false, false, false, false, false, false, false, false, false, false, false, false, false, false, false, false, false, false, false, false, false, false] _
                  refine AI.gskip_u (i := 24) rfl rfl (by kernel_rfl) (by kernel_rfl) (by kernel_rfl) rfl rfl rfl (fun _ _ h => by obtain ⟨_, _, _, h, _⟩ := h; cases h) ?_
                  show AI _ _ _ _ _ #[true, true, true, true, true, true, true, true, true, true, true, true, true, true, true, true, true, true, true, true, true, true, true, true, true, false, false, false, false, false, false, false, false, false, false, false, false, false, false, false, false, false, false, false, false, false, false, false, false] _
                  refine AI.gskip_u (i := 25) rfl rfl (by kernel_rfl) (by kernel_rfl) (by kernel_rfl) rfl rfl rfl (fun _ _ h => by obtain ⟨_, _, _, h, _⟩ := h; cases h) ?_
                  show AI _ _ _ _ _ #[true, true, true, true, true, true, true, true, true, true, true, true, true, true, true, true, true, true, true, true, true, true, true, true, true, true, false, false, false, false, false, false, false, false, false, false, false, false, false, false, false, false, false, false, false, false, false, false, false] _
                  refine AI.gskip_u (i := 26) rfl rfl (by kernel_rfl) (by kernel_rfl) (by kernel_rfl) rfl rfl rfl (fun _ _ h => by obtain ⟨_, _, _, h, _⟩ := h; cases h) ?_
                  show AI _ _ _ _ _ #[true, true, true, true, true, true, true, true, true, true, true, true, true, true, true, true, true, true, true, true, true, true, true, true, true, true, true, false, false, false, false, false, false, false, false, false, false, false, false, false, false, false, false, false, false, false, false, false, false] _
                  refine AI.gskip_u (i := 27) rfl rfl (by kernel_rfl) (by kernel_rfl) (by kernel_rfl) rfl rfl rfl (fun _ _ h => by obtain ⟨_, _, _, h, _⟩ := h; cases h) ?_
                  show AI _ _ _ _ _ #[true, true, true, true, true, true, true, true, true, true, true, true, true, true, true, true, true, true, true, true, true, true, true, true, true, true, true, true, false, false, false, false, false, false, false, false, false, false, false, false, false, false, false, false, false, false, false, false, false] _
                  refine AI.gskip_u (i := 28) rfl rfl (by kernel_rfl) (by kernel_rfl) (by kernel_rfl) rfl rfl rfl (fun _ _ h => by obtain ⟨_, _, _, h, _⟩ := h; cases h) ?_
                  show AI _ _ _ _ _ #[true, true, true, true, true, true, true, true, true, true, true, true, true, true, true, true, true, true, true, true, true, true, true, true, true, true, true, true, true, false, false, false, false, false, false, false, false, false, false, false, false, false, false, false, false, false, false, false, false] _
                  refine AI.gskip_u (i := 29) rfl rfl (by kernel_rfl) (by kernel_rfl) (by kernel_rfl) rfl rfl rfl (fun _ _ h => by obtain ⟨_, _, _, h, _⟩ := h; cases h) ?_
                  show AI _ _ _ _ _ #[true, true, true, true, true, true, true, true, true, true, true, true, true, true, true, true, true, true, true, true, true, true, true, true, true, true, true, true, true, true, false, false, false, false, false, false, false, false, false, false, false, false, false, false, false, false, false, false, false] _
                  refine AI.gskip_u (i := 30) rfl rfl (by kernel_rfl) (by kernel_rfl) (by kernel_rfl) rfl rfl rfl (fun _ _ h => by obtain ⟨_, _, _, h, _⟩ := h; cases h) ?_
                  show AI _ _ _ _ _ #[true, true, true, true, true, true, true, true, true, true, true, true, true, true, true, true, true, true, true, true, true, true, true, true, true, true, true, true, true, true, true, false, false, false, false, false, false, false, false, false, false, false, false, false, false, false, false, false, false] _
                  refine AI.gskip_u (i := 31) rfl rfl (by kernel_rfl) (by kernel_rfl) (by kernel_rfl) rfl rfl rfl (fun _ _ h => by obtain ⟨_, _, _, h, _⟩ := h; cases h) ?_
                  show AI _ _ _ _ _ #[true, true, true, true, true, true, true, true, true, true, true, true, true, true, true, true, true, true, true, true, true, true, true, true, true, true, true, true, true, true, true, true, false, false, false, false, false, false, false, false, false, false, false, false, false, false, false, false, false] _
                  refine AI.gskip_u (i := 32) rfl rfl (by kernel_rfl) (by kernel_rfl) (by kernel_rfl) rfl rfl rfl (fun _ _ h => by obtain ⟨_, _, _, h, _⟩ := h; cases h) ?_
                  show AI _ _ _ _ _ #[true, true, true, true, true, true, true, true, true, true, true, true, true, true, true, true, true, true, true, true, true, true, true, true, true, true, true, true, true, true, true, true, true, false, false, false, false, false, false, false, false, false, false, false, false, false, false, false, false] _
                  refine AI.gskip_u (i := 33) rfl rfl (by kernel_rfl) (by kernel_rfl) (by kernel_rfl) rfl rfl rfl (fun _ _ h => by obtain ⟨_, _, _, h, _⟩ := h; cases h) ?_
                  show AI _ _ _ _ _ #[true, true, true, true, true, true, true, true, true, true, true, true, true, true, true, true, true, true, true, true, true, true, true, true, true, true, true, true, true, true, true, true, true, true, false, false, false, false, false, false, false, false, false, false, false, false, false, false, false] _
                  refine AI.gskip (i := 34) rfl rfl (by kernel_rfl) (by kernel_rfl) (by kernel_rfl) rfl rfl rfl (fun _ _ h => by obtain ⟨_, _, _, h, _⟩ := h; cases h) h38 ?_
                  show AI _ _ _ _ _ #[true, true, true, true, true, true, true, true, true, true, true, true, true, true, true, true, true, true, true, true, true, true, true, true, true, true, true, true, true, true, true, true, true, true, true, false, false, false, false, false, false, false, false, false, false, false, false, false, false] _
                  refine AI.gtake (i := 35) rfl rfl (by kernel_rfl) (by kernel_rfl) (by kernel_rfl) rfl rfl rfl (fun _ _ h => by obtain ⟨_, _, _, h, _⟩ := h; cases h) h37 (OpS.eq (av' := B ((decide (0 < y24)) && ((decide ((x31.length : Int) = 0)) || (decide (((x42.length : Int) + 1) + (x46.length : Int) ≤ a2))))) (opS_pick_f (av := .v _) rfl h38 rfl) (B_congr (and_f h38))) ?_
                  show AI _ _ _ _ _ #[true, true, true, true, true, true, true, true, true, true, true, true, true, true, true, true, true, true, true, true, true, true, true, true, true, true, true, true, true, true, true, true, true, true, true, true, false, false, false, false, false, false, false, false, false, false, false, false, false] _
                  exact K35 _ 19 rfl rfl
              refine AI.take (i := 36) rfl rfl (by kernel_rfl) (by kernel_rfl) (by kernel_rfl) (fun _ _ h => by obtain ⟨_, _, _, h, _⟩ := h; cases h) (OpS.eq (av' := B (((decide (a2 < (x34.length : Int))) && (!decide ((x31.length : Int) = 1))) || ((decide (0 < y24)) && ((decide ((x31.length : Int) = 0)) || (decide (((x42.length : Int) + 1) + (x46.length : Int) ≤ a2)))))) (opS_pick_f (av := .v _) rfl h37 rfl) (B_congr (or_f h37))) ?_
              show AI _ _ _ _ _ #[true, true, true, true, true, true, true, true, true, true, true, true, true, true, true, true, true, true, true, true, true, true, true, true, true, true, true, true, true, true, true, true, true, true, true, true, true, false, false, false, false, false, false, false, false, false, false, false, false] _
              exact K36 _ 4 rfl rfl
          refine AI.take (i := 37) rfl rfl (by kernel_rfl) (by kernel_rfl) (by kernel_rfl) (fun _ _ h => by obtain ⟨_, _, _, h, _⟩ := h; cases h) (mv rfl) ?_
          show AI _ _ _ _ _ #[true, true, true, true, true, true, true, true, true, true, true, true, true, true, true, true, true, true, true, true, true, true, true, true, true, true, true, true, true, true, true, true, true, true, true, true, true, true, false, false, false, false, false, false, false, false, false, false, false] _
          refine AI.meet 0 #[true, true, true, true, true, true, true, true, true, true, true, true, true, true, true, true, true, true, true, true, true, true, true, true, true, true, true, true, true, true, true, true, true, true, true, true, true, true, true, true, true, true, true, true, true, true, true, true, true] 103 (B ((((decide (a2 < (x34.length : Int))) && (!decide ((x31.length : Int) = 1))) || ((decide (0 < y24)) && ((decide ((x31.length : Int) = 0)) || (decide (((x42.length : Int) + 1) + (x46.length : Int) ≤ a2))))) || (!decide (x56 = x54)))) (fun K48 => ?_) ?_
          · refine AI.gsplit (t := 92) rfl (fun h49 => ?_) (fun h49 => ?_)
            ·
              refine AI.gskip (i := 38) rfl rfl (by kernel_rfl) (by kernel_rfl) (by kernel_rfl) rfl rfl rfl (fun _ _ h => by obtain ⟨_, _, _, h, _⟩ := h; cases h) h49 ?_
              show AI _ _ _ _ _ #[true, true, true, true, true, true, true, true, true, true, true, true, true, true, true, true, true, true, true, true, true, true, true, true, true, true, true, true, true, true, true, true, true, true, true, true, true, true, true, false, false, false, false, false, false, false, false, false, false] _
              refine AI.gskip (i := 39) rfl rfl (by kernel_rfl) (by kernel_rfl) (by kernel_rfl) rfl rfl rfl (fun _ _ h => by obtain ⟨_, _, _, h, _⟩ := h; cases h) h49 ?_
              show AI _ _ _ _ _ #[true, true, true, true, true, true, true, true, true, true, true, true, true, true, true, true, true, true, true, true, true, true, true, true, true, true, true, true, true, true, true, true, true, true, true, true, true, true, true, true, false, false, false, false, false, false, false, false, false] _
              refine AI.gskip (i := 40) rfl rfl (by kernel_rfl) (by kernel_rfl) (by kernel_rfl) rfl rfl rfl (fun _ _ h => by obtain ⟨_, _, _, h, _⟩ := h; cases h) h49 ?_
              show AI _ _ _ _ _ #[true, true, true, true, true, true, true, true, true, true, true, true, true, true, true, true, true, true, true, true, true, true, true, true, true, true, true, true, true, true, true, true, true, true, true, true, true, true, true, true, true, false, false, false, false, false, false, false, false] _
              refine AI.gskip (i := 41) rfl rfl (by kernel_rfl) (by kernel_rfl) (by kernel_rfl) rfl rfl rfl (fun _ _ h => by obtain ⟨_, _, _, h, _⟩ := h; cases h) h49 ?_
              show AI _ _ _ _ _ #[true, true, true, true, true, true, true, true, true, true, true, true, true, true, true, true, true, true, true, true, true, true, true, true, true, true, true, true, true, true, true, true, true, true, true, true, true, true, true, true, true, true, false, false, false, false, false, false, false] _
              refine AI.gskip (i := 43) rfl rfl (by kernel_rfl) (by kernel_rfl) (by kernel_rfl) rfl rfl rfl (fun _ _ h => by obtain ⟨_, _, _, h, _⟩ := h; cases h) h49 ?_
              show AI _ _ _ _ _ #[true, true, true, true, true, true, true, true, true, true, true, true, true, true, true, true, true, true, true, true, true, true, true, true, true, true, true, true, true, true, true, true, true, true, true, true, true, true, true, true, true, true, false, true, false, false, false, false, false] _
              refine AI.gskip (i := 44) rfl rfl (by kernel_rfl) (by kernel_rfl) (by kernel_rfl) rfl rfl rfl (fun _ _ h => by obtain ⟨_, _, _, h, _⟩ := h; cases h) h49 ?_
              show AI _ _ _ _ _ #[true, true, true, true, true, true, true, true, true, true, true, true, true, true, true, true, true, true, true, true, true, true, true, true, true, true, true, true, true, true, true, true, true, true, true, true, true, true, true, true, true, true, false, true, true, false, false, false, false] _
              refine AI.gskip (i := 45) rfl rfl (by kernel_rfl) (by kernel_rfl) (by kernel_rfl) rfl rfl rfl (fun _ _ h => by obtain ⟨_, _, _, h, _⟩ := h; cases h) h49 ?_
              show AI _ _ _ _ _ #[true, true, true, true, true, true, true, true, true, true, true, true, true, true, true, true, true, true, true, true, true, true, true, true, true, true, true, true, true, true, true, true, true, true, true, true, true, true, true, true, true, true, false, true, true, true, false, false, false] _
              refine AI.gskip (i := 46) rfl rfl (by kernel_rfl) (by kernel_rfl) (by kernel_rfl) rfl rfl rfl (fun _ _ h => by obtain ⟨_, _, _, h, _⟩ := h; cases h) h49 ?_
              show AI _ _ _ _ _ #[true, true, true, true, true, true, true, true, true, true, true, true, true, true, true, true, true, true, true, true, true, true, true, true, true, true, true, true, true, true, true, true, true, true, true, true, true, true, true, true, true, true, false, true, true, true, true, false, false] _
              refine AI.gone_skip (i := 42) (by kernel_rfl) rfl rfl rfl rfl rfl rfl rfl h49 ?_
              show AI _ _ _ _ _ #[true, true, true, true, true, true, true, true, true, true, true, true, true, true, true, true, true, true, true, true, true, true, true, true, true, true, true, true, true, true, true, true, true, true, true, true, true, true, true, true, true, true, true, true, true, true, true, false, false] _
              refine AI.gskip (i := 47) rfl rfl (by kernel_rfl) (by kernel_rfl) (by kernel_rfl) rfl rfl rfl (fun _ _ h => by obtain ⟨_, _, _, h, _⟩ := h; cases h) h49 ?_
              show AI _ _ _ _ _ #[true, true, true, true, true, true, true, true, true, true, true, true, true, true, true, true, true, true, true, true, true, true, true, true, true, true, true, true, true, true, true, true, true, true, true, true, true, true, true, true, true, true, true, true, true, true, true, true, false] _
              refine AI.take (i := 48) rfl rfl (by kernel_rfl) (by kernel_rfl) (by kernel_rfl) (fun _ _ h => by obtain ⟨_, _, _, h, _⟩ := h; cases h) (OpS.eq (av' := B ((((decide (a2 < (x34.length : Int))) && (!decide ((x31.length : Int) = 1))) || ((decide (0 < y24)) && ((decide ((x31.length : Int) = 0)) || (decide (((x42.length : Int) + 1) + (x46.length : Int) ≤ a2))))) || (!decide (x56 = x54)))) (opS_pick_t (av := .v _) rfl h49 rfl) (B_congr (or_t h49))) ?_
              show AI _ _ _ _ _ #[true, true, true, true, true, true, true, true, true, true, true, true, true, true, true, true, true, true, true, true, true, true, true, true, true, true, true, true, true, true, true, true, true, true, true, true, true, true, true, true, true, true, true, true, true, true, true, true, true] _
              exact K48 _ 10 rfl rfl
            ·
              refine AI.gtake (i := 38) rfl rfl (by kernel_rfl) (by kernel_rfl) (by kernel_rfl) rfl rfl rfl (fun _ _ h => by obtain ⟨_, _, _, h, _⟩ := h; cases h) h49 (opS_move (av := slE _ _ _) rfl) ?_
              show AI _ _ _ _ _ #[true, true, true, true, true, true, true, true, true, true, true, true, true, true, true, true, true, true, true, true, true, true, true, true, true, true, true, true, true, true, true, true, true, true, true, true, true, true, true, false, false, false, false, false, false, false, false, false, false] _
              refine AI.gtake (i := 39) rfl rfl (by kernel_rfl) (by kernel_rfl) (by kernel_rfl) rfl rfl rfl (fun _ _ h => by obtain ⟨_, _, _, h, _⟩ := h; cases h) h49 (mv rfl) ?_
              show AI _ _ _ _ _ #[true, true, true, true, true, true, true, true, true, true, true, true, true, true, true, true, true, true, true, true, true, true, true, true, true, true, true, true, true, true, true, true, true, true, true, true, true, true, true, true, false, false, false, false, false, false, false, false, false] _
              refine AI.gtake (i := 40) rfl rfl (by kernel_rfl) (by kernel_rfl) (by kernel_rfl) rfl rfl rfl (fun _ _ h => by obtain ⟨_, _, _, h, _⟩ := h; cases h) h49 (g_indexAddr (E := Enc.str) Tryd.underlying25 (by kernel_rfl) rfl rfl (g50 (nf h49)) e52) ?_
              show AI _ _ _ _ _ #[true, true, true, true, true, true, true, true, true, true, true, true, true, true, true, true, true, true, true, true, true, true, true, true, true, true, true, true, true, true, true, true, true, true, true, true, true, true, true, true, true, false, false, false, false, false, false, false, false] _
              refine AI.gtake (i := 41) rfl rfl (by kernel_rfl) (by kernel_rfl) (by kernel_rfl) rfl rfl rfl (fun _ _ h => by obtain ⟨_, _, _, h, _⟩ := h; cases h) h49 (opS_load_cp Tryd.underlying9 rfl rfl) ?_
              show AI _ _ _ _ _ #[true, true, true, true, true, true, true, true, true, true, true, true, true, true, true, true, true, true, true, true, true, true, true, true, true, true, true, true, true, true, true, true, true, true, true, true, true, true, true, true, true, true, false, false, false, false, false, false, false] _
              refine AI.gtake (i := 43) rfl rfl (by kernel_rfl) (by kernel_rfl) (by kernel_rfl) rfl rfl rfl (fun _ _ h => by obtain ⟨_, _, _, h, _⟩ := h; cases h) h49 (opS_move (av := slE _ _ _) rfl) ?_
              show AI _ _ _ _ _ #[true, true, true, true, true, true, true, true, true, true, true, true, true, true, true, true, true, true, true, true, true, true, true, true, true, true, true, true, true, true, true, true, true, true, true, true, true, true, true, true, true, true, false, true, false, false, false, false, false] _
              refine AI.gtake (i := 44) rfl rfl (by kernel_rfl) (by kernel_rfl) (by kernel_rfl) rfl rfl rfl (fun _ _ h => by obtain ⟨_, _, _, h, _⟩ := h; cases h) h49 (mv rfl) ?_
              show AI _ _ _ _ _ #[true, true, true, true, true, true, true, true, true, true, true, true, true, true, true, true, true, true, true, true, true, true, true, true, true, true, true, true, true, true, true, true, true, true, true, true, true, true, true, true, true, true, false, true, true, false, false, false, false] _
              refine AI.gtake (i := 45) rfl rfl (by kernel_rfl) (by kernel_rfl) (by kernel_rfl) rfl rfl rfl (fun _ _ h => by obtain ⟨_, _, _, h, _⟩ := h; cases h) h49 (g_indexAddr (E := Enc.str) Tryd.underlying25 (by kernel_rfl) rfl rfl (g53 (nf h49)) e55) ?_
              show AI _ _ _ _ _ #[true, true, true, true, true, true, true, true, true, true, true, true, true, true, true, true, true, true, true, true, true, true, true, true, true, true, true, true, true, true, true, true, true, true, true, true, true, true, true, true, true, true, false, true, true, true, false, false, false] _
              refine AI.gtake (i := 46) rfl rfl (by kernel_rfl) (by kernel_rfl) (by kernel_rfl) rfl rfl rfl (fun _ _ h => by obtain ⟨_, _, _, h, _⟩ := h; cases h) h49 (opS_load_cp Tryd.underlying9 rfl rfl) ?_
              show AI _ _ _ _ _ #[true, true, true, true, true, true, true, true, true, true, true, true, true, true, true, true, true, true, true, true, true, true, true, true, true, true, true, true, true, true, true, true, true, true, true, true, true, true, true, true, true, true, false, true, true, true, true, false, false] _
              refine AI.gone (i := 42) (by kernel_rfl) rfl rfl rfl rfl rfl h49 ?_
              refine AIO.callp rfl en9 rfl (w_ref07_Trim F x51 x56 (e57 (nf h49))) ?_
              show AI _ _ _ _ _ #[true, true, true, true, true, true, true, true, true, true, true, true, true, true, true, true, true, true, true, true, true, true, true, true, true, true, true, true, true, true, true, true, true, true, true, true, true, true, true, true, true, true, true, true, true, true, true, false, false] _
              refine AI.gtake (i := 47) rfl rfl (by kernel_rfl) (by kernel_rfl) (by kernel_rfl) rfl rfl rfl (fun _ _ h => by obtain ⟨_, _, _, h, _⟩ := h; cases h) h49 (opS_nes rfl rfl) ?_
              show AI _ _ _ _ _ #[true, true, true, true, true, true, true, true, true, true, true, true, true, true, true, true, true, true, true, true, true, true, true, true, true, true, true, true, true, true, true, true, true, true, true, true, true, true, true, true, true, true, true, true, true, true, true, true, false] _
              refine AI.take (i := 48) rfl rfl (by kernel_rfl) (by kernel_rfl) (by kernel_rfl) (fun _ _ h => by obtain ⟨_, _, _, h, _⟩ := h; cases h) (OpS.eq (av' := B ((((decide (a2 < (x34.length : Int))) && (!decide ((x31.length : Int) = 1))) || ((decide (0 < y24)) && ((decide ((x31.length : Int) = 0)) || (decide (((x42.length : Int) + 1) + (x46.length : Int) ≤ a2))))) || (!decide (x56 = x54)))) (opS_pick_f (av := .v _) rfl h49 rfl) (B_congr (or_f h49))) ?_
              show AI _ _ _ _ _ #[true, true, true, true, true, true, true, true, true, true, true, true, true, true, true, true, true, true, true, true, true, true, true, true, true, true, true, true, true, true, true, true, true, true, true, true, true, true, true, true, true, true, true, true, true, true, true, true, true] _
              exact K48 _ 10 rfl rfl
          refine AI.done rfl ?_
          show AW _ _ _ _ _ _
          refine AW.cond rfl (fun c58 => ?_) (fun c58 => ?_)
          · replace H := cnd_t c58 H
            refine AW.seq ?_
            refine AW.region ?_
            show AR _ _ _ _ _ [0] _
            refine sS rfl rfl rfl (asg rfl) ?_
            refine AR.nil ?_
            show AW _ _ _ _ _ _
            refine AW.ret ?_
            obtain rfl := Option.some.inj H
            exact And.intro rfl (Exists.intro _ (Exists.intro _ ⟨ResV.oneW rfl (.refl _), Sub.at [] rfl, rfl, rfl⟩))
          · replace H := cnd_f c58 H
            refine AW.skip ?_
            show AW _ _ _ _ _ _
            refine AW.cut (X := (List UInt8)) (fun y63 => ⟨[(0, S a1), (1, i64 a2), (7, slE Enc.str x20 none), (8, S y63), (9, i64 y24)], [], []⟩) (fun y63 => law11_PlainWraps_j2 x20 y24 (law11_PlainWraps_L1 F a1 a2 x20 n26) y63 = some r3) ?_ ?_
            ·
              refine AW.seq ?_
              refine AW.region ?_
              show AR _ _ _ _ _ [0, 1] _
              refine sS rfl rfl rfl (mv rfl) ?_
              refine sS rfl rfl rfl (opS_gt rfl rfl) ?_
              refine AR.nil ?_
              show AW _ _ _ _ _ _
              refine AW.cond rfl (fun c59 => ?_) (fun c59 => ?_)
              · replace H := cnd_t c59 H
                obtain ⟨g60, H⟩ := grd_s H
                obtain ⟨x61, e62, H⟩ := lt_s H
                refine AW.region ?_
                show AR _ _ _ _ _ [0, 1, 2] _
                refine sS rfl rfl rfl (mv rfl) ?_
                refine sS rfl rfl rfl (g_cat rfl rfl g60 e62) ?_
                refine sS rfl rfl rfl (asg rfl) ?_
                refine AR.nil ?_
                exact Exists.intro x61 ⟨H, WK.at [] (.cons (.refl _) (.cons (.refl _) (.cons (.refl _) (.cons (.refl _) (.cons (.refl _) (.nil _)))))) rfl⟩
              · replace H := cnd_f c59 H
                refine AW.skip ?_
                exact Exists.intro y23 ⟨H, WK.at [] (.cons (.refl _) (.cons (.refl _) (.cons (.refl _) (.cons (.refl _) (.cons (.refl _) (.nil _)))))) rfl⟩
            rintro y63 H
            replace H : law11_PlainWraps_j2 x20 y24 (law11_PlainWraps_L1 F a1 a2 x20 n26) y63 = some r3 := H
            unfold law11_PlainWraps_j2 at H
            show AW _ _ _ _ _ _
            obtain ⟨g65, H⟩ := grd_s H
            obtain ⟨x66, e67, H⟩ := lt_s H
            obtain ⟨g68, H⟩ := grd_s H
            obtain ⟨x69, e70, H⟩ := lt_s H
            refine AW.region ?_
            show AR _ _ _ _ _ [0, 1, 2, 3, 4, 5, 6] _
            refine sS rfl rfl rfl (mv rfl) ?_
            refine sS rfl rfl rfl (opS_move (av := slE _ _ _) rfl) ?_
            refine sS rfl rfl rfl (mv rfl) ?_
            refine sS rfl rfl rfl (g_indexAddr (E := Enc.str) Tryd.underlying25 (by kernel_rfl) rfl rfl g65 e67) ?_
            refine sS rfl rfl rfl (opS_load_cp Tryd.underlying9 rfl rfl) ?_
            refine sS rfl rfl rfl (g_cat rfl rfl g68 e70) ?_
            refine sS rfl rfl rfl (asg rfl) ?_
            refine AR.nil ?_
            show AW _ _ _ _ _ _
            obtain ⟨g71, H⟩ := grd_s H
            refine AW.region ?_
            show AR _ _ _ _ _ [0, 1, 2] _
            refine sS rfl rfl rfl (mv rfl) ?_
            refine sS rfl rfl rfl (g_add rfl rfl g71) ?_
            refine sS rfl rfl rfl (asg rfl) ?_
            refine AR.nil ?_
            exact Exists.intro (n26, x69, y24 + 1) ⟨H, Nat.lt_succ_self _, WK.at [] (.cons (.refl _) (.cons (.refl _) (.cons (.refl _) (.cons (.refl _) (.cons (.refl _) (.nil _)))))) rfl⟩
        · replace H := cnd_f c27 H
          refine AW.exit ?_
          exact Exists.intro y23 ⟨H, WK.at [] (.cons (.refl _) (.cons (.refl _) (.nil _))) rfl⟩
      rintro y72 H
      replace H : law11_PlainWraps_j1 F a1 y72 = some r3 := H
      unfold law11_PlainWraps_j1 at H
      show AW _ _ _ _ _ _
      refine AW.seq ?_
      obtain ⟨x74, e75, H⟩ := bnd_s H
      refine AW.region ?_
      show AR _ _ _ _ _ [0, 1, 2, 3, 4] _
      refine sS rfl rfl rfl (mv rfl) ?_
      refine sS rfl rfl rfl (mv rfl) ?_
      refine AR.run rfl rfl (AO.callp rfl en9 rfl (w_ref07_Trim F a1 x74 e75) ?_)
      refine sS rfl rfl rfl (opS_eqs rfl rfl) ?_
      refine sS rfl rfl rfl (asg rfl) ?_
      refine AR.nil ?_
      show AW _ _ _ _ _ _
      refine AW.ret ?_
      obtain rfl := Option.some.inj H
      exact And.intro rfl (Exists.intro _ (Exists.intro _ ⟨ResV.oneW rfl (.refl _), Sub.at [] rfl, rfl, rfl⟩))
end Go.Proofs.YtjajiokihccobaaDoor
