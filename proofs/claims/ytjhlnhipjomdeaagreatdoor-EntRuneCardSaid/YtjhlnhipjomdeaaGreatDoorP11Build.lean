/-
  What strings.Builder's methods do, by content.
-/
import Derived.Test.YtjhlnhipjomdeaaGreatDoorP11Lib
set_option linter.unusedVariables false
set_option linter.unusedSimpArgs false
namespace Go.Proofs.YtjhlnhipjomdeaaGreatDoor
open Go.RowKit Go.Av

theorem en38 : ∀ (args : Array Value) (w : World), (callFunc 38 args).run Tryz.prog w = .ok (.enter 38 args) w := fun _ _ => by kernel_rfl
theorem en29 : ∀ (args : Array Value) (w : World), (callFunc 29 args).run Tryz.prog w = .ok (.enter 29 args) w := fun _ _ => by kernel_rfl
theorem en30 : ∀ (args : Array Value) (w : World), (callFunc 30 args).run Tryz.prog w = .ok (.enter 30 args) w := fun _ _ => by kernel_rfl
theorem en36 : ∀ (args : Array Value) (w : World), (callFunc 36 args).run Tryz.prog w = .ok (.enter 36 args) w := fun _ _ => by kernel_rfl
theorem en45 : ∀ (args : Array Value) (w : World), (callFunc 45 args).run Tryz.prog w = .ok (.enter 45 args) w := fun _ _ => by kernel_rfl

/-! (*strings.Builder).copyCheck -/
set_option maxRecDepth 100000 in
set_option maxHeartbeats 1000000 in
theorem Builder_copyCheck0N (o : Nat) (b : AV) :
    ACalls Tryz.prog 38 [.pt o 0] [.obj o [.v (.pointer none), b], .ty o 44] (Ret (.tup []) [.obj o [.pt o 0, b], .ty o 44]) := by
  refine ACalls.of_body Tryz.func38 rfl rfl ?_
  show AW _ _ 20 _ _ _
  refine AW.seq ?_
  refine AW.region ?_
  show AR _ _ _ _ _ [0, 1, 2, 3, 4] _
  refine AR.run rfl rfl ?_
  first | (refine AO.ops rfl rfl (opS_move (av := .pt _ _) rfl) ?_) | (refine AO.ops rfl rfl (opS_move (av := .cp _) rfl) ?_) | (refine AO.ops rfl rfl (opS_move (av := .v _) rfl) ?_)
  refine AR.run rfl rfl ?_
  first | (refine AO.ops rfl rfl (opS_nilCheck_pt rfl) ?_) | (refine AO.ops rfl rfl (opS_nilCheck_cp rfl) ?_) | (refine AO.ops rfl rfl (opS_nilCheck_fn rfl) ?_)
  refine AR.run rfl rfl ?_
  refine AO.ops rfl rfl (opS_fieldAddr_pt (n := 0) (by kernel_rfl) rfl) ?_
  refine AR.run rfl rfl ?_
  first | refine AO.ops rfl rfl (opS_load_cp Tryz.underlying42 rfl rfl) ?_ | refine AO.op rfl rfl (opR_load_pt (i := 0) Tryz.underlying42 rfl rfl rfl rfl) ?_ | refine AO.op rfl rfl (opR_load_pt (i := 1) Tryz.underlying42 rfl rfl rfl rfl) ?_
  refine AR.run rfl rfl ?_
  first | (refine AO.ops rfl rfl (opS_eqnil_pt Tryz.underlying42 rfl rfl) ?_) | (refine AO.ops rfl rfl (opS_eqnil_nil Tryz.underlying42 rfl rfl) ?_)
  refine AR.nil ?_
  show AW _ _ _ _ _ _
  refine AW.cond rfl (fun c1 => ?_) (fun c1 => ?_)
  ·
    have c1p := c1; try simp only [decide_eq_true_eq, decide_eq_false_iff_not, Bool.not_eq_true', Bool.not_eq_false', Bool.not_true, Bool.not_false, Bool.not_eq_eq_eq_not] at c1p
    refine AW.region ?_
    show AR _ _ _ _ _ [0, 1, 2, 3, 4, 5, 6, 7] _
    refine AR.run rfl rfl ?_
    first | (refine AO.ops rfl rfl (opS_move (av := .pt _ _) rfl) ?_) | (refine AO.ops rfl rfl (opS_move (av := .cp _) rfl) ?_) | (refine AO.ops rfl rfl (opS_move (av := .v _) rfl) ?_)
    refine AR.run rfl rfl ?_
    first | (refine AO.ops rfl rfl (opS_move (av := .pt _ _) rfl) ?_) | (refine AO.ops rfl rfl (opS_move (av := .cp _) rfl) ?_) | (refine AO.ops rfl rfl (opS_move (av := .v _) rfl) ?_)
    refine AR.run rfl rfl ?_
    first | (refine AO.op rfl rfl (opR_to_unsafe (i := 0) (k := 2) Tryz.underlying42 Tryz.underlying76 (by kernel_rfl) (by decide) rfl rfl ?h1) ?_; (case h1 => (simp))) | (refine AO.op rfl rfl (opR_to_unsafe (i := 1) (k := 2) Tryz.underlying42 Tryz.underlying76 (by kernel_rfl) (by decide) rfl rfl ?h2) ?_; (case h2 => (simp)))
    refine AR.run rfl rfl ?_
    refine AO.ops rfl rfl (opS_through (a := .pt _ _) Tryz.func47 ⟨by kernel_rfl, by kernel_rfl, by kernel_rfl, by kernel_rfl⟩ rfl) ?_
    refine AR.run rfl rfl ?_
    first | refine AO.op rfl rfl (opR_from_unsafe (i := 0) (j := 1) (k := 2) Tryz.underlying76 Tryz.underlying42 (by kernel_rfl) rfl rfl rfl (by kernel_rfl)) ?_ | refine AO.op rfl rfl (opR_from_unsafe (i := 1) (j := 0) (k := 2) Tryz.underlying76 Tryz.underlying42 (by kernel_rfl) rfl rfl rfl (by kernel_rfl)) ?_
    refine AR.run rfl rfl ?_
    first | (refine AO.ops rfl rfl (opS_nilCheck_pt rfl) ?_) | (refine AO.ops rfl rfl (opS_nilCheck_cp rfl) ?_) | (refine AO.ops rfl rfl (opS_nilCheck_fn rfl) ?_)
    refine AR.run rfl rfl ?_
    refine AO.ops rfl rfl (opS_fieldAddr_pt (n := 0) (by kernel_rfl) rfl) ?_
    refine AR.run rfl rfl ?_
    first | (refine AO.op0 rfl (opR_store_pt (i := 0) (c := .pt _ _) (by kernel_rfl) rfl rfl rfl rfl ?h4) ?_; (case h4 => (simp))) | (refine AO.op0 rfl (opR_store_pt (i := 0) (c := .cp _) (by kernel_rfl) rfl rfl rfl rfl ?h5) ?_; (case h5 => (simp))) | (refine AO.op0 rfl (opR_store_pt (i := 0) (c := .v _) (by kernel_rfl) rfl rfl rfl rfl ?h6) ?_; (case h6 => (simp))) | (refine AO.op0 rfl (opR_store_pt (i := 1) (c := .pt _ _) (by kernel_rfl) rfl rfl rfl rfl ?h7) ?_; (case h7 => (simp))) | (refine AO.op0 rfl (opR_store_pt (i := 1) (c := .cp _) (by kernel_rfl) rfl rfl rfl rfl ?h8) ?_; (case h8 => (simp))) | (refine AO.op0 rfl (opR_store_pt (i := 1) (c := .v _) (by kernel_rfl) rfl rfl rfl rfl ?h9) ?_; (case h9 => (simp)))
    refine AR.nil ?_
    -- END 1 (end)
    show RetPost _ _ _ _ .normal _
    (refine ⟨rfl, _, _, ResV.noneW rfl, ?_, ⟨rfl, rfl⟩⟩; all_goals first | exact Sub.refl _ | exact Sub.nil _ | ((repeat (first | exact Sub.refl _ | exact Sub.nil _ | refine Sub.cons _ ?_ | refine Sub.skip _ ?_)); done) | exact Wv.refl _ | exact Wv.tok _ _ _ | exact Wv.nil _)
  · exact absurd c1 (by decide)

/-! (*strings.Builder).copyCheck -/
set_option maxRecDepth 100000 in
set_option maxHeartbeats 1000000 in
theorem Builder_copyCheck0S (o : Nat) (b : AV) :
    ACalls Tryz.prog 38 [.pt o 0] [.obj o [.pt o 0, b], .ty o 44] (Ret (.tup []) [.obj o [.pt o 0, b], .ty o 44]) := by
  refine ACalls.of_body Tryz.func38 rfl rfl ?_
  show AW _ _ 20 _ _ _
  refine AW.seq ?_
  refine AW.region ?_
  show AR _ _ _ _ _ [0, 1, 2, 3, 4] _
  refine AR.run rfl rfl ?_
  first | (refine AO.ops rfl rfl (opS_move (av := .pt _ _) rfl) ?_) | (refine AO.ops rfl rfl (opS_move (av := .cp _) rfl) ?_) | (refine AO.ops rfl rfl (opS_move (av := .v _) rfl) ?_)
  refine AR.run rfl rfl ?_
  first | (refine AO.ops rfl rfl (opS_nilCheck_pt rfl) ?_) | (refine AO.ops rfl rfl (opS_nilCheck_cp rfl) ?_) | (refine AO.ops rfl rfl (opS_nilCheck_fn rfl) ?_)
  refine AR.run rfl rfl ?_
  refine AO.ops rfl rfl (opS_fieldAddr_pt (n := 0) (by kernel_rfl) rfl) ?_
  refine AR.run rfl rfl ?_
  first | refine AO.ops rfl rfl (opS_load_cp Tryz.underlying42 rfl rfl) ?_ | refine AO.op rfl rfl (opR_load_pt (i := 0) Tryz.underlying42 rfl rfl rfl rfl) ?_ | refine AO.op rfl rfl (opR_load_pt (i := 1) Tryz.underlying42 rfl rfl rfl rfl) ?_
  refine AR.run rfl rfl ?_
  first | (refine AO.ops rfl rfl (opS_eqnil_pt Tryz.underlying42 rfl rfl) ?_) | (refine AO.ops rfl rfl (opS_eqnil_nil Tryz.underlying42 rfl rfl) ?_)
  refine AR.nil ?_
  show AW _ _ _ _ _ _
  refine AW.cond rfl (fun c1 => ?_) (fun c1 => ?_)
  · exact absurd c1 (by decide)
  ·
    have c1p := c1; try simp only [decide_eq_true_eq, decide_eq_false_iff_not, Bool.not_eq_true', Bool.not_eq_false', Bool.not_true, Bool.not_false, Bool.not_eq_eq_eq_not] at c1p
    refine AW.seq ?_
    refine AW.region ?_
    show AR _ _ _ _ _ [0, 1, 2, 3, 4, 5] _
    refine AR.run rfl rfl ?_
    first | (refine AO.ops rfl rfl (opS_move (av := .pt _ _) rfl) ?_) | (refine AO.ops rfl rfl (opS_move (av := .cp _) rfl) ?_) | (refine AO.ops rfl rfl (opS_move (av := .v _) rfl) ?_)
    refine AR.run rfl rfl ?_
    first | (refine AO.ops rfl rfl (opS_nilCheck_pt rfl) ?_) | (refine AO.ops rfl rfl (opS_nilCheck_cp rfl) ?_) | (refine AO.ops rfl rfl (opS_nilCheck_fn rfl) ?_)
    refine AR.run rfl rfl ?_
    refine AO.ops rfl rfl (opS_fieldAddr_pt (n := 0) (by kernel_rfl) rfl) ?_
    refine AR.run rfl rfl ?_
    first | refine AO.ops rfl rfl (opS_load_cp Tryz.underlying42 rfl rfl) ?_ | refine AO.op rfl rfl (opR_load_pt (i := 0) Tryz.underlying42 rfl rfl rfl rfl) ?_ | refine AO.op rfl rfl (opR_load_pt (i := 1) Tryz.underlying42 rfl rfl rfl rfl) ?_
    refine AR.run rfl rfl ?_
    first | (refine AO.ops rfl rfl (opS_move (av := .pt _ _) rfl) ?_) | (refine AO.ops rfl rfl (opS_move (av := .cp _) rfl) ?_) | (refine AO.ops rfl rfl (opS_move (av := .v _) rfl) ?_)
    refine AR.run rfl rfl ?_
    first | (refine AO.ops rfl rfl (opS_nenil_pt Tryz.underlying42 rfl rfl) ?_) | (refine AO.ops rfl rfl (opS_nenil_nil Tryz.underlying42 rfl rfl) ?_) | (refine AO.ops rfl rfl (opS_ne_same (k := 2) Tryz.underlying42 (by kernel_rfl) (by decide) rfl rfl) ?_)
    refine AR.nil ?_
    show AW _ _ _ _ _ _
    refine AW.cond rfl (fun c2 => ?_) (fun c2 => ?_)
    ·
      have c2p := c2; try simp only [decide_eq_true_eq, decide_eq_false_iff_not, Bool.not_eq_true', Bool.not_eq_false', Bool.not_true, Bool.not_false, Bool.not_eq_eq_eq_not] at c2p
      exfalso; first | omega | simp_all
    ·
      have c2p := c2; try simp only [decide_eq_true_eq, decide_eq_false_iff_not, Bool.not_eq_true', Bool.not_eq_false', Bool.not_true, Bool.not_false, Bool.not_eq_eq_eq_not] at c2p
      refine AW.skip ?_
      -- END 1 (end)
      show RetPost _ _ _ _ .normal _
      (refine ⟨rfl, _, _, ResV.noneW rfl, ?_, ⟨rfl, rfl⟩⟩; all_goals first | exact Sub.refl _ | exact Sub.nil _ | ((repeat (first | exact Sub.refl _ | exact Sub.nil _ | refine Sub.cons _ ?_ | refine Sub.skip _ ?_)); done) | exact Wv.refl _ | exact Wv.tok _ _ _ | exact Wv.nil _)
theorem Builder_copyCheck0 (o : Nat) (a b : AV) (ha : a = .v (.pointer none) ∨ a = .pt o 0) : ACalls Tryz.prog 38 [.pt o 0] [.obj o [a, b], .ty o 44] (Ret (.tup []) [.obj o [.pt o 0, b], .ty o 44]) := by
  rcases ha with rfl | rfl
  · exact Builder_copyCheck0N  o b
  · exact Builder_copyCheck0S  o b


/-! (*strings.Builder).WriteString -/
set_option maxRecDepth 100000 in
set_option maxHeartbeats 1000000 in
theorem Builder_WriteString0 (o : Nat) (a : AV) (ha : a = .v (.pointer none) ∨ a = .pt o 0) (l s : List UInt8) (t : Nat) (hl : l.length + s.length ≤ 1000000000) :
    ACalls Tryz.prog 29 [.pt o 0, S s] [.obj o [a, slE Enc.byte l (some t)], .ty o 44, .tok t 5] (fun e A' => e = .ret (.tup [i64 s.length, .v .nilIface]) ∧ ∃ t', A' = [.obj o [.pt o 0, slE Enc.byte (l ++ s) (some t')], .ty o 44, .tok t' 5]) := by
  refine ACalls.of_body Tryz.func29 rfl rfl ?_
  show AW _ _ 19 _ _ _
  refine AW.seq ?_
  refine AW.region ?_
  show AR _ _ _ _ _ [0, 1] _
  refine AR.run rfl rfl ?_
  refine AO.ops rfl rfl (opS_assign (av := .v _) rfl) ?_
  refine AR.run rfl rfl ?_
  refine AO.ops rfl rfl (opS_assign (av := .v _) rfl) ?_
  refine AR.nil ?_
  show AW _ _ _ _ _ _
  refine AW.seq ?_
  refine AW.region ?_
  show AR _ _ _ _ _ [0, 1] _
  refine AR.run rfl rfl ?_
  first | (refine AO.ops rfl rfl (opS_move (av := .pt _ _) rfl) ?_) | (refine AO.ops rfl rfl (opS_move (av := .cp _) rfl) ?_) | (refine AO.ops rfl rfl (opS_move (av := .v _) rfl) ?_)
  refine AR.run rfl rfl ?_
  refine AO.call [.tok t 5] rfl en38 rfl (Builder_copyCheck0  o a (slE Enc.byte l (some t)) ha) ?p1 ?k1 ?q1
  (case p1 => (exact List.Perm.refl _))
  (case q1 => (rintro c A' ⟨h, _⟩; cases h))
  rintro av A' ⟨h, rfl⟩; cases h
  refine AR.nil ?_
  show AW _ _ _ _ _ _
  refine AW.seq ?_
  refine AW.region ?_
  show AR _ _ _ _ _ [0, 1, 2, 3, 4, 5, 6, 7, 8, 9] _
  refine AR.run rfl rfl ?_
  first | (refine AO.ops rfl rfl (opS_move (av := .pt _ _) rfl) ?_) | (refine AO.ops rfl rfl (opS_move (av := .cp _) rfl) ?_) | (refine AO.ops rfl rfl (opS_move (av := .v _) rfl) ?_)
  refine AR.run rfl rfl ?_
  first | (refine AO.ops rfl rfl (opS_move (av := .pt _ _) rfl) ?_) | (refine AO.ops rfl rfl (opS_move (av := .cp _) rfl) ?_) | (refine AO.ops rfl rfl (opS_move (av := .v _) rfl) ?_)
  refine AR.run rfl rfl ?_
  first | (refine AO.ops rfl rfl (opS_nilCheck_pt rfl) ?_) | (refine AO.ops rfl rfl (opS_nilCheck_cp rfl) ?_) | (refine AO.ops rfl rfl (opS_nilCheck_fn rfl) ?_)
  refine AR.run rfl rfl ?_
  refine AO.ops rfl rfl (opS_fieldAddr_pt (n := 1) (by kernel_rfl) rfl) ?_
  refine AR.run rfl rfl ?_
  first | refine AO.ops rfl rfl (opS_load_cp Tryz.underlying36 rfl rfl) ?_ | refine AO.op rfl rfl (opR_load_pt (i := 0) Tryz.underlying36 rfl rfl rfl rfl) ?_ | refine AO.op rfl rfl (opR_load_pt (i := 1) Tryz.underlying36 rfl rfl rfl rfl) ?_
  refine AR.run rfl rfl ?_
  refine AO.ops rfl rfl (opS_move (av := .v _) rfl) ?_
  refine AR.run rfl rfl ?_
  first | (refine AO.opx rfl rfl (opX_append_str (bytes := 1) 0 Tryz.underlying36 Tryz.underlying9 rfl (by kernel_rfl) rfl rfl rfl ?h3 ?h4) ?_; (case h3 => (first | omega | (simp; done) | (simp; omega))); (case h4 => (first | omega | (simp; done) | (simp; omega)))) | (refine AO.opx rfl rfl (opX_append_str (bytes := 1) 1 Tryz.underlying36 Tryz.underlying9 rfl (by kernel_rfl) rfl rfl rfl ?h5 ?h6) ?_; (case h5 => (first | omega | (simp; done) | (simp; omega))); (case h6 => (first | omega | (simp; done) | (simp; omega)))) | (refine AO.opx rfl rfl (opX_append_str (bytes := 1) 2 Tryz.underlying36 Tryz.underlying9 rfl (by kernel_rfl) rfl rfl rfl ?h7 ?h8) ?_; (case h7 => (first | omega | (simp; done) | (simp; omega))); (case h8 => (first | omega | (simp; done) | (simp; omega)))) | (refine AO.opx rfl rfl (opX_append_str (bytes := 1) 3 Tryz.underlying36 Tryz.underlying9 rfl (by kernel_rfl) rfl rfl rfl ?h9 ?h10) ?_; (case h9 => (first | omega | (simp; done) | (simp; omega))); (case h10 => (first | omega | (simp; done) | (simp; omega))))
  rintro _ _ ⟨t14, rfl, rfl⟩
  refine AR.run rfl rfl ?_
  first | (refine AO.ops rfl rfl (opS_nilCheck_pt rfl) ?_) | (refine AO.ops rfl rfl (opS_nilCheck_cp rfl) ?_) | (refine AO.ops rfl rfl (opS_nilCheck_fn rfl) ?_)
  refine AR.run rfl rfl ?_
  refine AO.ops rfl rfl (opS_fieldAddr_pt (n := 1) (by kernel_rfl) rfl) ?_
  refine AR.run rfl rfl ?_
  first | (refine AO.op0 rfl (opR_store_pt (i := 0) (c := slE _ _ _) (by kernel_rfl) rfl rfl rfl rfl ?h12) ?_; (case h12 => (simp))) | (refine AO.op0 rfl (opR_store_pt (i := 0) (c := .v _) (by kernel_rfl) rfl rfl rfl rfl ?h13) ?_; (case h13 => (simp))) | (refine AO.op0 rfl (opR_store_pt (i := 0) (c := .vw _ _ _ _) (by kernel_rfl) rfl rfl rfl rfl ?h14) ?_; (case h14 => (simp))) | (refine AO.op0 rfl (opR_store_pt (i := 1) (c := slE _ _ _) (by kernel_rfl) rfl rfl rfl rfl ?h15) ?_; (case h15 => (simp))) | (refine AO.op0 rfl (opR_store_pt (i := 1) (c := .v _) (by kernel_rfl) rfl rfl rfl rfl ?h16) ?_; (case h16 => (simp))) | (refine AO.op0 rfl (opR_store_pt (i := 1) (c := .vw _ _ _ _) (by kernel_rfl) rfl rfl rfl rfl ?h17) ?_; (case h17 => (simp)))
  refine AR.nil ?_
  show AW _ _ _ _ _ _
  refine AW.seq ?_
  refine AW.region ?_
  show AR _ _ _ _ _ [0, 1, 2, 3] _
  refine AR.run rfl rfl ?_
  refine AO.ops rfl rfl (opS_move (av := .v _) rfl) ?_
  refine AR.run rfl rfl ?_
  refine AO.ops rfl rfl (opS_len_str Tryz.underlying9 rfl) ?_
  refine AR.run rfl rfl ?_
  refine AO.ops rfl rfl (opS_assign (av := .v _) rfl) ?_
  refine AR.run rfl rfl ?_
  refine AO.ops rfl rfl (opS_assign (av := .v _) rfl) ?_
  refine AR.nil ?_
  show AW _ _ _ _ _ _
  refine AW.ret ?_
  -- END 1 (ret)
  show RetPost _ _ _ _ .ret _
  exact ⟨rfl, _, _, ResV.two (av := .v _) (bv := .v _) rfl rfl rfl, Sub.refl _, rfl, t14, rfl⟩

/-! (*strings.Builder).String -/
set_option maxRecDepth 100000 in
set_option maxHeartbeats 1000000 in
theorem Builder_String0 (o : Nat) (a : AV) (l : List UInt8) (t : Nat) (hl : l.length ≤ 1000000000) :
    ACalls Tryz.prog 30 [.pt o 0] [.obj o [a, slE Enc.byte l (some t)], .tok t 5] (Ret (S l) [.obj o [a, slE Enc.byte l (some t)]]) := by
  refine ACalls.of_body Tryz.func30 rfl rfl ?_
  show AW _ _ 14 _ _ _
  refine AW.seq ?_
  refine AW.region ?_
  show AR _ _ _ _ _ [0] _
  refine AR.run rfl rfl ?_
  refine AO.ops rfl rfl (opS_assign (av := .v _) rfl) ?_
  refine AR.nil ?_
  show AW _ _ _ _ _ _
  refine AW.seq ?_
  refine AW.region_draw (by kernel_rfl) ?_
  show AI _ _ _ _ 12 (Array.replicate 12 false) _
  first | (refine AI.take (i := 0) rfl rfl (by kernel_rfl) (by kernel_rfl) (by kernel_rfl) (fun _ _ h => by obtain ⟨_, _, _, h, _⟩ := h; cases h) (opS_move (av := .pt _ _) rfl) ?_) | (refine AI.take (i := 0) rfl rfl (by kernel_rfl) (by kernel_rfl) (by kernel_rfl) (fun _ _ h => by obtain ⟨_, _, _, h, _⟩ := h; cases h) (opS_move (av := .cp _) rfl) ?_) | (refine AI.take (i := 0) rfl rfl (by kernel_rfl) (by kernel_rfl) (by kernel_rfl) (fun _ _ h => by obtain ⟨_, _, _, h, _⟩ := h; cases h) (opS_move (av := .v _) rfl) ?_)
  show AI _ _ _ _ _ #[true, false, false, false, false, false, false, false, false, false, false, false] _
  first | (refine AI.take (i := 1) rfl rfl (by kernel_rfl) (by kernel_rfl) (by kernel_rfl) (fun _ _ h => by obtain ⟨_, _, _, h, _⟩ := h; cases h) (opS_nilCheck_pt rfl) ?_) | (refine AI.take (i := 1) rfl rfl (by kernel_rfl) (by kernel_rfl) (by kernel_rfl) (fun _ _ h => by obtain ⟨_, _, _, h, _⟩ := h; cases h) (opS_nilCheck_cp rfl) ?_) | (refine AI.take (i := 1) rfl rfl (by kernel_rfl) (by kernel_rfl) (by kernel_rfl) (fun _ _ h => by obtain ⟨_, _, _, h, _⟩ := h; cases h) (opS_nilCheck_fn rfl) ?_)
  show AI _ _ _ _ _ #[true, true, false, false, false, false, false, false, false, false, false, false] _
  refine AI.take (i := 2) rfl rfl (by kernel_rfl) (by kernel_rfl) (by kernel_rfl) (fun _ _ h => by obtain ⟨_, _, _, h, _⟩ := h; cases h) (opS_fieldAddr_pt (n := 1) (by kernel_rfl) rfl) ?_
  show AI _ _ _ _ _ #[true, true, true, false, false, false, false, false, false, false, false, false] _
  first | (refine AI.take (i := 5) rfl rfl (by kernel_rfl) (by kernel_rfl) (by kernel_rfl) (fun _ _ h => by obtain ⟨_, _, _, h, _⟩ := h; cases h) (opS_move (av := .pt _ _) rfl) ?_) | (refine AI.take (i := 5) rfl rfl (by kernel_rfl) (by kernel_rfl) (by kernel_rfl) (fun _ _ h => by obtain ⟨_, _, _, h, _⟩ := h; cases h) (opS_move (av := .cp _) rfl) ?_) | (refine AI.take (i := 5) rfl rfl (by kernel_rfl) (by kernel_rfl) (by kernel_rfl) (fun _ _ h => by obtain ⟨_, _, _, h, _⟩ := h; cases h) (opS_move (av := .v _) rfl) ?_)
  show AI _ _ _ _ _ #[true, true, true, false, false, true, false, false, false, false, false, false] _
  first | (refine AI.take (i := 6) rfl rfl (by kernel_rfl) (by kernel_rfl) (by kernel_rfl) (fun _ _ h => by obtain ⟨_, _, _, h, _⟩ := h; cases h) (opS_nilCheck_pt rfl) ?_) | (refine AI.take (i := 6) rfl rfl (by kernel_rfl) (by kernel_rfl) (by kernel_rfl) (fun _ _ h => by obtain ⟨_, _, _, h, _⟩ := h; cases h) (opS_nilCheck_cp rfl) ?_) | (refine AI.take (i := 6) rfl rfl (by kernel_rfl) (by kernel_rfl) (by kernel_rfl) (fun _ _ h => by obtain ⟨_, _, _, h, _⟩ := h; cases h) (opS_nilCheck_fn rfl) ?_)
  show AI _ _ _ _ _ #[true, true, true, false, false, true, true, false, false, false, false, false] _
  refine AI.take (i := 7) rfl rfl (by kernel_rfl) (by kernel_rfl) (by kernel_rfl) (fun _ _ h => by obtain ⟨_, _, _, h, _⟩ := h; cases h) (opS_fieldAddr_pt (n := 1) (by kernel_rfl) rfl) ?_
  show AI _ _ _ _ _ #[true, true, true, false, false, true, true, true, false, false, false, false] _
  refine AI.two (i := 3) (j := 8) (by kernel_rfl) rfl rfl rfl rfl ?_ ?_
  ·
    first | refine AIO.op rfl (opR_load_pt (i := 0) Tryz.underlying36 rfl rfl rfl rfl) ?_ | refine AIO.op rfl (opR_load_pt (i := 1) Tryz.underlying36 rfl rfl rfl rfl) ?_
    show AI _ _ _ _ _ #[true, true, true, true, false, true, true, true, false, false, false, false] _
    refine AI.two (i := 4) (j := 8) (by kernel_rfl) rfl rfl rfl rfl ?_ ?_
    ·
      first | refine AIO.op rfl (opR_sliceData (i := 0) Tryz.underlying71 rfl rfl) ?_ | refine AIO.op rfl (opR_sliceData (i := 1) Tryz.underlying71 rfl rfl) ?_
      show AI _ _ _ _ _ #[true, true, true, true, true, true, true, true, false, false, false, false] _
      refine AI.one (i := 8) (by kernel_rfl) rfl rfl ?_
      first | refine AIO.op rfl (opR_load_pt (i := 0) Tryz.underlying36 rfl rfl rfl rfl) ?_ | refine AIO.op rfl (opR_load_pt (i := 1) Tryz.underlying36 rfl rfl rfl rfl) ?_
      show AI _ _ _ _ _ #[true, true, true, true, true, true, true, true, true, false, false, false] _
      first | (refine AI.take (i := 9) rfl rfl (by kernel_rfl) (by kernel_rfl) (by kernel_rfl) (fun _ _ h => by obtain ⟨_, _, _, h, _⟩ := h; cases h) (opS_len_sl Tryz.underlying36 rfl) ?_) | (refine AI.take (i := 9) rfl rfl (by kernel_rfl) (by kernel_rfl) (by kernel_rfl) (fun _ _ h => by obtain ⟨_, _, _, h, _⟩ := h; cases h) (opS_len_nil Tryz.underlying36 rfl) ?_)
      show AI _ _ _ _ _ #[true, true, true, true, true, true, true, true, true, true, false, false] _
      refine AI.one (i := 10) (by kernel_rfl) rfl rfl ?_
      first | (refine AIO.op rfl (opR_unsafeString (i := 0) (El := 5) Tryz.underlying71 (by kernel_rfl) rfl rfl rfl ?h2 rfl) ?_; (case h2 => (first | omega | (simp; omega)))) | (refine AIO.op rfl (opR_unsafeString (i := 1) (El := 5) Tryz.underlying71 (by kernel_rfl) rfl rfl rfl ?h3 rfl) ?_; (case h3 => (first | omega | (simp; omega))))
      show AI _ _ _ _ _ #[true, true, true, true, true, true, true, true, true, true, true, false] _
      refine AI.take (i := 11) rfl rfl (by kernel_rfl) (by kernel_rfl) (by kernel_rfl) (fun _ _ h => by obtain ⟨_, _, _, h, _⟩ := h; cases h) (opS_assign (av := .v _) rfl) ?_
      show AI _ _ _ _ _ #[true, true, true, true, true, true, true, true, true, true, true, true] _
      refine AI.done rfl ?_
      show AW _ _ _ _ _ _
      refine AW.ret ?_
      -- END 1 (ret)
      show RetPost _ _ _ _ .ret _
      (refine ⟨rfl, _, _, ResV.oneW rfl ?_, ?_, ⟨rfl, rfl⟩⟩; all_goals first | exact Sub.refl _ | exact Sub.nil _ | ((repeat (first | exact Sub.refl _ | exact Sub.nil _ | refine Sub.cons _ ?_ | refine Sub.skip _ ?_)); done) | exact Wv.refl _ | exact Wv.tok _ _ _ | exact Wv.nil _)
    ·
      first | refine AIO.op rfl (opR_load_pt (i := 0) Tryz.underlying36 rfl rfl rfl rfl) ?_ | refine AIO.op rfl (opR_load_pt (i := 1) Tryz.underlying36 rfl rfl rfl rfl) ?_
      show AI _ _ _ _ _ #[true, true, true, true, false, true, true, true, true, false, false, false] _
      first | (refine AI.take (i := 9) rfl rfl (by kernel_rfl) (by kernel_rfl) (by kernel_rfl) (fun _ _ h => by obtain ⟨_, _, _, h, _⟩ := h; cases h) (opS_len_sl Tryz.underlying36 rfl) ?_) | (refine AI.take (i := 9) rfl rfl (by kernel_rfl) (by kernel_rfl) (by kernel_rfl) (fun _ _ h => by obtain ⟨_, _, _, h, _⟩ := h; cases h) (opS_len_nil Tryz.underlying36 rfl) ?_)
      show AI _ _ _ _ _ #[true, true, true, true, false, true, true, true, true, true, false, false] _
      refine AI.one (i := 4) (by kernel_rfl) rfl rfl ?_
      first | refine AIO.op rfl (opR_sliceData (i := 0) Tryz.underlying71 rfl rfl) ?_ | refine AIO.op rfl (opR_sliceData (i := 1) Tryz.underlying71 rfl rfl) ?_
      show AI _ _ _ _ _ #[true, true, true, true, true, true, true, true, true, true, false, false] _
      refine AI.one (i := 10) (by kernel_rfl) rfl rfl ?_
      first | (refine AIO.op rfl (opR_unsafeString (i := 0) (El := 5) Tryz.underlying71 (by kernel_rfl) rfl rfl rfl ?h5 rfl) ?_; (case h5 => (first | omega | (simp; omega)))) | (refine AIO.op rfl (opR_unsafeString (i := 1) (El := 5) Tryz.underlying71 (by kernel_rfl) rfl rfl rfl ?h6 rfl) ?_; (case h6 => (first | omega | (simp; omega))))
      show AI _ _ _ _ _ #[true, true, true, true, true, true, true, true, true, true, true, false] _
      refine AI.take (i := 11) rfl rfl (by kernel_rfl) (by kernel_rfl) (by kernel_rfl) (fun _ _ h => by obtain ⟨_, _, _, h, _⟩ := h; cases h) (opS_assign (av := .v _) rfl) ?_
      show AI _ _ _ _ _ #[true, true, true, true, true, true, true, true, true, true, true, true] _
      refine AI.done rfl ?_
      show AW _ _ _ _ _ _
      refine AW.ret ?_
      -- END 2 (ret)
      show RetPost _ _ _ _ .ret _
      (refine ⟨rfl, _, _, ResV.oneW rfl ?_, ?_, ⟨rfl, rfl⟩⟩; all_goals first | exact Sub.refl _ | exact Sub.nil _ | ((repeat (first | exact Sub.refl _ | exact Sub.nil _ | refine Sub.cons _ ?_ | refine Sub.skip _ ?_)); done) | exact Wv.refl _ | exact Wv.tok _ _ _ | exact Wv.nil _)
  ·
    first | refine AIO.op rfl (opR_load_pt (i := 0) Tryz.underlying36 rfl rfl rfl rfl) ?_ | refine AIO.op rfl (opR_load_pt (i := 1) Tryz.underlying36 rfl rfl rfl rfl) ?_
    show AI _ _ _ _ _ #[true, true, true, false, false, true, true, true, true, false, false, false] _
    first | (refine AI.take (i := 9) rfl rfl (by kernel_rfl) (by kernel_rfl) (by kernel_rfl) (fun _ _ h => by obtain ⟨_, _, _, h, _⟩ := h; cases h) (opS_len_sl Tryz.underlying36 rfl) ?_) | (refine AI.take (i := 9) rfl rfl (by kernel_rfl) (by kernel_rfl) (by kernel_rfl) (fun _ _ h => by obtain ⟨_, _, _, h, _⟩ := h; cases h) (opS_len_nil Tryz.underlying36 rfl) ?_)
    show AI _ _ _ _ _ #[true, true, true, false, false, true, true, true, true, true, false, false] _
    refine AI.one (i := 3) (by kernel_rfl) rfl rfl ?_
    first | refine AIO.op rfl (opR_load_pt (i := 0) Tryz.underlying36 rfl rfl rfl rfl) ?_ | refine AIO.op rfl (opR_load_pt (i := 1) Tryz.underlying36 rfl rfl rfl rfl) ?_
    show AI _ _ _ _ _ #[true, true, true, true, false, true, true, true, true, true, false, false] _
    refine AI.one (i := 4) (by kernel_rfl) rfl rfl ?_
    first | refine AIO.op rfl (opR_sliceData (i := 0) Tryz.underlying71 rfl rfl) ?_ | refine AIO.op rfl (opR_sliceData (i := 1) Tryz.underlying71 rfl rfl) ?_
    show AI _ _ _ _ _ #[true, true, true, true, true, true, true, true, true, true, false, false] _
    refine AI.one (i := 10) (by kernel_rfl) rfl rfl ?_
    first | (refine AIO.op rfl (opR_unsafeString (i := 0) (El := 5) Tryz.underlying71 (by kernel_rfl) rfl rfl rfl ?h8 rfl) ?_; (case h8 => (first | omega | (simp; omega)))) | (refine AIO.op rfl (opR_unsafeString (i := 1) (El := 5) Tryz.underlying71 (by kernel_rfl) rfl rfl rfl ?h9 rfl) ?_; (case h9 => (first | omega | (simp; omega))))
    show AI _ _ _ _ _ #[true, true, true, true, true, true, true, true, true, true, true, false] _
    refine AI.take (i := 11) rfl rfl (by kernel_rfl) (by kernel_rfl) (by kernel_rfl) (fun _ _ h => by obtain ⟨_, _, _, h, _⟩ := h; cases h) (opS_assign (av := .v _) rfl) ?_
    show AI _ _ _ _ _ #[true, true, true, true, true, true, true, true, true, true, true, true] _
    refine AI.done rfl ?_
    show AW _ _ _ _ _ _
    refine AW.ret ?_
    -- END 3 (ret)
    show RetPost _ _ _ _ .ret _
    (refine ⟨rfl, _, _, ResV.oneW rfl ?_, ?_, ⟨rfl, rfl⟩⟩; all_goals first | exact Sub.refl _ | exact Sub.nil _ | ((repeat (first | exact Sub.refl _ | exact Sub.nil _ | refine Sub.cons _ ?_ | refine Sub.skip _ ?_)); done) | exact Wv.refl _ | exact Wv.tok _ _ _ | exact Wv.nil _)

/-! (*strings.Builder).grow -/
set_option maxRecDepth 100000 in
set_option maxHeartbeats 1000000 in
theorem Builder_grow0 (o : Nat) (a : AV) (n : Nat) (hn : n ≤ 1000000000) :
    ACalls Tryz.prog 45 [.pt o 0, i64 n] [.obj o [a, nilS]] (fun e A' => e = .ret (.tup []) ∧ ∃ t', A' = [.tok t' 5, .obj o [a, slE Enc.byte [] (some t')]]) := by
  refine ACalls.of_body Tryz.func45 rfl rfl ?_
  show AW _ _ 30 _ _ _
  refine AW.seq ?_
  refine AW.region_draw (by kernel_rfl) ?_
  show AI _ _ _ _ 16 (Array.replicate 16 false) _
  first | (refine AI.take (i := 0) rfl rfl (by kernel_rfl) (by kernel_rfl) (by kernel_rfl) (fun _ _ h => by obtain ⟨_, _, _, h, _⟩ := h; cases h) (opS_move (av := .pt _ _) rfl) ?_) | (refine AI.take (i := 0) rfl rfl (by kernel_rfl) (by kernel_rfl) (by kernel_rfl) (fun _ _ h => by obtain ⟨_, _, _, h, _⟩ := h; cases h) (opS_move (av := .cp _) rfl) ?_) | (refine AI.take (i := 0) rfl rfl (by kernel_rfl) (by kernel_rfl) (by kernel_rfl) (fun _ _ h => by obtain ⟨_, _, _, h, _⟩ := h; cases h) (opS_move (av := .v _) rfl) ?_)
  show AI _ _ _ _ _ #[true, false, false, false, false, false, false, false, false, false, false, false, false, false, false, false] _
  first | (refine AI.take (i := 1) rfl rfl (by kernel_rfl) (by kernel_rfl) (by kernel_rfl) (fun _ _ h => by obtain ⟨_, _, _, h, _⟩ := h; cases h) (opS_nilCheck_pt rfl) ?_) | (refine AI.take (i := 1) rfl rfl (by kernel_rfl) (by kernel_rfl) (by kernel_rfl) (fun _ _ h => by obtain ⟨_, _, _, h, _⟩ := h; cases h) (opS_nilCheck_cp rfl) ?_) | (refine AI.take (i := 1) rfl rfl (by kernel_rfl) (by kernel_rfl) (by kernel_rfl) (fun _ _ h => by obtain ⟨_, _, _, h, _⟩ := h; cases h) (opS_nilCheck_fn rfl) ?_)
  show AI _ _ _ _ _ #[true, true, false, false, false, false, false, false, false, false, false, false, false, false, false, false] _
  refine AI.take (i := 2) rfl rfl (by kernel_rfl) (by kernel_rfl) (by kernel_rfl) (fun _ _ h => by obtain ⟨_, _, _, h, _⟩ := h; cases h) (opS_fieldAddr_pt (n := 1) (by kernel_rfl) rfl) ?_
  show AI _ _ _ _ _ #[true, true, true, false, false, false, false, false, false, false, false, false, false, false, false, false] _
  refine AI.take (i := 6) rfl rfl (by kernel_rfl) (by kernel_rfl) (by kernel_rfl) (fun _ _ h => by obtain ⟨_, _, _, h, _⟩ := h; cases h) (opS_move (av := .v _) rfl) ?_
  show AI _ _ _ _ _ #[true, true, true, false, false, false, true, false, false, false, false, false, false, false, false, false] _
  first | (refine AI.take (i := 9) rfl rfl (by kernel_rfl) (by kernel_rfl) (by kernel_rfl) (fun _ _ h => by obtain ⟨_, _, _, h, _⟩ := h; cases h) (opS_move (av := .pt _ _) rfl) ?_) | (refine AI.take (i := 9) rfl rfl (by kernel_rfl) (by kernel_rfl) (by kernel_rfl) (fun _ _ h => by obtain ⟨_, _, _, h, _⟩ := h; cases h) (opS_move (av := .cp _) rfl) ?_) | (refine AI.take (i := 9) rfl rfl (by kernel_rfl) (by kernel_rfl) (by kernel_rfl) (fun _ _ h => by obtain ⟨_, _, _, h, _⟩ := h; cases h) (opS_move (av := .v _) rfl) ?_)
  show AI _ _ _ _ _ #[true, true, true, false, false, false, true, false, false, true, false, false, false, false, false, false] _
  first | (refine AI.take (i := 10) rfl rfl (by kernel_rfl) (by kernel_rfl) (by kernel_rfl) (fun _ _ h => by obtain ⟨_, _, _, h, _⟩ := h; cases h) (opS_nilCheck_pt rfl) ?_) | (refine AI.take (i := 10) rfl rfl (by kernel_rfl) (by kernel_rfl) (by kernel_rfl) (fun _ _ h => by obtain ⟨_, _, _, h, _⟩ := h; cases h) (opS_nilCheck_cp rfl) ?_) | (refine AI.take (i := 10) rfl rfl (by kernel_rfl) (by kernel_rfl) (by kernel_rfl) (fun _ _ h => by obtain ⟨_, _, _, h, _⟩ := h; cases h) (opS_nilCheck_fn rfl) ?_)
  show AI _ _ _ _ _ #[true, true, true, false, false, false, true, false, false, true, true, false, false, false, false, false] _
  refine AI.take (i := 11) rfl rfl (by kernel_rfl) (by kernel_rfl) (by kernel_rfl) (fun _ _ h => by obtain ⟨_, _, _, h, _⟩ := h; cases h) (opS_fieldAddr_pt (n := 1) (by kernel_rfl) rfl) ?_
  show AI _ _ _ _ _ #[true, true, true, false, false, false, true, false, false, true, true, true, false, false, false, false] _
  refine AI.two (i := 3) (j := 12) (by kernel_rfl) rfl rfl rfl rfl ?_ ?_
  ·
    first | refine AIO.op rfl (opR_load_pt (i := 0) Tryz.underlying36 rfl rfl rfl rfl) ?_ | refine AIO.op rfl (opR_load_pt (i := 1) Tryz.underlying36 rfl rfl rfl rfl) ?_
    show AI _ _ _ _ _ #[true, true, true, true, false, false, true, false, false, true, true, true, false, false, false, false] _
    first | (refine AI.take (i := 4) rfl rfl (by kernel_rfl) (by kernel_rfl) (by kernel_rfl) (fun _ _ h => by obtain ⟨_, _, _, h, _⟩ := h; cases h) (opS_cap_nil Tryz.underlying36 rfl) ?_) | (refine AI.take (i := 4) rfl rfl (by kernel_rfl) (by kernel_rfl) (by kernel_rfl) (fun _ _ h => by obtain ⟨_, _, _, h, _⟩ := h; cases h) (opS_cap_vw Tryz.underlying36 rfl) ?_)
    show AI _ _ _ _ _ #[true, true, true, true, true, false, true, false, false, true, true, true, false, false, false, false] _
    refine AI.take (i := 5) rfl rfl (by kernel_rfl) (by kernel_rfl) (by kernel_rfl) (fun _ _ h => by obtain ⟨_, _, _, h, _⟩ := h; cases h) (opS_mul rfl rfl ?h2) ?_; (case h2 => (omega))
    show AI _ _ _ _ _ #[true, true, true, true, true, true, true, false, false, true, true, true, false, false, false, false] _
    refine AI.take (i := 7) rfl rfl (by kernel_rfl) (by kernel_rfl) (by kernel_rfl) (fun _ _ h => by obtain ⟨_, _, _, h, _⟩ := h; cases h) (opS_add rfl rfl ?h4) ?_; (case h4 => (omega))
    show AI _ _ _ _ _ #[true, true, true, true, true, true, true, true, false, true, true, true, false, false, false, false] _
    refine AI.two (i := 8) (j := 12) (by kernel_rfl) rfl rfl rfl rfl ?_ ?_
    ·
      refine AIO.opx rfl (opX_makeNoZero (m := n) (ps := #[3]) (t0 := 36) Tryz.func62 ⟨by kernel_rfl, by kernel_rfl, by kernel_rfl, by kernel_rfl⟩ Tryz.underlying36 rfl ?h7 ?h8) ?_; (case h7 => (omega)); (case h8 => (first | omega | (simp; omega)))
      rintro _ _ ⟨t13, rfl, rfl⟩
      show AI _ _ _ _ _ #[true, true, true, true, true, true, true, true, true, true, true, true, false, false, false, false] _
      refine AI.one (i := 12) (by kernel_rfl) rfl rfl ?_
      first | refine AIO.op rfl (opR_load_pt (i := 0) Tryz.underlying36 rfl rfl rfl rfl) ?_ | refine AIO.op rfl (opR_load_pt (i := 1) Tryz.underlying36 rfl rfl rfl rfl) ?_
      show AI _ _ _ _ _ #[true, true, true, true, true, true, true, true, true, true, true, true, true, false, false, false] _
      first | (refine AI.take (i := 13) rfl rfl (by kernel_rfl) (by kernel_rfl) (by kernel_rfl) (fun _ _ h => by obtain ⟨_, _, _, h, _⟩ := h; cases h) (opS_len_sl Tryz.underlying36 rfl) ?_) | (refine AI.take (i := 13) rfl rfl (by kernel_rfl) (by kernel_rfl) (by kernel_rfl) (fun _ _ h => by obtain ⟨_, _, _, h, _⟩ := h; cases h) (opS_len_nil Tryz.underlying36 rfl) ?_)
      show AI _ _ _ _ _ #[true, true, true, true, true, true, true, true, true, true, true, true, true, true, false, false] _
      refine AI.take (i := 14) rfl rfl (by kernel_rfl) (by kernel_rfl) (by kernel_rfl) (fun _ _ h => by obtain ⟨_, _, _, h, _⟩ := h; cases h) (opS_slice_mk (E := Enc.byte) Tryz.underlying36 (by kernel_rfl) rfl rfl rfl ?h9) ?_; (case h9 => (first | rfl | omega))
      show AI _ _ _ _ _ #[true, true, true, true, true, true, true, true, true, true, true, true, true, true, true, false] _
      first | (refine AI.take (i := 15) rfl rfl (by kernel_rfl) (by kernel_rfl) (by kernel_rfl) (fun _ _ h => by obtain ⟨_, _, _, h, _⟩ := h; cases h) (opS_assign (av := slE _ _ _) rfl) ?_) | (refine AI.take (i := 15) rfl rfl (by kernel_rfl) (by kernel_rfl) (by kernel_rfl) (fun _ _ h => by obtain ⟨_, _, _, h, _⟩ := h; cases h) (opS_assign (av := .v _) rfl) ?_) | (refine AI.take (i := 15) rfl rfl (by kernel_rfl) (by kernel_rfl) (by kernel_rfl) (fun _ _ h => by obtain ⟨_, _, _, h, _⟩ := h; cases h) (opS_assign (av := .vw _ _ _ _) rfl) ?_)
      show AI _ _ _ _ _ #[true, true, true, true, true, true, true, true, true, true, true, true, true, true, true, true] _
      refine AI.done rfl ?_
      show AW _ _ _ _ _ _
      refine AW.seq ?_
      refine AW.region ?_
      show AR _ _ _ _ _ [0, 1, 2, 3, 4, 5] _
      refine AR.run rfl rfl ?_
      first | (refine AO.ops rfl rfl (opS_move (av := slE _ _ _) rfl) ?_) | (refine AO.ops rfl rfl (opS_move (av := .v _) rfl) ?_) | (refine AO.ops rfl rfl (opS_move (av := .vw _ _ _ _) rfl) ?_)
      refine AR.run rfl rfl ?_
      first | (refine AO.ops rfl rfl (opS_move (av := .pt _ _) rfl) ?_) | (refine AO.ops rfl rfl (opS_move (av := .cp _) rfl) ?_) | (refine AO.ops rfl rfl (opS_move (av := .v _) rfl) ?_)
      refine AR.run rfl rfl ?_
      first | (refine AO.ops rfl rfl (opS_nilCheck_pt rfl) ?_) | (refine AO.ops rfl rfl (opS_nilCheck_cp rfl) ?_) | (refine AO.ops rfl rfl (opS_nilCheck_fn rfl) ?_)
      refine AR.run rfl rfl ?_
      refine AO.ops rfl rfl (opS_fieldAddr_pt (n := 1) (by kernel_rfl) rfl) ?_
      refine AR.run rfl rfl ?_
      first | refine AO.ops rfl rfl (opS_load_cp Tryz.underlying36 rfl rfl) ?_ | refine AO.op rfl rfl (opR_load_pt (i := 0) Tryz.underlying36 rfl rfl rfl rfl) ?_ | refine AO.op rfl rfl (opR_load_pt (i := 1) Tryz.underlying36 rfl rfl rfl rfl) ?_
      refine AR.run rfl rfl ?_
      first | (refine AO.op rfl rfl (OpS.opR (opS_copy_zero (E := Enc.byte) Tryz.underlying36 (by kernel_rfl) rfl rfl) _) ?_) | (refine AO.op rfl rfl (opR_copy_sl (E := Enc.byte) (i := 0) Tryz.underlying36 (by kernel_rfl) rfl rfl rfl ?h12 ?h13) ?_; (case h12 => (first | omega | (simp; omega))); (case h13 => (first | omega | (simp; omega)))) | (refine AO.op rfl rfl (opR_copy_sl (E := Enc.byte) (i := 1) Tryz.underlying36 (by kernel_rfl) rfl rfl rfl ?h14 ?h15) ?_; (case h14 => (first | omega | (simp; omega))); (case h15 => (first | omega | (simp; omega)))) | (refine AO.op rfl rfl (opR_copy_str (i := 0) Tryz.underlying36 (by kernel_rfl) rfl rfl rfl ?h16 ?h17) ?_; (case h16 => (first | omega | (simp; omega))); (case h17 => (first | omega | (simp; omega)))) | (refine AO.op rfl rfl (opR_copy_str (i := 1) Tryz.underlying36 (by kernel_rfl) rfl rfl rfl ?h18 ?h19) ?_; (case h18 => (first | omega | (simp; omega))); (case h19 => (first | omega | (simp; omega))))
      refine AR.nil ?_
      show AW _ _ _ _ _ _
      refine AW.region ?_
      show AR _ _ _ _ _ [0, 1, 2, 3, 4] _
      refine AR.run rfl rfl ?_
      first | (refine AO.ops rfl rfl (opS_move (av := .pt _ _) rfl) ?_) | (refine AO.ops rfl rfl (opS_move (av := .cp _) rfl) ?_) | (refine AO.ops rfl rfl (opS_move (av := .v _) rfl) ?_)
      refine AR.run rfl rfl ?_
      first | (refine AO.ops rfl rfl (opS_move (av := slE _ _ _) rfl) ?_) | (refine AO.ops rfl rfl (opS_move (av := .v _) rfl) ?_) | (refine AO.ops rfl rfl (opS_move (av := .vw _ _ _ _) rfl) ?_)
      refine AR.run rfl rfl ?_
      first | (refine AO.ops rfl rfl (opS_nilCheck_pt rfl) ?_) | (refine AO.ops rfl rfl (opS_nilCheck_cp rfl) ?_) | (refine AO.ops rfl rfl (opS_nilCheck_fn rfl) ?_)
      refine AR.run rfl rfl ?_
      refine AO.ops rfl rfl (opS_fieldAddr_pt (n := 1) (by kernel_rfl) rfl) ?_
      refine AR.run rfl rfl ?_
      first | (refine AO.op0 rfl (opR_store_pt (i := 0) (c := slE _ _ _) (by kernel_rfl) rfl rfl rfl rfl ?h21) ?_; (case h21 => (simp))) | (refine AO.op0 rfl (opR_store_pt (i := 0) (c := .v _) (by kernel_rfl) rfl rfl rfl rfl ?h22) ?_; (case h22 => (simp))) | (refine AO.op0 rfl (opR_store_pt (i := 0) (c := .vw _ _ _ _) (by kernel_rfl) rfl rfl rfl rfl ?h23) ?_; (case h23 => (simp))) | (refine AO.op0 rfl (opR_store_pt (i := 1) (c := slE _ _ _) (by kernel_rfl) rfl rfl rfl rfl ?h24) ?_; (case h24 => (simp))) | (refine AO.op0 rfl (opR_store_pt (i := 1) (c := .v _) (by kernel_rfl) rfl rfl rfl rfl ?h25) ?_; (case h25 => (simp))) | (refine AO.op0 rfl (opR_store_pt (i := 1) (c := .vw _ _ _ _) (by kernel_rfl) rfl rfl rfl rfl ?h26) ?_; (case h26 => (simp)))
      refine AR.nil ?_
      -- END 1 (end)
      show RetPost _ _ _ _ .normal _
      exact ⟨rfl, _, _, ResV.none rfl, Sub.refl _, rfl, t13, rfl⟩
    ·
      first | refine AIO.op rfl (opR_load_pt (i := 0) Tryz.underlying36 rfl rfl rfl rfl) ?_ | refine AIO.op rfl (opR_load_pt (i := 1) Tryz.underlying36 rfl rfl rfl rfl) ?_
      show AI _ _ _ _ _ #[true, true, true, true, true, true, true, true, false, true, true, true, true, false, false, false] _
      first | (refine AI.take (i := 13) rfl rfl (by kernel_rfl) (by kernel_rfl) (by kernel_rfl) (fun _ _ h => by obtain ⟨_, _, _, h, _⟩ := h; cases h) (opS_len_sl Tryz.underlying36 rfl) ?_) | (refine AI.take (i := 13) rfl rfl (by kernel_rfl) (by kernel_rfl) (by kernel_rfl) (fun _ _ h => by obtain ⟨_, _, _, h, _⟩ := h; cases h) (opS_len_nil Tryz.underlying36 rfl) ?_)
      show AI _ _ _ _ _ #[true, true, true, true, true, true, true, true, false, true, true, true, true, true, false, false] _
      refine AI.one (i := 8) (by kernel_rfl) rfl rfl ?_
      refine AIO.opx rfl (opX_makeNoZero (m := n) (ps := #[3]) (t0 := 36) Tryz.func62 ⟨by kernel_rfl, by kernel_rfl, by kernel_rfl, by kernel_rfl⟩ Tryz.underlying36 rfl ?h29 ?h30) ?_; (case h29 => (omega)); (case h30 => (first | omega | (simp; omega)))
      rintro _ _ ⟨t13, rfl, rfl⟩
      show AI _ _ _ _ _ #[true, true, true, true, true, true, true, true, true, true, true, true, true, true, false, false] _
      refine AI.take (i := 14) rfl rfl (by kernel_rfl) (by kernel_rfl) (by kernel_rfl) (fun _ _ h => by obtain ⟨_, _, _, h, _⟩ := h; cases h) (opS_slice_mk (E := Enc.byte) Tryz.underlying36 (by kernel_rfl) rfl rfl rfl ?h31) ?_; (case h31 => (first | rfl | omega))
      show AI _ _ _ _ _ #[true, true, true, true, true, true, true, true, true, true, true, true, true, true, true, false] _
      first | (refine AI.take (i := 15) rfl rfl (by kernel_rfl) (by kernel_rfl) (by kernel_rfl) (fun _ _ h => by obtain ⟨_, _, _, h, _⟩ := h; cases h) (opS_assign (av := slE _ _ _) rfl) ?_) | (refine AI.take (i := 15) rfl rfl (by kernel_rfl) (by kernel_rfl) (by kernel_rfl) (fun _ _ h => by obtain ⟨_, _, _, h, _⟩ := h; cases h) (opS_assign (av := .v _) rfl) ?_) | (refine AI.take (i := 15) rfl rfl (by kernel_rfl) (by kernel_rfl) (by kernel_rfl) (fun _ _ h => by obtain ⟨_, _, _, h, _⟩ := h; cases h) (opS_assign (av := .vw _ _ _ _) rfl) ?_)
      show AI _ _ _ _ _ #[true, true, true, true, true, true, true, true, true, true, true, true, true, true, true, true] _
      refine AI.done rfl ?_
      show AW _ _ _ _ _ _
      refine AW.seq ?_
      refine AW.region ?_
      show AR _ _ _ _ _ [0, 1, 2, 3, 4, 5] _
      refine AR.run rfl rfl ?_
      first | (refine AO.ops rfl rfl (opS_move (av := slE _ _ _) rfl) ?_) | (refine AO.ops rfl rfl (opS_move (av := .v _) rfl) ?_) | (refine AO.ops rfl rfl (opS_move (av := .vw _ _ _ _) rfl) ?_)
      refine AR.run rfl rfl ?_
      first | (refine AO.ops rfl rfl (opS_move (av := .pt _ _) rfl) ?_) | (refine AO.ops rfl rfl (opS_move (av := .cp _) rfl) ?_) | (refine AO.ops rfl rfl (opS_move (av := .v _) rfl) ?_)
      refine AR.run rfl rfl ?_
      first | (refine AO.ops rfl rfl (opS_nilCheck_pt rfl) ?_) | (refine AO.ops rfl rfl (opS_nilCheck_cp rfl) ?_) | (refine AO.ops rfl rfl (opS_nilCheck_fn rfl) ?_)
      refine AR.run rfl rfl ?_
      refine AO.ops rfl rfl (opS_fieldAddr_pt (n := 1) (by kernel_rfl) rfl) ?_
      refine AR.run rfl rfl ?_
      first | refine AO.ops rfl rfl (opS_load_cp Tryz.underlying36 rfl rfl) ?_ | refine AO.op rfl rfl (opR_load_pt (i := 0) Tryz.underlying36 rfl rfl rfl rfl) ?_ | refine AO.op rfl rfl (opR_load_pt (i := 1) Tryz.underlying36 rfl rfl rfl rfl) ?_
      refine AR.run rfl rfl ?_
      first | (refine AO.op rfl rfl (OpS.opR (opS_copy_zero (E := Enc.byte) Tryz.underlying36 (by kernel_rfl) rfl rfl) _) ?_) | (refine AO.op rfl rfl (opR_copy_sl (E := Enc.byte) (i := 0) Tryz.underlying36 (by kernel_rfl) rfl rfl rfl ?h34 ?h35) ?_; (case h34 => (first | omega | (simp; omega))); (case h35 => (first | omega | (simp; omega)))) | (refine AO.op rfl rfl (opR_copy_sl (E := Enc.byte) (i := 1) Tryz.underlying36 (by kernel_rfl) rfl rfl rfl ?h36 ?h37) ?_; (case h36 => (first | omega | (simp; omega))); (case h37 => (first | omega | (simp; omega)))) | (refine AO.op rfl rfl (opR_copy_str (i := 0) Tryz.underlying36 (by kernel_rfl) rfl rfl rfl ?h38 ?h39) ?_; (case h38 => (first | omega | (simp; omega))); (case h39 => (first | omega | (simp; omega)))) | (refine AO.op rfl rfl (opR_copy_str (i := 1) Tryz.underlying36 (by kernel_rfl) rfl rfl rfl ?h40 ?h41) ?_; (case h40 => (first | omega | (simp; omega))); (case h41 => (first | omega | (simp; omega))))
      refine AR.nil ?_
      show AW _ _ _ _ _ _
      refine AW.region ?_
      show AR _ _ _ _ _ [0, 1, 2, 3, 4] _
      refine AR.run rfl rfl ?_
      first | (refine AO.ops rfl rfl (opS_move (av := .pt _ _) rfl) ?_) | (refine AO.ops rfl rfl (opS_move (av := .cp _) rfl) ?_) | (refine AO.ops rfl rfl (opS_move (av := .v _) rfl) ?_)
      refine AR.run rfl rfl ?_
      first | (refine AO.ops rfl rfl (opS_move (av := slE _ _ _) rfl) ?_) | (refine AO.ops rfl rfl (opS_move (av := .v _) rfl) ?_) | (refine AO.ops rfl rfl (opS_move (av := .vw _ _ _ _) rfl) ?_)
      refine AR.run rfl rfl ?_
      first | (refine AO.ops rfl rfl (opS_nilCheck_pt rfl) ?_) | (refine AO.ops rfl rfl (opS_nilCheck_cp rfl) ?_) | (refine AO.ops rfl rfl (opS_nilCheck_fn rfl) ?_)
      refine AR.run rfl rfl ?_
      refine AO.ops rfl rfl (opS_fieldAddr_pt (n := 1) (by kernel_rfl) rfl) ?_
      refine AR.run rfl rfl ?_
      first | (refine AO.op0 rfl (opR_store_pt (i := 0) (c := slE _ _ _) (by kernel_rfl) rfl rfl rfl rfl ?h43) ?_; (case h43 => (simp))) | (refine AO.op0 rfl (opR_store_pt (i := 0) (c := .v _) (by kernel_rfl) rfl rfl rfl rfl ?h44) ?_; (case h44 => (simp))) | (refine AO.op0 rfl (opR_store_pt (i := 0) (c := .vw _ _ _ _) (by kernel_rfl) rfl rfl rfl rfl ?h45) ?_; (case h45 => (simp))) | (refine AO.op0 rfl (opR_store_pt (i := 1) (c := slE _ _ _) (by kernel_rfl) rfl rfl rfl rfl ?h46) ?_; (case h46 => (simp))) | (refine AO.op0 rfl (opR_store_pt (i := 1) (c := .v _) (by kernel_rfl) rfl rfl rfl rfl ?h47) ?_; (case h47 => (simp))) | (refine AO.op0 rfl (opR_store_pt (i := 1) (c := .vw _ _ _ _) (by kernel_rfl) rfl rfl rfl rfl ?h48) ?_; (case h48 => (simp)))
      refine AR.nil ?_
      -- END 2 (end)
      show RetPost _ _ _ _ .normal _
      exact ⟨rfl, _, _, ResV.none rfl, Sub.refl _, rfl, t13, rfl⟩
  ·
    first | refine AIO.op rfl (opR_load_pt (i := 0) Tryz.underlying36 rfl rfl rfl rfl) ?_ | refine AIO.op rfl (opR_load_pt (i := 1) Tryz.underlying36 rfl rfl rfl rfl) ?_
    show AI _ _ _ _ _ #[true, true, true, false, false, false, true, false, false, true, true, true, true, false, false, false] _
    first | (refine AI.take (i := 13) rfl rfl (by kernel_rfl) (by kernel_rfl) (by kernel_rfl) (fun _ _ h => by obtain ⟨_, _, _, h, _⟩ := h; cases h) (opS_len_sl Tryz.underlying36 rfl) ?_) | (refine AI.take (i := 13) rfl rfl (by kernel_rfl) (by kernel_rfl) (by kernel_rfl) (fun _ _ h => by obtain ⟨_, _, _, h, _⟩ := h; cases h) (opS_len_nil Tryz.underlying36 rfl) ?_)
    show AI _ _ _ _ _ #[true, true, true, false, false, false, true, false, false, true, true, true, true, true, false, false] _
    refine AI.one (i := 3) (by kernel_rfl) rfl rfl ?_
    first | refine AIO.op rfl (opR_load_pt (i := 0) Tryz.underlying36 rfl rfl rfl rfl) ?_ | refine AIO.op rfl (opR_load_pt (i := 1) Tryz.underlying36 rfl rfl rfl rfl) ?_
    show AI _ _ _ _ _ #[true, true, true, true, false, false, true, false, false, true, true, true, true, true, false, false] _
    first | (refine AI.take (i := 4) rfl rfl (by kernel_rfl) (by kernel_rfl) (by kernel_rfl) (fun _ _ h => by obtain ⟨_, _, _, h, _⟩ := h; cases h) (opS_cap_nil Tryz.underlying36 rfl) ?_) | (refine AI.take (i := 4) rfl rfl (by kernel_rfl) (by kernel_rfl) (by kernel_rfl) (fun _ _ h => by obtain ⟨_, _, _, h, _⟩ := h; cases h) (opS_cap_vw Tryz.underlying36 rfl) ?_)
    show AI _ _ _ _ _ #[true, true, true, true, true, false, true, false, false, true, true, true, true, true, false, false] _
    refine AI.take (i := 5) rfl rfl (by kernel_rfl) (by kernel_rfl) (by kernel_rfl) (fun _ _ h => by obtain ⟨_, _, _, h, _⟩ := h; cases h) (opS_mul rfl rfl ?h50) ?_; (case h50 => (omega))
    show AI _ _ _ _ _ #[true, true, true, true, true, true, true, false, false, true, true, true, true, true, false, false] _
    refine AI.take (i := 7) rfl rfl (by kernel_rfl) (by kernel_rfl) (by kernel_rfl) (fun _ _ h => by obtain ⟨_, _, _, h, _⟩ := h; cases h) (opS_add rfl rfl ?h52) ?_; (case h52 => (omega))
    show AI _ _ _ _ _ #[true, true, true, true, true, true, true, true, false, true, true, true, true, true, false, false] _
    refine AI.one (i := 8) (by kernel_rfl) rfl rfl ?_
    refine AIO.opx rfl (opX_makeNoZero (m := n) (ps := #[3]) (t0 := 36) Tryz.func62 ⟨by kernel_rfl, by kernel_rfl, by kernel_rfl, by kernel_rfl⟩ Tryz.underlying36 rfl ?h55 ?h56) ?_; (case h55 => (omega)); (case h56 => (first | omega | (simp; omega)))
    rintro _ _ ⟨t13, rfl, rfl⟩
    show AI _ _ _ _ _ #[true, true, true, true, true, true, true, true, true, true, true, true, true, true, false, false] _
    refine AI.take (i := 14) rfl rfl (by kernel_rfl) (by kernel_rfl) (by kernel_rfl) (fun _ _ h => by obtain ⟨_, _, _, h, _⟩ := h; cases h) (opS_slice_mk (E := Enc.byte) Tryz.underlying36 (by kernel_rfl) rfl rfl rfl ?h57) ?_; (case h57 => (first | rfl | omega))
    show AI _ _ _ _ _ #[true, true, true, true, true, true, true, true, true, true, true, true, true, true, true, false] _
    first | (refine AI.take (i := 15) rfl rfl (by kernel_rfl) (by kernel_rfl) (by kernel_rfl) (fun _ _ h => by obtain ⟨_, _, _, h, _⟩ := h; cases h) (opS_assign (av := slE _ _ _) rfl) ?_) | (refine AI.take (i := 15) rfl rfl (by kernel_rfl) (by kernel_rfl) (by kernel_rfl) (fun _ _ h => by obtain ⟨_, _, _, h, _⟩ := h; cases h) (opS_assign (av := .v _) rfl) ?_) | (refine AI.take (i := 15) rfl rfl (by kernel_rfl) (by kernel_rfl) (by kernel_rfl) (fun _ _ h => by obtain ⟨_, _, _, h, _⟩ := h; cases h) (opS_assign (av := .vw _ _ _ _) rfl) ?_)
    show AI _ _ _ _ _ #[true, true, true, true, true, true, true, true, true, true, true, true, true, true, true, true] _
    refine AI.done rfl ?_
    show AW _ _ _ _ _ _
    refine AW.seq ?_
    refine AW.region ?_
    show AR _ _ _ _ _ [0, 1, 2, 3, 4, 5] _
    refine AR.run rfl rfl ?_
    first | (refine AO.ops rfl rfl (opS_move (av := slE _ _ _) rfl) ?_) | (refine AO.ops rfl rfl (opS_move (av := .v _) rfl) ?_) | (refine AO.ops rfl rfl (opS_move (av := .vw _ _ _ _) rfl) ?_)
    refine AR.run rfl rfl ?_
    first | (refine AO.ops rfl rfl (opS_move (av := .pt _ _) rfl) ?_) | (refine AO.ops rfl rfl (opS_move (av := .cp _) rfl) ?_) | (refine AO.ops rfl rfl (opS_move (av := .v _) rfl) ?_)
    refine AR.run rfl rfl ?_
    first | (refine AO.ops rfl rfl (opS_nilCheck_pt rfl) ?_) | (refine AO.ops rfl rfl (opS_nilCheck_cp rfl) ?_) | (refine AO.ops rfl rfl (opS_nilCheck_fn rfl) ?_)
    refine AR.run rfl rfl ?_
    refine AO.ops rfl rfl (opS_fieldAddr_pt (n := 1) (by kernel_rfl) rfl) ?_
    refine AR.run rfl rfl ?_
    first | refine AO.ops rfl rfl (opS_load_cp Tryz.underlying36 rfl rfl) ?_ | refine AO.op rfl rfl (opR_load_pt (i := 0) Tryz.underlying36 rfl rfl rfl rfl) ?_ | refine AO.op rfl rfl (opR_load_pt (i := 1) Tryz.underlying36 rfl rfl rfl rfl) ?_
    refine AR.run rfl rfl ?_
    first | (refine AO.op rfl rfl (OpS.opR (opS_copy_zero (E := Enc.byte) Tryz.underlying36 (by kernel_rfl) rfl rfl) _) ?_) | (refine AO.op rfl rfl (opR_copy_sl (E := Enc.byte) (i := 0) Tryz.underlying36 (by kernel_rfl) rfl rfl rfl ?h60 ?h61) ?_; (case h60 => (first | omega | (simp; omega))); (case h61 => (first | omega | (simp; omega)))) | (refine AO.op rfl rfl (opR_copy_sl (E := Enc.byte) (i := 1) Tryz.underlying36 (by kernel_rfl) rfl rfl rfl ?h62 ?h63) ?_; (case h62 => (first | omega | (simp; omega))); (case h63 => (first | omega | (simp; omega)))) | (refine AO.op rfl rfl (opR_copy_str (i := 0) Tryz.underlying36 (by kernel_rfl) rfl rfl rfl ?h64 ?h65) ?_; (case h64 => (first | omega | (simp; omega))); (case h65 => (first | omega | (simp; omega)))) | (refine AO.op rfl rfl (opR_copy_str (i := 1) Tryz.underlying36 (by kernel_rfl) rfl rfl rfl ?h66 ?h67) ?_; (case h66 => (first | omega | (simp; omega))); (case h67 => (first | omega | (simp; omega))))
    refine AR.nil ?_
    show AW _ _ _ _ _ _
    refine AW.region ?_
    show AR _ _ _ _ _ [0, 1, 2, 3, 4] _
    refine AR.run rfl rfl ?_
    first | (refine AO.ops rfl rfl (opS_move (av := .pt _ _) rfl) ?_) | (refine AO.ops rfl rfl (opS_move (av := .cp _) rfl) ?_) | (refine AO.ops rfl rfl (opS_move (av := .v _) rfl) ?_)
    refine AR.run rfl rfl ?_
    first | (refine AO.ops rfl rfl (opS_move (av := slE _ _ _) rfl) ?_) | (refine AO.ops rfl rfl (opS_move (av := .v _) rfl) ?_) | (refine AO.ops rfl rfl (opS_move (av := .vw _ _ _ _) rfl) ?_)
    refine AR.run rfl rfl ?_
    first | (refine AO.ops rfl rfl (opS_nilCheck_pt rfl) ?_) | (refine AO.ops rfl rfl (opS_nilCheck_cp rfl) ?_) | (refine AO.ops rfl rfl (opS_nilCheck_fn rfl) ?_)
    refine AR.run rfl rfl ?_
    refine AO.ops rfl rfl (opS_fieldAddr_pt (n := 1) (by kernel_rfl) rfl) ?_
    refine AR.run rfl rfl ?_
    first | (refine AO.op0 rfl (opR_store_pt (i := 0) (c := slE _ _ _) (by kernel_rfl) rfl rfl rfl rfl ?h69) ?_; (case h69 => (simp))) | (refine AO.op0 rfl (opR_store_pt (i := 0) (c := .v _) (by kernel_rfl) rfl rfl rfl rfl ?h70) ?_; (case h70 => (simp))) | (refine AO.op0 rfl (opR_store_pt (i := 0) (c := .vw _ _ _ _) (by kernel_rfl) rfl rfl rfl rfl ?h71) ?_; (case h71 => (simp))) | (refine AO.op0 rfl (opR_store_pt (i := 1) (c := slE _ _ _) (by kernel_rfl) rfl rfl rfl rfl ?h72) ?_; (case h72 => (simp))) | (refine AO.op0 rfl (opR_store_pt (i := 1) (c := .v _) (by kernel_rfl) rfl rfl rfl rfl ?h73) ?_; (case h73 => (simp))) | (refine AO.op0 rfl (opR_store_pt (i := 1) (c := .vw _ _ _ _) (by kernel_rfl) rfl rfl rfl rfl ?h74) ?_; (case h74 => (simp)))
    refine AR.nil ?_
    -- END 3 (end)
    show RetPost _ _ _ _ .normal _
    exact ⟨rfl, _, _, ResV.none rfl, Sub.refl _, rfl, t13, rfl⟩

/-! (*strings.Builder).Grow -/
set_option maxRecDepth 100000 in
set_option maxHeartbeats 1000000 in
theorem Builder_Grow0Z (o : Nat) (a : AV) (ha : a = .v (.pointer none) ∨ a = .pt o 0) (n : Nat) (hn : n ≤ 1000000000) (hz : n = 0) :
    ACalls Tryz.prog 36 [.pt o 0, i64 n] [.obj o [a, nilS], .ty o 44] (fun e A' => e = .ret (.tup []) ∧ A' = [.obj o [.pt o 0, nilS], .ty o 44]) := by
  refine ACalls.of_body Tryz.func36 rfl rfl ?_
  show AW _ _ 25 _ _ _
  refine AW.seq ?_
  refine AW.region ?_
  show AR _ _ _ _ _ [0, 1] _
  refine AR.run rfl rfl ?_
  first | (refine AO.ops rfl rfl (opS_move (av := .pt _ _) rfl) ?_) | (refine AO.ops rfl rfl (opS_move (av := .cp _) rfl) ?_) | (refine AO.ops rfl rfl (opS_move (av := .v _) rfl) ?_)
  refine AR.run rfl rfl ?_
  refine AO.call [] rfl en38 rfl (Builder_copyCheck0  o a nilS ha) ?p1 ?k1 ?q1
  (case p1 => (exact List.Perm.refl _))
  (case q1 => (rintro c A' ⟨h, _⟩; cases h))
  rintro av A' ⟨h, rfl⟩; cases h
  refine AR.nil ?_
  show AW _ _ _ _ _ _
  refine AW.seq ?_
  refine AW.seq ?_
  refine AW.region ?_
  show AR _ _ _ _ _ [0, 1] _
  refine AR.run rfl rfl ?_
  refine AO.ops rfl rfl (opS_move (av := .v _) rfl) ?_
  refine AR.run rfl rfl ?_
  refine AO.ops rfl rfl (opS_lt rfl rfl) ?_
  refine AR.nil ?_
  show AW _ _ _ _ _ _
  refine AW.cond rfl (fun c1 => ?_) (fun c1 => ?_)
  ·
    have c1p := c1; try simp only [decide_eq_true_eq, decide_eq_false_iff_not, Bool.not_eq_true', Bool.not_eq_false', Bool.not_true, Bool.not_false, Bool.not_eq_eq_eq_not] at c1p
    refine AW.region ?_
    show AR _ _ _ _ _ [0, 1] _
    refine AR.run rfl rfl ?_
    refine AO.ops rfl rfl (opS_makeInterface (a := .v _) Tryz.underlying9 rfl rfl) ?_
    refine AR.run rfl rfl ?_
    exfalso; first | omega | simp_all
  ·
    have c1p := c1; try simp only [decide_eq_true_eq, decide_eq_false_iff_not, Bool.not_eq_true', Bool.not_eq_false', Bool.not_true, Bool.not_false, Bool.not_eq_eq_eq_not] at c1p
    refine AW.skip ?_
    show AW _ _ _ _ _ _
    refine AW.seq ?_
    refine AW.region_draw (by kernel_rfl) ?_
    show AI _ _ _ _ 13 (Array.replicate 13 false) _
    first | (refine AI.take (i := 0) rfl rfl (by kernel_rfl) (by kernel_rfl) (by kernel_rfl) (fun _ _ h => by obtain ⟨_, _, _, h, _⟩ := h; cases h) (opS_move (av := .pt _ _) rfl) ?_) | (refine AI.take (i := 0) rfl rfl (by kernel_rfl) (by kernel_rfl) (by kernel_rfl) (fun _ _ h => by obtain ⟨_, _, _, h, _⟩ := h; cases h) (opS_move (av := .cp _) rfl) ?_) | (refine AI.take (i := 0) rfl rfl (by kernel_rfl) (by kernel_rfl) (by kernel_rfl) (fun _ _ h => by obtain ⟨_, _, _, h, _⟩ := h; cases h) (opS_move (av := .v _) rfl) ?_)
    show AI _ _ _ _ _ #[true, false, false, false, false, false, false, false, false, false, false, false, false] _
    first | (refine AI.take (i := 1) rfl rfl (by kernel_rfl) (by kernel_rfl) (by kernel_rfl) (fun _ _ h => by obtain ⟨_, _, _, h, _⟩ := h; cases h) (opS_nilCheck_pt rfl) ?_) | (refine AI.take (i := 1) rfl rfl (by kernel_rfl) (by kernel_rfl) (by kernel_rfl) (fun _ _ h => by obtain ⟨_, _, _, h, _⟩ := h; cases h) (opS_nilCheck_cp rfl) ?_) | (refine AI.take (i := 1) rfl rfl (by kernel_rfl) (by kernel_rfl) (by kernel_rfl) (fun _ _ h => by obtain ⟨_, _, _, h, _⟩ := h; cases h) (opS_nilCheck_fn rfl) ?_)
    show AI _ _ _ _ _ #[true, true, false, false, false, false, false, false, false, false, false, false, false] _
    refine AI.take (i := 2) rfl rfl (by kernel_rfl) (by kernel_rfl) (by kernel_rfl) (fun _ _ h => by obtain ⟨_, _, _, h, _⟩ := h; cases h) (opS_fieldAddr_pt (n := 1) (by kernel_rfl) rfl) ?_
    show AI _ _ _ _ _ #[true, true, true, false, false, false, false, false, false, false, false, false, false] _
    first | (refine AI.take (i := 5) rfl rfl (by kernel_rfl) (by kernel_rfl) (by kernel_rfl) (fun _ _ h => by obtain ⟨_, _, _, h, _⟩ := h; cases h) (opS_move (av := .pt _ _) rfl) ?_) | (refine AI.take (i := 5) rfl rfl (by kernel_rfl) (by kernel_rfl) (by kernel_rfl) (fun _ _ h => by obtain ⟨_, _, _, h, _⟩ := h; cases h) (opS_move (av := .cp _) rfl) ?_) | (refine AI.take (i := 5) rfl rfl (by kernel_rfl) (by kernel_rfl) (by kernel_rfl) (fun _ _ h => by obtain ⟨_, _, _, h, _⟩ := h; cases h) (opS_move (av := .v _) rfl) ?_)
    show AI _ _ _ _ _ #[true, true, true, false, false, true, false, false, false, false, false, false, false] _
    first | (refine AI.take (i := 6) rfl rfl (by kernel_rfl) (by kernel_rfl) (by kernel_rfl) (fun _ _ h => by obtain ⟨_, _, _, h, _⟩ := h; cases h) (opS_nilCheck_pt rfl) ?_) | (refine AI.take (i := 6) rfl rfl (by kernel_rfl) (by kernel_rfl) (by kernel_rfl) (fun _ _ h => by obtain ⟨_, _, _, h, _⟩ := h; cases h) (opS_nilCheck_cp rfl) ?_) | (refine AI.take (i := 6) rfl rfl (by kernel_rfl) (by kernel_rfl) (by kernel_rfl) (fun _ _ h => by obtain ⟨_, _, _, h, _⟩ := h; cases h) (opS_nilCheck_fn rfl) ?_)
    show AI _ _ _ _ _ #[true, true, true, false, false, true, true, false, false, false, false, false, false] _
    refine AI.take (i := 7) rfl rfl (by kernel_rfl) (by kernel_rfl) (by kernel_rfl) (fun _ _ h => by obtain ⟨_, _, _, h, _⟩ := h; cases h) (opS_fieldAddr_pt (n := 1) (by kernel_rfl) rfl) ?_
    show AI _ _ _ _ _ #[true, true, true, false, false, true, true, true, false, false, false, false, false] _
    refine AI.take (i := 11) rfl rfl (by kernel_rfl) (by kernel_rfl) (by kernel_rfl) (fun _ _ h => by obtain ⟨_, _, _, h, _⟩ := h; cases h) (opS_move (av := .v _) rfl) ?_
    show AI _ _ _ _ _ #[true, true, true, false, false, true, true, true, false, false, false, true, false] _
    refine AI.two (i := 3) (j := 8) (by kernel_rfl) rfl rfl rfl rfl ?_ ?_
    ·
      first | refine AIO.op rfl (opR_load_pt (i := 0) Tryz.underlying36 rfl rfl rfl rfl) ?_ | refine AIO.op rfl (opR_load_pt (i := 1) Tryz.underlying36 rfl rfl rfl rfl) ?_
      show AI _ _ _ _ _ #[true, true, true, true, false, true, true, true, false, false, false, true, false] _
      first | (refine AI.take (i := 4) rfl rfl (by kernel_rfl) (by kernel_rfl) (by kernel_rfl) (fun _ _ h => by obtain ⟨_, _, _, h, _⟩ := h; cases h) (opS_cap_nil Tryz.underlying36 rfl) ?_) | (refine AI.take (i := 4) rfl rfl (by kernel_rfl) (by kernel_rfl) (by kernel_rfl) (fun _ _ h => by obtain ⟨_, _, _, h, _⟩ := h; cases h) (opS_cap_vw Tryz.underlying36 rfl) ?_)
      show AI _ _ _ _ _ #[true, true, true, true, true, true, true, true, false, false, false, true, false] _
      refine AI.one (i := 8) (by kernel_rfl) rfl rfl ?_
      first | refine AIO.op rfl (opR_load_pt (i := 0) Tryz.underlying36 rfl rfl rfl rfl) ?_ | refine AIO.op rfl (opR_load_pt (i := 1) Tryz.underlying36 rfl rfl rfl rfl) ?_
      show AI _ _ _ _ _ #[true, true, true, true, true, true, true, true, true, false, false, true, false] _
      first | (refine AI.take (i := 9) rfl rfl (by kernel_rfl) (by kernel_rfl) (by kernel_rfl) (fun _ _ h => by obtain ⟨_, _, _, h, _⟩ := h; cases h) (opS_len_sl Tryz.underlying36 rfl) ?_) | (refine AI.take (i := 9) rfl rfl (by kernel_rfl) (by kernel_rfl) (by kernel_rfl) (fun _ _ h => by obtain ⟨_, _, _, h, _⟩ := h; cases h) (opS_len_nil Tryz.underlying36 rfl) ?_)
      show AI _ _ _ _ _ #[true, true, true, true, true, true, true, true, true, true, false, true, false] _
      refine AI.take (i := 10) rfl rfl (by kernel_rfl) (by kernel_rfl) (by kernel_rfl) (fun _ _ h => by obtain ⟨_, _, _, h, _⟩ := h; cases h) (opS_sub rfl rfl ?h2) ?_; (case h2 => (omega))
      show AI _ _ _ _ _ #[true, true, true, true, true, true, true, true, true, true, true, true, false] _
      refine AI.take (i := 12) rfl rfl (by kernel_rfl) (by kernel_rfl) (by kernel_rfl) (fun _ _ h => by obtain ⟨_, _, _, h, _⟩ := h; cases h) (opS_lt rfl rfl) ?_
      show AI _ _ _ _ _ #[true, true, true, true, true, true, true, true, true, true, true, true, true] _
      refine AI.done rfl ?_
      show AW _ _ _ _ _ _
      refine AW.cond rfl (fun c2 => ?_) (fun c2 => ?_)
      ·
        have c2p := c2; try simp only [decide_eq_true_eq, decide_eq_false_iff_not, Bool.not_eq_true', Bool.not_eq_false', Bool.not_true, Bool.not_false, Bool.not_eq_eq_eq_not] at c2p
        refine AW.region ?_
        show AR _ _ _ _ _ [0, 1, 2] _
        refine AR.run rfl rfl ?_
        first | (refine AO.ops rfl rfl (opS_move (av := .pt _ _) rfl) ?_) | (refine AO.ops rfl rfl (opS_move (av := .cp _) rfl) ?_) | (refine AO.ops rfl rfl (opS_move (av := .v _) rfl) ?_)
        refine AR.run rfl rfl ?_
        refine AO.ops rfl rfl (opS_move (av := .v _) rfl) ?_
        refine AR.run rfl rfl ?_
        refine AO.call [.ty o 44] rfl en45 rfl (Builder_grow0  o (.pt o 0) n hn) ?p2 ?k2 ?q2
        (case p2 => (exact List.Perm.refl _))
        (case q2 => (rintro c A' ⟨h, _⟩; cases h))
        rintro av A' ⟨h, t24, rfl⟩; cases h
        refine AR.nil ?_
        -- END 1 (end)
        show RetPost _ _ _ _ .normal _
        first | exact ⟨rfl, _, _, ResV.none rfl, Sub.refl _, rfl, rfl⟩ | (exfalso; omega)
      ·
        have c2p := c2; try simp only [decide_eq_true_eq, decide_eq_false_iff_not, Bool.not_eq_true', Bool.not_eq_false', Bool.not_true, Bool.not_false, Bool.not_eq_eq_eq_not] at c2p
        refine AW.skip ?_
        -- END 2 (end)
        show RetPost _ _ _ _ .normal _
        first | exact ⟨rfl, _, _, ResV.none rfl, Sub.refl _, rfl, rfl⟩ | (exfalso; omega)
    ·
      first | refine AIO.op rfl (opR_load_pt (i := 0) Tryz.underlying36 rfl rfl rfl rfl) ?_ | refine AIO.op rfl (opR_load_pt (i := 1) Tryz.underlying36 rfl rfl rfl rfl) ?_
      show AI _ _ _ _ _ #[true, true, true, false, false, true, true, true, true, false, false, true, false] _
      first | (refine AI.take (i := 9) rfl rfl (by kernel_rfl) (by kernel_rfl) (by kernel_rfl) (fun _ _ h => by obtain ⟨_, _, _, h, _⟩ := h; cases h) (opS_len_sl Tryz.underlying36 rfl) ?_) | (refine AI.take (i := 9) rfl rfl (by kernel_rfl) (by kernel_rfl) (by kernel_rfl) (fun _ _ h => by obtain ⟨_, _, _, h, _⟩ := h; cases h) (opS_len_nil Tryz.underlying36 rfl) ?_)
      show AI _ _ _ _ _ #[true, true, true, false, false, true, true, true, true, true, false, true, false] _
      refine AI.one (i := 3) (by kernel_rfl) rfl rfl ?_
      first | refine AIO.op rfl (opR_load_pt (i := 0) Tryz.underlying36 rfl rfl rfl rfl) ?_ | refine AIO.op rfl (opR_load_pt (i := 1) Tryz.underlying36 rfl rfl rfl rfl) ?_
      show AI _ _ _ _ _ #[true, true, true, true, false, true, true, true, true, true, false, true, false] _
      first | (refine AI.take (i := 4) rfl rfl (by kernel_rfl) (by kernel_rfl) (by kernel_rfl) (fun _ _ h => by obtain ⟨_, _, _, h, _⟩ := h; cases h) (opS_cap_nil Tryz.underlying36 rfl) ?_) | (refine AI.take (i := 4) rfl rfl (by kernel_rfl) (by kernel_rfl) (by kernel_rfl) (fun _ _ h => by obtain ⟨_, _, _, h, _⟩ := h; cases h) (opS_cap_vw Tryz.underlying36 rfl) ?_)
      show AI _ _ _ _ _ #[true, true, true, true, true, true, true, true, true, true, false, true, false] _
      refine AI.take (i := 10) rfl rfl (by kernel_rfl) (by kernel_rfl) (by kernel_rfl) (fun _ _ h => by obtain ⟨_, _, _, h, _⟩ := h; cases h) (opS_sub rfl rfl ?h4) ?_; (case h4 => (omega))
      show AI _ _ _ _ _ #[true, true, true, true, true, true, true, true, true, true, true, true, false] _
      refine AI.take (i := 12) rfl rfl (by kernel_rfl) (by kernel_rfl) (by kernel_rfl) (fun _ _ h => by obtain ⟨_, _, _, h, _⟩ := h; cases h) (opS_lt rfl rfl) ?_
      show AI _ _ _ _ _ #[true, true, true, true, true, true, true, true, true, true, true, true, true] _
      refine AI.done rfl ?_
      show AW _ _ _ _ _ _
      refine AW.cond rfl (fun c3 => ?_) (fun c3 => ?_)
      ·
        have c3p := c3; try simp only [decide_eq_true_eq, decide_eq_false_iff_not, Bool.not_eq_true', Bool.not_eq_false', Bool.not_true, Bool.not_false, Bool.not_eq_eq_eq_not] at c3p
        refine AW.region ?_
        show AR _ _ _ _ _ [0, 1, 2] _
        refine AR.run rfl rfl ?_
        first | (refine AO.ops rfl rfl (opS_move (av := .pt _ _) rfl) ?_) | (refine AO.ops rfl rfl (opS_move (av := .cp _) rfl) ?_) | (refine AO.ops rfl rfl (opS_move (av := .v _) rfl) ?_)
        refine AR.run rfl rfl ?_
        refine AO.ops rfl rfl (opS_move (av := .v _) rfl) ?_
        refine AR.run rfl rfl ?_
        refine AO.call [.ty o 44] rfl en45 rfl (Builder_grow0  o (.pt o 0) n hn) ?p3 ?k3 ?q3
        (case p3 => (exact List.Perm.refl _))
        (case q3 => (rintro c A' ⟨h, _⟩; cases h))
        rintro av A' ⟨h, t24, rfl⟩; cases h
        refine AR.nil ?_
        -- END 3 (end)
        show RetPost _ _ _ _ .normal _
        first | exact ⟨rfl, _, _, ResV.none rfl, Sub.refl _, rfl, rfl⟩ | (exfalso; omega)
      ·
        have c3p := c3; try simp only [decide_eq_true_eq, decide_eq_false_iff_not, Bool.not_eq_true', Bool.not_eq_false', Bool.not_true, Bool.not_false, Bool.not_eq_eq_eq_not] at c3p
        refine AW.skip ?_
        -- END 4 (end)
        show RetPost _ _ _ _ .normal _
        first | exact ⟨rfl, _, _, ResV.none rfl, Sub.refl _, rfl, rfl⟩ | (exfalso; omega)

/-! (*strings.Builder).Grow -/
set_option maxRecDepth 100000 in
set_option maxHeartbeats 1000000 in
theorem Builder_Grow0P (o : Nat) (a : AV) (ha : a = .v (.pointer none) ∨ a = .pt o 0) (n : Nat) (hn : n ≤ 1000000000) (hz : 0 < n) :
    ACalls Tryz.prog 36 [.pt o 0, i64 n] [.obj o [a, nilS], .ty o 44] (fun e A' => e = .ret (.tup []) ∧ ∃ t', A' = [.tok t' 5, .obj o [.pt o 0, slE Enc.byte [] (some t')], .ty o 44]) := by
  refine ACalls.of_body Tryz.func36 rfl rfl ?_
  show AW _ _ 25 _ _ _
  refine AW.seq ?_
  refine AW.region ?_
  show AR _ _ _ _ _ [0, 1] _
  refine AR.run rfl rfl ?_
  first | (refine AO.ops rfl rfl (opS_move (av := .pt _ _) rfl) ?_) | (refine AO.ops rfl rfl (opS_move (av := .cp _) rfl) ?_) | (refine AO.ops rfl rfl (opS_move (av := .v _) rfl) ?_)
  refine AR.run rfl rfl ?_
  refine AO.call [] rfl en38 rfl (Builder_copyCheck0  o a nilS ha) ?p1 ?k1 ?q1
  (case p1 => (exact List.Perm.refl _))
  (case q1 => (rintro c A' ⟨h, _⟩; cases h))
  rintro av A' ⟨h, rfl⟩; cases h
  refine AR.nil ?_
  show AW _ _ _ _ _ _
  refine AW.seq ?_
  refine AW.seq ?_
  refine AW.region ?_
  show AR _ _ _ _ _ [0, 1] _
  refine AR.run rfl rfl ?_
  refine AO.ops rfl rfl (opS_move (av := .v _) rfl) ?_
  refine AR.run rfl rfl ?_
  refine AO.ops rfl rfl (opS_lt rfl rfl) ?_
  refine AR.nil ?_
  show AW _ _ _ _ _ _
  refine AW.cond rfl (fun c1 => ?_) (fun c1 => ?_)
  ·
    have c1p := c1; try simp only [decide_eq_true_eq, decide_eq_false_iff_not, Bool.not_eq_true', Bool.not_eq_false', Bool.not_true, Bool.not_false, Bool.not_eq_eq_eq_not] at c1p
    refine AW.region ?_
    show AR _ _ _ _ _ [0, 1] _
    refine AR.run rfl rfl ?_
    refine AO.ops rfl rfl (opS_makeInterface (a := .v _) Tryz.underlying9 rfl rfl) ?_
    refine AR.run rfl rfl ?_
    exfalso; first | omega | simp_all
  ·
    have c1p := c1; try simp only [decide_eq_true_eq, decide_eq_false_iff_not, Bool.not_eq_true', Bool.not_eq_false', Bool.not_true, Bool.not_false, Bool.not_eq_eq_eq_not] at c1p
    refine AW.skip ?_
    show AW _ _ _ _ _ _
    refine AW.seq ?_
    refine AW.region_draw (by kernel_rfl) ?_
    show AI _ _ _ _ 13 (Array.replicate 13 false) _
    first | (refine AI.take (i := 0) rfl rfl (by kernel_rfl) (by kernel_rfl) (by kernel_rfl) (fun _ _ h => by obtain ⟨_, _, _, h, _⟩ := h; cases h) (opS_move (av := .pt _ _) rfl) ?_) | (refine AI.take (i := 0) rfl rfl (by kernel_rfl) (by kernel_rfl) (by kernel_rfl) (fun _ _ h => by obtain ⟨_, _, _, h, _⟩ := h; cases h) (opS_move (av := .cp _) rfl) ?_) | (refine AI.take (i := 0) rfl rfl (by kernel_rfl) (by kernel_rfl) (by kernel_rfl) (fun _ _ h => by obtain ⟨_, _, _, h, _⟩ := h; cases h) (opS_move (av := .v _) rfl) ?_)
    show AI _ _ _ _ _ #[true, false, false, false, false, false, false, false, false, false, false, false, false] _
    first | (refine AI.take (i := 1) rfl rfl (by kernel_rfl) (by kernel_rfl) (by kernel_rfl) (fun _ _ h => by obtain ⟨_, _, _, h, _⟩ := h; cases h) (opS_nilCheck_pt rfl) ?_) | (refine AI.take (i := 1) rfl rfl (by kernel_rfl) (by kernel_rfl) (by kernel_rfl) (fun _ _ h => by obtain ⟨_, _, _, h, _⟩ := h; cases h) (opS_nilCheck_cp rfl) ?_) | (refine AI.take (i := 1) rfl rfl (by kernel_rfl) (by kernel_rfl) (by kernel_rfl) (fun _ _ h => by obtain ⟨_, _, _, h, _⟩ := h; cases h) (opS_nilCheck_fn rfl) ?_)
    show AI _ _ _ _ _ #[true, true, false, false, false, false, false, false, false, false, false, false, false] _
    refine AI.take (i := 2) rfl rfl (by kernel_rfl) (by kernel_rfl) (by kernel_rfl) (fun _ _ h => by obtain ⟨_, _, _, h, _⟩ := h; cases h) (opS_fieldAddr_pt (n := 1) (by kernel_rfl) rfl) ?_
    show AI _ _ _ _ _ #[true, true, true, false, false, false, false, false, false, false, false, false, false] _
    first | (refine AI.take (i := 5) rfl rfl (by kernel_rfl) (by kernel_rfl) (by kernel_rfl) (fun _ _ h => by obtain ⟨_, _, _, h, _⟩ := h; cases h) (opS_move (av := .pt _ _) rfl) ?_) | (refine AI.take (i := 5) rfl rfl (by kernel_rfl) (by kernel_rfl) (by kernel_rfl) (fun _ _ h => by obtain ⟨_, _, _, h, _⟩ := h; cases h) (opS_move (av := .cp _) rfl) ?_) | (refine AI.take (i := 5) rfl rfl (by kernel_rfl) (by kernel_rfl) (by kernel_rfl) (fun _ _ h => by obtain ⟨_, _, _, h, _⟩ := h; cases h) (opS_move (av := .v _) rfl) ?_)
    show AI _ _ _ _ _ #[true, true, true, false, false, true, false, false, false, false, false, false, false] _
    first | (refine AI.take (i := 6) rfl rfl (by kernel_rfl) (by kernel_rfl) (by kernel_rfl) (fun _ _ h => by obtain ⟨_, _, _, h, _⟩ := h; cases h) (opS_nilCheck_pt rfl) ?_) | (refine AI.take (i := 6) rfl rfl (by kernel_rfl) (by kernel_rfl) (by kernel_rfl) (fun _ _ h => by obtain ⟨_, _, _, h, _⟩ := h; cases h) (opS_nilCheck_cp rfl) ?_) | (refine AI.take (i := 6) rfl rfl (by kernel_rfl) (by kernel_rfl) (by kernel_rfl) (fun _ _ h => by obtain ⟨_, _, _, h, _⟩ := h; cases h) (opS_nilCheck_fn rfl) ?_)
    show AI _ _ _ _ _ #[true, true, true, false, false, true, true, false, false, false, false, false, false] _
    refine AI.take (i := 7) rfl rfl (by kernel_rfl) (by kernel_rfl) (by kernel_rfl) (fun _ _ h => by obtain ⟨_, _, _, h, _⟩ := h; cases h) (opS_fieldAddr_pt (n := 1) (by kernel_rfl) rfl) ?_
    show AI _ _ _ _ _ #[true, true, true, false, false, true, true, true, false, false, false, false, false] _
    refine AI.take (i := 11) rfl rfl (by kernel_rfl) (by kernel_rfl) (by kernel_rfl) (fun _ _ h => by obtain ⟨_, _, _, h, _⟩ := h; cases h) (opS_move (av := .v _) rfl) ?_
    show AI _ _ _ _ _ #[true, true, true, false, false, true, true, true, false, false, false, true, false] _
    refine AI.two (i := 3) (j := 8) (by kernel_rfl) rfl rfl rfl rfl ?_ ?_
    ·
      first | refine AIO.op rfl (opR_load_pt (i := 0) Tryz.underlying36 rfl rfl rfl rfl) ?_ | refine AIO.op rfl (opR_load_pt (i := 1) Tryz.underlying36 rfl rfl rfl rfl) ?_
      show AI _ _ _ _ _ #[true, true, true, true, false, true, true, true, false, false, false, true, false] _
      first | (refine AI.take (i := 4) rfl rfl (by kernel_rfl) (by kernel_rfl) (by kernel_rfl) (fun _ _ h => by obtain ⟨_, _, _, h, _⟩ := h; cases h) (opS_cap_nil Tryz.underlying36 rfl) ?_) | (refine AI.take (i := 4) rfl rfl (by kernel_rfl) (by kernel_rfl) (by kernel_rfl) (fun _ _ h => by obtain ⟨_, _, _, h, _⟩ := h; cases h) (opS_cap_vw Tryz.underlying36 rfl) ?_)
      show AI _ _ _ _ _ #[true, true, true, true, true, true, true, true, false, false, false, true, false] _
      refine AI.one (i := 8) (by kernel_rfl) rfl rfl ?_
      first | refine AIO.op rfl (opR_load_pt (i := 0) Tryz.underlying36 rfl rfl rfl rfl) ?_ | refine AIO.op rfl (opR_load_pt (i := 1) Tryz.underlying36 rfl rfl rfl rfl) ?_
      show AI _ _ _ _ _ #[true, true, true, true, true, true, true, true, true, false, false, true, false] _
      first | (refine AI.take (i := 9) rfl rfl (by kernel_rfl) (by kernel_rfl) (by kernel_rfl) (fun _ _ h => by obtain ⟨_, _, _, h, _⟩ := h; cases h) (opS_len_sl Tryz.underlying36 rfl) ?_) | (refine AI.take (i := 9) rfl rfl (by kernel_rfl) (by kernel_rfl) (by kernel_rfl) (fun _ _ h => by obtain ⟨_, _, _, h, _⟩ := h; cases h) (opS_len_nil Tryz.underlying36 rfl) ?_)
      show AI _ _ _ _ _ #[true, true, true, true, true, true, true, true, true, true, false, true, false] _
      refine AI.take (i := 10) rfl rfl (by kernel_rfl) (by kernel_rfl) (by kernel_rfl) (fun _ _ h => by obtain ⟨_, _, _, h, _⟩ := h; cases h) (opS_sub rfl rfl ?h2) ?_; (case h2 => (omega))
      show AI _ _ _ _ _ #[true, true, true, true, true, true, true, true, true, true, true, true, false] _
      refine AI.take (i := 12) rfl rfl (by kernel_rfl) (by kernel_rfl) (by kernel_rfl) (fun _ _ h => by obtain ⟨_, _, _, h, _⟩ := h; cases h) (opS_lt rfl rfl) ?_
      show AI _ _ _ _ _ #[true, true, true, true, true, true, true, true, true, true, true, true, true] _
      refine AI.done rfl ?_
      show AW _ _ _ _ _ _
      refine AW.cond rfl (fun c2 => ?_) (fun c2 => ?_)
      ·
        have c2p := c2; try simp only [decide_eq_true_eq, decide_eq_false_iff_not, Bool.not_eq_true', Bool.not_eq_false', Bool.not_true, Bool.not_false, Bool.not_eq_eq_eq_not] at c2p
        refine AW.region ?_
        show AR _ _ _ _ _ [0, 1, 2] _
        refine AR.run rfl rfl ?_
        first | (refine AO.ops rfl rfl (opS_move (av := .pt _ _) rfl) ?_) | (refine AO.ops rfl rfl (opS_move (av := .cp _) rfl) ?_) | (refine AO.ops rfl rfl (opS_move (av := .v _) rfl) ?_)
        refine AR.run rfl rfl ?_
        refine AO.ops rfl rfl (opS_move (av := .v _) rfl) ?_
        refine AR.run rfl rfl ?_
        refine AO.call [.ty o 44] rfl en45 rfl (Builder_grow0  o (.pt o 0) n hn) ?p2 ?k2 ?q2
        (case p2 => (exact List.Perm.refl _))
        (case q2 => (rintro c A' ⟨h, _⟩; cases h))
        rintro av A' ⟨h, t24, rfl⟩; cases h
        refine AR.nil ?_
        -- END 1 (end)
        show RetPost _ _ _ _ .normal _
        first | exact ⟨rfl, _, _, ResV.none rfl, Sub.refl _, rfl, t24, rfl⟩ | (exfalso; omega)
      ·
        have c2p := c2; try simp only [decide_eq_true_eq, decide_eq_false_iff_not, Bool.not_eq_true', Bool.not_eq_false', Bool.not_true, Bool.not_false, Bool.not_eq_eq_eq_not] at c2p
        refine AW.skip ?_
        -- END 2 (end)
        show RetPost _ _ _ _ .normal _
        first | exact ⟨rfl, _, _, ResV.none rfl, Sub.refl _, rfl, t24, rfl⟩ | (exfalso; omega)
    ·
      first | refine AIO.op rfl (opR_load_pt (i := 0) Tryz.underlying36 rfl rfl rfl rfl) ?_ | refine AIO.op rfl (opR_load_pt (i := 1) Tryz.underlying36 rfl rfl rfl rfl) ?_
      show AI _ _ _ _ _ #[true, true, true, false, false, true, true, true, true, false, false, true, false] _
      first | (refine AI.take (i := 9) rfl rfl (by kernel_rfl) (by kernel_rfl) (by kernel_rfl) (fun _ _ h => by obtain ⟨_, _, _, h, _⟩ := h; cases h) (opS_len_sl Tryz.underlying36 rfl) ?_) | (refine AI.take (i := 9) rfl rfl (by kernel_rfl) (by kernel_rfl) (by kernel_rfl) (fun _ _ h => by obtain ⟨_, _, _, h, _⟩ := h; cases h) (opS_len_nil Tryz.underlying36 rfl) ?_)
      show AI _ _ _ _ _ #[true, true, true, false, false, true, true, true, true, true, false, true, false] _
      refine AI.one (i := 3) (by kernel_rfl) rfl rfl ?_
      first | refine AIO.op rfl (opR_load_pt (i := 0) Tryz.underlying36 rfl rfl rfl rfl) ?_ | refine AIO.op rfl (opR_load_pt (i := 1) Tryz.underlying36 rfl rfl rfl rfl) ?_
      show AI _ _ _ _ _ #[true, true, true, true, false, true, true, true, true, true, false, true, false] _
      first | (refine AI.take (i := 4) rfl rfl (by kernel_rfl) (by kernel_rfl) (by kernel_rfl) (fun _ _ h => by obtain ⟨_, _, _, h, _⟩ := h; cases h) (opS_cap_nil Tryz.underlying36 rfl) ?_) | (refine AI.take (i := 4) rfl rfl (by kernel_rfl) (by kernel_rfl) (by kernel_rfl) (fun _ _ h => by obtain ⟨_, _, _, h, _⟩ := h; cases h) (opS_cap_vw Tryz.underlying36 rfl) ?_)
      show AI _ _ _ _ _ #[true, true, true, true, true, true, true, true, true, true, false, true, false] _
      refine AI.take (i := 10) rfl rfl (by kernel_rfl) (by kernel_rfl) (by kernel_rfl) (fun _ _ h => by obtain ⟨_, _, _, h, _⟩ := h; cases h) (opS_sub rfl rfl ?h4) ?_; (case h4 => (omega))
      show AI _ _ _ _ _ #[true, true, true, true, true, true, true, true, true, true, true, true, false] _
      refine AI.take (i := 12) rfl rfl (by kernel_rfl) (by kernel_rfl) (by kernel_rfl) (fun _ _ h => by obtain ⟨_, _, _, h, _⟩ := h; cases h) (opS_lt rfl rfl) ?_
      show AI _ _ _ _ _ #[true, true, true, true, true, true, true, true, true, true, true, true, true] _
      refine AI.done rfl ?_
      show AW _ _ _ _ _ _
      refine AW.cond rfl (fun c3 => ?_) (fun c3 => ?_)
      ·
        have c3p := c3; try simp only [decide_eq_true_eq, decide_eq_false_iff_not, Bool.not_eq_true', Bool.not_eq_false', Bool.not_true, Bool.not_false, Bool.not_eq_eq_eq_not] at c3p
        refine AW.region ?_
        show AR _ _ _ _ _ [0, 1, 2] _
        refine AR.run rfl rfl ?_
        first | (refine AO.ops rfl rfl (opS_move (av := .pt _ _) rfl) ?_) | (refine AO.ops rfl rfl (opS_move (av := .cp _) rfl) ?_) | (refine AO.ops rfl rfl (opS_move (av := .v _) rfl) ?_)
        refine AR.run rfl rfl ?_
        refine AO.ops rfl rfl (opS_move (av := .v _) rfl) ?_
        refine AR.run rfl rfl ?_
        refine AO.call [.ty o 44] rfl en45 rfl (Builder_grow0  o (.pt o 0) n hn) ?p3 ?k3 ?q3
        (case p3 => (exact List.Perm.refl _))
        (case q3 => (rintro c A' ⟨h, _⟩; cases h))
        rintro av A' ⟨h, t24, rfl⟩; cases h
        refine AR.nil ?_
        -- END 3 (end)
        show RetPost _ _ _ _ .normal _
        first | exact ⟨rfl, _, _, ResV.none rfl, Sub.refl _, rfl, t24, rfl⟩ | (exfalso; omega)
      ·
        have c3p := c3; try simp only [decide_eq_true_eq, decide_eq_false_iff_not, Bool.not_eq_true', Bool.not_eq_false', Bool.not_true, Bool.not_false, Bool.not_eq_eq_eq_not] at c3p
        refine AW.skip ?_
        -- END 4 (end)
        show RetPost _ _ _ _ .normal _
        first | exact ⟨rfl, _, _, ResV.none rfl, Sub.refl _, rfl, t24, rfl⟩ | (exfalso; omega)
theorem Builder_Grow0 (o : Nat) (a : AV) (ha : a = .v (.pointer none) ∨ a = .pt o 0) (n : Nat) (hn : n ≤ 1000000000) : ACalls Tryz.prog 36 [.pt o 0, i64 n] [.obj o [a, nilS], .ty o 44] (fun e A' => e = .ret (.tup []) ∧ ∃ t', A' = [.tok t' 5, .obj o [.pt o 0, slE Enc.byte [] (some t')], .ty o 44]) := by
  by_cases hz : n = 0
  · refine (Builder_Grow0Z  o a ha n hn hz).conv fun ae A' h F I w hI => ?_
    obtain ⟨h1, rfl⟩ := h
    obtain ⟨I', t, E, hI'⟩ := Inv.nil_row hI 1 1 5 rfl
    exact ⟨I', _, E, hI', h1, t, rfl⟩
  · exact Builder_Grow0P  o a ha n hn (by omega)

end Go.Proofs.YtjhlnhipjomdeaaGreatDoor
