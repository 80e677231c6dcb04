/-
  What strings.Builder's methods do, by content.
-/
import Derived.Test.YtjajiokihccobaaGreatDoorP11Build
set_option linter.unusedVariables false
set_option linter.unusedSimpArgs false
namespace Go.Proofs.YtjajiokihccobaaGreatDoor
open Go.RowKit Go.Av


/-! (*strings.Builder).copyCheck -/
set_option maxRecDepth 100000 in
set_option maxHeartbeats 1000000 in
theorem Builder_copyCheckCN (c0 c1 : AV) (o : Nat) (b : AV) :
    ACalls Tryz.prog 41 [.pt o 2] [.obj o [c0, c1, .v (.pointer none), b], .ty o 37] (Ret (.tup []) [.obj o [c0, c1, .pt o 2, b], .ty o 37]) := by
  refine ACalls.of_body Tryz.func41 rfl rfl ?_
  show AW _ _ 20 _ _ _
  refine AW.seq ?_
  refine AW.region ?_
  show AR _ _ _ _ _ [0, 1, 2, 3, 4] _
  refine AR.run rfl rfl ?_
  first | (refine AO.ops rfl rfl (opS_move (av := .pt _ _) rfl) ?_) | (refine AO.ops rfl rfl (opS_move (av := .cp _) rfl) ?_) | (refine AO.ops rfl rfl (opS_move (av := .v _) rfl) ?_)
  refine AR.run rfl rfl ?_
  first | (refine AO.ops rfl rfl (opS_nilCheck_pt rfl) ?_) | (refine AO.ops rfl rfl (opS_nilCheck_cp rfl) ?_) | (refine AO.ops rfl rfl (opS_nilCheck_fn rfl) ?_)
  refine AR.run rfl rfl ?_
  refine AO.ops rfl rfl (opS_fieldAddr_pt (n := 0) (by kernel_rfl) rfl) ?_
  refine AR.run rfl rfl ?_
  first | refine AO.ops rfl rfl (opS_load_cp Tryz.underlying32 rfl rfl) ?_ | refine AO.op rfl rfl (opR_load_pt (i := 0) Tryz.underlying32 rfl rfl rfl rfl) ?_ | refine AO.op rfl rfl (opR_load_pt (i := 1) Tryz.underlying32 rfl rfl rfl rfl) ?_
  refine AR.run rfl rfl ?_
  first | (refine AO.ops rfl rfl (opS_eqnil_pt Tryz.underlying32 rfl rfl) ?_) | (refine AO.ops rfl rfl (opS_eqnil_nil Tryz.underlying32 rfl rfl) ?_)
  refine AR.nil ?_
  show AW _ _ _ _ _ _
  refine AW.cond rfl (fun c1 => ?_) (fun c1 => ?_)
  ·
    have c1p := c1; try simp only [decide_eq_true_eq, decide_eq_false_iff_not, Bool.not_eq_true', Bool.not_eq_false', Bool.not_true, Bool.not_false, Bool.not_eq_eq_eq_not] at c1p
    refine AW.region ?_
    show AR _ _ _ _ _ [0, 1, 2, 3, 4, 5, 6, 7] _
    refine AR.run rfl rfl ?_
    first | (refine AO.ops rfl rfl (opS_move (av := .pt _ _) rfl) ?_) | (refine AO.ops rfl rfl (opS_move (av := .cp _) rfl) ?_) | (refine AO.ops rfl rfl (opS_move (av := .v _) rfl) ?_)
    refine AR.run rfl rfl ?_
    first | (refine AO.ops rfl rfl (opS_move (av := .pt _ _) rfl) ?_) | (refine AO.ops rfl rfl (opS_move (av := .cp _) rfl) ?_) | (refine AO.ops rfl rfl (opS_move (av := .v _) rfl) ?_)
    refine AR.run rfl rfl ?_
    first | (refine AO.op rfl rfl (opR_to_unsafe (i := 0) (k := 2) Tryz.underlying32 Tryz.underlying68 (by kernel_rfl) (by decide) rfl rfl ?h1) ?_; (case h1 => (simp))) | (refine AO.op rfl rfl (opR_to_unsafe (i := 1) (k := 2) Tryz.underlying32 Tryz.underlying68 (by kernel_rfl) (by decide) rfl rfl ?h2) ?_; (case h2 => (simp)))
    refine AR.run rfl rfl ?_
    refine AO.ops rfl rfl (opS_through (a := .pt _ _) Tryz.func58 ⟨by kernel_rfl, by kernel_rfl, by kernel_rfl, by kernel_rfl⟩ rfl) ?_
    refine AR.run rfl rfl ?_
    first | refine AO.op rfl rfl (opR_from_unsafe (i := 0) (j := 1) (k := 2) Tryz.underlying68 Tryz.underlying32 (by kernel_rfl) rfl rfl rfl (by kernel_rfl)) ?_ | refine AO.op rfl rfl (opR_from_unsafe (i := 1) (j := 0) (k := 2) Tryz.underlying68 Tryz.underlying32 (by kernel_rfl) rfl rfl rfl (by kernel_rfl)) ?_
    refine AR.run rfl rfl ?_
    first | (refine AO.ops rfl rfl (opS_nilCheck_pt rfl) ?_) | (refine AO.ops rfl rfl (opS_nilCheck_cp rfl) ?_) | (refine AO.ops rfl rfl (opS_nilCheck_fn rfl) ?_)
    refine AR.run rfl rfl ?_
    refine AO.ops rfl rfl (opS_fieldAddr_pt (n := 0) (by kernel_rfl) rfl) ?_
    refine AR.run rfl rfl ?_
    first | (refine AO.op0 rfl (opR_store_pt (i := 0) (c := .pt _ _) (by kernel_rfl) rfl rfl rfl rfl ?h4) ?_; (case h4 => (simp))) | (refine AO.op0 rfl (opR_store_pt (i := 0) (c := .cp _) (by kernel_rfl) rfl rfl rfl rfl ?h5) ?_; (case h5 => (simp))) | (refine AO.op0 rfl (opR_store_pt (i := 0) (c := .v _) (by kernel_rfl) rfl rfl rfl rfl ?h6) ?_; (case h6 => (simp))) | (refine AO.op0 rfl (opR_store_pt (i := 1) (c := .pt _ _) (by kernel_rfl) rfl rfl rfl rfl ?h7) ?_; (case h7 => (simp))) | (refine AO.op0 rfl (opR_store_pt (i := 1) (c := .cp _) (by kernel_rfl) rfl rfl rfl rfl ?h8) ?_; (case h8 => (simp))) | (refine AO.op0 rfl (opR_store_pt (i := 1) (c := .v _) (by kernel_rfl) rfl rfl rfl rfl ?h9) ?_; (case h9 => (simp)))
    refine AR.nil ?_
    -- END 1 (end)
    show RetPost _ _ _ _ .normal _
    (refine ⟨rfl, _, _, ResV.noneW rfl, ?_, ⟨rfl, rfl⟩⟩; all_goals first | exact Sub.refl _ | exact Sub.nil _ | ((repeat (first | exact Sub.refl _ | exact Sub.nil _ | refine Sub.cons _ ?_ | refine Sub.skip _ ?_)); done) | exact Wv.refl _ | exact Wv.tok _ _ _ | exact Wv.nil _)
  · exact absurd c1 (by decide)

/-! (*strings.Builder).copyCheck -/
set_option maxRecDepth 100000 in
set_option maxHeartbeats 1000000 in
theorem Builder_copyCheckCS (c0 c1 : AV) (o : Nat) (b : AV) :
    ACalls Tryz.prog 41 [.pt o 2] [.obj o [c0, c1, .pt o 2, b], .ty o 37] (Ret (.tup []) [.obj o [c0, c1, .pt o 2, b], .ty o 37]) := by
  refine ACalls.of_body Tryz.func41 rfl rfl ?_
  show AW _ _ 20 _ _ _
  refine AW.seq ?_
  refine AW.region ?_
  show AR _ _ _ _ _ [0, 1, 2, 3, 4] _
  refine AR.run rfl rfl ?_
  first | (refine AO.ops rfl rfl (opS_move (av := .pt _ _) rfl) ?_) | (refine AO.ops rfl rfl (opS_move (av := .cp _) rfl) ?_) | (refine AO.ops rfl rfl (opS_move (av := .v _) rfl) ?_)
  refine AR.run rfl rfl ?_
  first | (refine AO.ops rfl rfl (opS_nilCheck_pt rfl) ?_) | (refine AO.ops rfl rfl (opS_nilCheck_cp rfl) ?_) | (refine AO.ops rfl rfl (opS_nilCheck_fn rfl) ?_)
  refine AR.run rfl rfl ?_
  refine AO.ops rfl rfl (opS_fieldAddr_pt (n := 0) (by kernel_rfl) rfl) ?_
  refine AR.run rfl rfl ?_
  first | refine AO.ops rfl rfl (opS_load_cp Tryz.underlying32 rfl rfl) ?_ | refine AO.op rfl rfl (opR_load_pt (i := 0) Tryz.underlying32 rfl rfl rfl rfl) ?_ | refine AO.op rfl rfl (opR_load_pt (i := 1) Tryz.underlying32 rfl rfl rfl rfl) ?_
  refine AR.run rfl rfl ?_
  first | (refine AO.ops rfl rfl (opS_eqnil_pt Tryz.underlying32 rfl rfl) ?_) | (refine AO.ops rfl rfl (opS_eqnil_nil Tryz.underlying32 rfl rfl) ?_)
  refine AR.nil ?_
  show AW _ _ _ _ _ _
  refine AW.cond rfl (fun c1 => ?_) (fun c1 => ?_)
  · exact absurd c1 (by decide)
  ·
    have c1p := c1; try simp only [decide_eq_true_eq, decide_eq_false_iff_not, Bool.not_eq_true', Bool.not_eq_false', Bool.not_true, Bool.not_false, Bool.not_eq_eq_eq_not] at c1p
    refine AW.seq ?_
    refine AW.region ?_
    show AR _ _ _ _ _ [0, 1, 2, 3, 4, 5] _
    refine AR.run rfl rfl ?_
    first | (refine AO.ops rfl rfl (opS_move (av := .pt _ _) rfl) ?_) | (refine AO.ops rfl rfl (opS_move (av := .cp _) rfl) ?_) | (refine AO.ops rfl rfl (opS_move (av := .v _) rfl) ?_)
    refine AR.run rfl rfl ?_
    first | (refine AO.ops rfl rfl (opS_nilCheck_pt rfl) ?_) | (refine AO.ops rfl rfl (opS_nilCheck_cp rfl) ?_) | (refine AO.ops rfl rfl (opS_nilCheck_fn rfl) ?_)
    refine AR.run rfl rfl ?_
    refine AO.ops rfl rfl (opS_fieldAddr_pt (n := 0) (by kernel_rfl) rfl) ?_
    refine AR.run rfl rfl ?_
    first | refine AO.ops rfl rfl (opS_load_cp Tryz.underlying32 rfl rfl) ?_ | refine AO.op rfl rfl (opR_load_pt (i := 0) Tryz.underlying32 rfl rfl rfl rfl) ?_ | refine AO.op rfl rfl (opR_load_pt (i := 1) Tryz.underlying32 rfl rfl rfl rfl) ?_
    refine AR.run rfl rfl ?_
    first | (refine AO.ops rfl rfl (opS_move (av := .pt _ _) rfl) ?_) | (refine AO.ops rfl rfl (opS_move (av := .cp _) rfl) ?_) | (refine AO.ops rfl rfl (opS_move (av := .v _) rfl) ?_)
    refine AR.run rfl rfl ?_
    first | (refine AO.ops rfl rfl (opS_nenil_pt Tryz.underlying32 rfl rfl) ?_) | (refine AO.ops rfl rfl (opS_nenil_nil Tryz.underlying32 rfl rfl) ?_) | (refine AO.ops rfl rfl (opS_ne_same (k := 2) Tryz.underlying32 (by kernel_rfl) (by decide) rfl rfl) ?_)
    refine AR.nil ?_
    show AW _ _ _ _ _ _
    refine AW.cond rfl (fun c2 => ?_) (fun c2 => ?_)
    ·
      have c2p := c2; try simp only [decide_eq_true_eq, decide_eq_false_iff_not, Bool.not_eq_true', Bool.not_eq_false', Bool.not_true, Bool.not_false, Bool.not_eq_eq_eq_not] at c2p
      exfalso; first | omega | simp_all
    ·
      have c2p := c2; try simp only [decide_eq_true_eq, decide_eq_false_iff_not, Bool.not_eq_true', Bool.not_eq_false', Bool.not_true, Bool.not_false, Bool.not_eq_eq_eq_not] at c2p
      refine AW.skip ?_
      -- END 1 (end)
      show RetPost _ _ _ _ .normal _
      (refine ⟨rfl, _, _, ResV.noneW rfl, ?_, ⟨rfl, rfl⟩⟩; all_goals first | exact Sub.refl _ | exact Sub.nil _ | ((repeat (first | exact Sub.refl _ | exact Sub.nil _ | refine Sub.cons _ ?_ | refine Sub.skip _ ?_)); done) | exact Wv.refl _ | exact Wv.tok _ _ _ | exact Wv.nil _)
theorem Builder_copyCheckC (c0 c1 : AV) (o : Nat) (a b : AV) (ha : a = .v (.pointer none) ∨ a = .pt o 2) : ACalls Tryz.prog 41 [.pt o 2] [.obj o [c0, c1, a, b], .ty o 37] (Ret (.tup []) [.obj o [c0, c1, .pt o 2, b], .ty o 37]) := by
  rcases ha with rfl | rfl
  · exact Builder_copyCheckCN c0 c1 o b
  · exact Builder_copyCheckCS c0 c1 o b


/-! (*strings.Builder).WriteString -/
set_option maxRecDepth 100000 in
set_option maxHeartbeats 1000000 in
theorem Builder_WriteStringC (c0 c1 : AV) (o : Nat) (a : AV) (ha : a = .v (.pointer none) ∨ a = .pt o 2) (l s : List UInt8) (t : Nat) (hl : l.length + s.length ≤ 1000000000) :
    ACalls Tryz.prog 24 [.pt o 2, S s] [.obj o [c0, c1, a, slE Enc.byte l (some t)], .ty o 37, .tok t 5] (fun e A' => e = .ret (.tup [i64 s.length, .v .nilIface]) ∧ ∃ t', A' = [.obj o [c0, c1, .pt o 2, slE Enc.byte (l ++ s) (some t')], .ty o 37, .tok t' 5]) := by
  refine ACalls.of_body Tryz.func24 rfl rfl ?_
  show AW _ _ 19 _ _ _
  refine AW.seq ?_
  refine AW.region ?_
  show AR _ _ _ _ _ [0, 1] _
  refine AR.run rfl rfl ?_
  refine AO.ops rfl rfl (opS_assign (av := .v _) rfl) ?_
  refine AR.run rfl rfl ?_
  refine AO.ops rfl rfl (opS_assign (av := .v _) rfl) ?_
  refine AR.nil ?_
  show AW _ _ _ _ _ _
  refine AW.seq ?_
  refine AW.region ?_
  show AR _ _ _ _ _ [0, 1] _
  refine AR.run rfl rfl ?_
  first | (refine AO.ops rfl rfl (opS_move (av := .pt _ _) rfl) ?_) | (refine AO.ops rfl rfl (opS_move (av := .cp _) rfl) ?_) | (refine AO.ops rfl rfl (opS_move (av := .v _) rfl) ?_)
  refine AR.run rfl rfl ?_
  refine AO.call [.tok t 5] rfl en41 rfl (Builder_copyCheckC c0 c1 o a (slE Enc.byte l (some t)) ha) ?p1 ?k1 ?q1
  (case p1 => (exact List.Perm.refl _))
  (case q1 => (rintro c A' ⟨h, _⟩; cases h))
  rintro av A' ⟨h, rfl⟩; cases h
  refine AR.nil ?_
  show AW _ _ _ _ _ _
  refine AW.seq ?_
  refine AW.region ?_
  show AR _ _ _ _ _ [0, 1, 2, 3, 4, 5, 6, 7, 8, 9] _
  refine AR.run rfl rfl ?_
  first | (refine AO.ops rfl rfl (opS_move (av := .pt _ _) rfl) ?_) | (refine AO.ops rfl rfl (opS_move (av := .cp _) rfl) ?_) | (refine AO.ops rfl rfl (opS_move (av := .v _) rfl) ?_)
  refine AR.run rfl rfl ?_
  first | (refine AO.ops rfl rfl (opS_move (av := .pt _ _) rfl) ?_) | (refine AO.ops rfl rfl (opS_move (av := .cp _) rfl) ?_) | (refine AO.ops rfl rfl (opS_move (av := .v _) rfl) ?_)
  refine AR.run rfl rfl ?_
  first | (refine AO.ops rfl rfl (opS_nilCheck_pt rfl) ?_) | (refine AO.ops rfl rfl (opS_nilCheck_cp rfl) ?_) | (refine AO.ops rfl rfl (opS_nilCheck_fn rfl) ?_)
  refine AR.run rfl rfl ?_
  refine AO.ops rfl rfl (opS_fieldAddr_pt (n := 1) (by kernel_rfl) rfl) ?_
  refine AR.run rfl rfl ?_
  first | refine AO.ops rfl rfl (opS_load_cp Tryz.underlying33 rfl rfl) ?_ | refine AO.op rfl rfl (opR_load_pt (i := 0) Tryz.underlying33 rfl rfl rfl rfl) ?_ | refine AO.op rfl rfl (opR_load_pt (i := 1) Tryz.underlying33 rfl rfl rfl rfl) ?_
  refine AR.run rfl rfl ?_
  refine AO.ops rfl rfl (opS_move (av := .v _) rfl) ?_
  refine AR.run rfl rfl ?_
  first | (refine AO.opx rfl rfl (opX_append_str (bytes := 1) 0 Tryz.underlying33 Tryz.underlying9 rfl (by kernel_rfl) rfl rfl rfl ?h3 ?h4) ?_; (case h3 => (first | omega | (simp; done) | (simp; omega))); (case h4 => (first | omega | (simp; done) | (simp; omega)))) | (refine AO.opx rfl rfl (opX_append_str (bytes := 1) 1 Tryz.underlying33 Tryz.underlying9 rfl (by kernel_rfl) rfl rfl rfl ?h5 ?h6) ?_; (case h5 => (first | omega | (simp; done) | (simp; omega))); (case h6 => (first | omega | (simp; done) | (simp; omega)))) | (refine AO.opx rfl rfl (opX_append_str (bytes := 1) 2 Tryz.underlying33 Tryz.underlying9 rfl (by kernel_rfl) rfl rfl rfl ?h7 ?h8) ?_; (case h7 => (first | omega | (simp; done) | (simp; omega))); (case h8 => (first | omega | (simp; done) | (simp; omega)))) | (refine AO.opx rfl rfl (opX_append_str (bytes := 1) 3 Tryz.underlying33 Tryz.underlying9 rfl (by kernel_rfl) rfl rfl rfl ?h9 ?h10) ?_; (case h9 => (first | omega | (simp; done) | (simp; omega))); (case h10 => (first | omega | (simp; done) | (simp; omega))))
  rintro _ _ ⟨t14, rfl, rfl⟩
  refine AR.run rfl rfl ?_
  first | (refine AO.ops rfl rfl (opS_nilCheck_pt rfl) ?_) | (refine AO.ops rfl rfl (opS_nilCheck_cp rfl) ?_) | (refine AO.ops rfl rfl (opS_nilCheck_fn rfl) ?_)
  refine AR.run rfl rfl ?_
  refine AO.ops rfl rfl (opS_fieldAddr_pt (n := 1) (by kernel_rfl) rfl) ?_
  refine AR.run rfl rfl ?_
  first | (refine AO.op0 rfl (opR_store_pt (i := 0) (c := slE _ _ _) (by kernel_rfl) rfl rfl rfl rfl ?h12) ?_; (case h12 => (simp))) | (refine AO.op0 rfl (opR_store_pt (i := 0) (c := .v _) (by kernel_rfl) rfl rfl rfl rfl ?h13) ?_; (case h13 => (simp))) | (refine AO.op0 rfl (opR_store_pt (i := 0) (c := .vw _ _ _ _) (by kernel_rfl) rfl rfl rfl rfl ?h14) ?_; (case h14 => (simp))) | (refine AO.op0 rfl (opR_store_pt (i := 1) (c := slE _ _ _) (by kernel_rfl) rfl rfl rfl rfl ?h15) ?_; (case h15 => (simp))) | (refine AO.op0 rfl (opR_store_pt (i := 1) (c := .v _) (by kernel_rfl) rfl rfl rfl rfl ?h16) ?_; (case h16 => (simp))) | (refine AO.op0 rfl (opR_store_pt (i := 1) (c := .vw _ _ _ _) (by kernel_rfl) rfl rfl rfl rfl ?h17) ?_; (case h17 => (simp)))
  refine AR.nil ?_
  show AW _ _ _ _ _ _
  refine AW.seq ?_
  refine AW.region ?_
  show AR _ _ _ _ _ [0, 1, 2, 3] _
  refine AR.run rfl rfl ?_
  refine AO.ops rfl rfl (opS_move (av := .v _) rfl) ?_
  refine AR.run rfl rfl ?_
  refine AO.ops rfl rfl (opS_len_str Tryz.underlying9 rfl) ?_
  refine AR.run rfl rfl ?_
  refine AO.ops rfl rfl (opS_assign (av := .v _) rfl) ?_
  refine AR.run rfl rfl ?_
  refine AO.ops rfl rfl (opS_assign (av := .v _) rfl) ?_
  refine AR.nil ?_
  show AW _ _ _ _ _ _
  refine AW.ret ?_
  -- END 1 (ret)
  show RetPost _ _ _ _ .ret _
  exact ⟨rfl, _, _, ResV.two (av := .v _) (bv := .v _) rfl rfl rfl, Sub.refl _, rfl, t14, rfl⟩

/-! (*strings.Builder).Reset -/
set_option maxRecDepth 100000 in
set_option maxHeartbeats 1000000 in
theorem Builder_ResetC (c0 c1 : AV) (o : Nat) (a b : AV) :
    ACalls Tryz.prog 42 [.pt o 2] [.obj o [c0, c1, a, b]] (Ret (.tup []) [.obj o [c0, c1, .v (.pointer none), nilS]]) := by
  refine ACalls.of_body Tryz.func42 rfl rfl ?_
  show AW _ _ 8 _ _ _
  refine AW.seq ?_
  refine AW.region ?_
  show AR _ _ _ _ _ [0, 1, 2, 3] _
  refine AR.run rfl rfl ?_
  first | (refine AO.ops rfl rfl (opS_move (av := .pt _ _) rfl) ?_) | (refine AO.ops rfl rfl (opS_move (av := .cp _) rfl) ?_) | (refine AO.ops rfl rfl (opS_move (av := .v _) rfl) ?_)
  refine AR.run rfl rfl ?_
  first | (refine AO.ops rfl rfl (opS_nilCheck_pt rfl) ?_) | (refine AO.ops rfl rfl (opS_nilCheck_cp rfl) ?_) | (refine AO.ops rfl rfl (opS_nilCheck_fn rfl) ?_)
  refine AR.run rfl rfl ?_
  refine AO.ops rfl rfl (opS_fieldAddr_pt (n := 0) (by kernel_rfl) rfl) ?_
  refine AR.run rfl rfl ?_
  first | (refine AO.op0 rfl (opR_store_pt (i := 0) (c := .pt _ _) (by kernel_rfl) rfl rfl rfl rfl ?h2) ?_; (case h2 => (simp))) | (refine AO.op0 rfl (opR_store_pt (i := 0) (c := .cp _) (by kernel_rfl) rfl rfl rfl rfl ?h3) ?_; (case h3 => (simp))) | (refine AO.op0 rfl (opR_store_pt (i := 0) (c := .v _) (by kernel_rfl) rfl rfl rfl rfl ?h4) ?_; (case h4 => (simp))) | (refine AO.op0 rfl (opR_store_pt (i := 1) (c := .pt _ _) (by kernel_rfl) rfl rfl rfl rfl ?h5) ?_; (case h5 => (simp))) | (refine AO.op0 rfl (opR_store_pt (i := 1) (c := .cp _) (by kernel_rfl) rfl rfl rfl rfl ?h6) ?_; (case h6 => (simp))) | (refine AO.op0 rfl (opR_store_pt (i := 1) (c := .v _) (by kernel_rfl) rfl rfl rfl rfl ?h7) ?_; (case h7 => (simp)))
  refine AR.nil ?_
  show AW _ _ _ _ _ _
  refine AW.region ?_
  show AR _ _ _ _ _ [0, 1, 2, 3] _
  refine AR.run rfl rfl ?_
  first | (refine AO.ops rfl rfl (opS_move (av := .pt _ _) rfl) ?_) | (refine AO.ops rfl rfl (opS_move (av := .cp _) rfl) ?_) | (refine AO.ops rfl rfl (opS_move (av := .v _) rfl) ?_)
  refine AR.run rfl rfl ?_
  first | (refine AO.ops rfl rfl (opS_nilCheck_pt rfl) ?_) | (refine AO.ops rfl rfl (opS_nilCheck_cp rfl) ?_) | (refine AO.ops rfl rfl (opS_nilCheck_fn rfl) ?_)
  refine AR.run rfl rfl ?_
  refine AO.ops rfl rfl (opS_fieldAddr_pt (n := 1) (by kernel_rfl) rfl) ?_
  refine AR.run rfl rfl ?_
  first | (refine AO.op0 rfl (opR_store_pt (i := 0) (c := slE _ _ _) (by kernel_rfl) rfl rfl rfl rfl ?h9) ?_; (case h9 => (simp))) | (refine AO.op0 rfl (opR_store_pt (i := 0) (c := .v _) (by kernel_rfl) rfl rfl rfl rfl ?h10) ?_; (case h10 => (simp))) | (refine AO.op0 rfl (opR_store_pt (i := 0) (c := .vw _ _ _ _) (by kernel_rfl) rfl rfl rfl rfl ?h11) ?_; (case h11 => (simp))) | (refine AO.op0 rfl (opR_store_pt (i := 1) (c := slE _ _ _) (by kernel_rfl) rfl rfl rfl rfl ?h12) ?_; (case h12 => (simp))) | (refine AO.op0 rfl (opR_store_pt (i := 1) (c := .v _) (by kernel_rfl) rfl rfl rfl rfl ?h13) ?_; (case h13 => (simp))) | (refine AO.op0 rfl (opR_store_pt (i := 1) (c := .vw _ _ _ _) (by kernel_rfl) rfl rfl rfl rfl ?h14) ?_; (case h14 => (simp)))
  refine AR.nil ?_
  -- END 1 (end)
  show RetPost _ _ _ _ .normal _
  (refine ⟨rfl, _, _, ResV.noneW rfl, ?_, ⟨rfl, rfl⟩⟩; all_goals first | exact Sub.refl _ | exact Sub.nil _ | ((repeat (first | exact Sub.refl _ | exact Sub.nil _ | refine Sub.cons _ ?_ | refine Sub.skip _ ?_)); done) | exact Wv.refl _ | exact Wv.tok _ _ _ | exact Wv.nil _)

/-! (*strings.Builder).String -/
set_option maxRecDepth 100000 in
set_option maxHeartbeats 1000000 in
theorem Builder_StringC (c0 c1 : AV) (o : Nat) (a : AV) (l : List UInt8) (t : Nat) (hl : l.length ≤ 1000000000) :
    ACalls Tryz.prog 30 [.pt o 2] [.obj o [c0, c1, a, slE Enc.byte l (some t)], .tok t 5] (Ret (S l) [.obj o [c0, c1, a, slE Enc.byte l (some t)]]) := by
  refine ACalls.of_body Tryz.func30 rfl rfl ?_
  show AW _ _ 14 _ _ _
  refine AW.seq ?_
  refine AW.region ?_
  show AR _ _ _ _ _ [0] _
  refine AR.run rfl rfl ?_
  refine AO.ops rfl rfl (opS_assign (av := .v _) rfl) ?_
  refine AR.nil ?_
  show AW _ _ _ _ _ _
  refine AW.seq ?_
  refine AW.region_draw (by kernel_rfl) ?_
  show AI _ _ _ _ 12 (Array.replicate 12 false) _
  first | (refine AI.take (i := 0) rfl rfl (by kernel_rfl) (by kernel_rfl) (by kernel_rfl) (fun _ _ h => by obtain ⟨_, _, _, h, _⟩ := h; cases h) (opS_move (av := .pt _ _) rfl) ?_) | (refine AI.take (i := 0) rfl rfl (by kernel_rfl) (by kernel_rfl) (by kernel_rfl) (fun _ _ h => by obtain ⟨_, _, _, h, _⟩ := h; cases h) (opS_move (av := .cp _) rfl) ?_) | (refine AI.take (i := 0) rfl rfl (by kernel_rfl) (by kernel_rfl) (by kernel_rfl) (fun _ _ h => by obtain ⟨_, _, _, h, _⟩ := h; cases h) (opS_move (av := .v _) rfl) ?_)
  show AI _ _ _ _ _ #[true, false, false, false, false, false, false, false, false, false, false, false] _
  first | (refine AI.take (i := 1) rfl rfl (by kernel_rfl) (by kernel_rfl) (by kernel_rfl) (fun _ _ h => by obtain ⟨_, _, _, h, _⟩ := h; cases h) (opS_nilCheck_pt rfl) ?_) | (refine AI.take (i := 1) rfl rfl (by kernel_rfl) (by kernel_rfl) (by kernel_rfl) (fun _ _ h => by obtain ⟨_, _, _, h, _⟩ := h; cases h) (opS_nilCheck_cp rfl) ?_) | (refine AI.take (i := 1) rfl rfl (by kernel_rfl) (by kernel_rfl) (by kernel_rfl) (fun _ _ h => by obtain ⟨_, _, _, h, _⟩ := h; cases h) (opS_nilCheck_fn rfl) ?_)
  show AI _ _ _ _ _ #[true, true, false, false, false, false, false, false, false, false, false, false] _
  refine AI.take (i := 2) rfl rfl (by kernel_rfl) (by kernel_rfl) (by kernel_rfl) (fun _ _ h => by obtain ⟨_, _, _, h, _⟩ := h; cases h) (opS_fieldAddr_pt (n := 1) (by kernel_rfl) rfl) ?_
  show AI _ _ _ _ _ #[true, true, true, false, false, false, false, false, false, false, false, false] _
  first | (refine AI.take (i := 5) rfl rfl (by kernel_rfl) (by kernel_rfl) (by kernel_rfl) (fun _ _ h => by obtain ⟨_, _, _, h, _⟩ := h; cases h) (opS_move (av := .pt _ _) rfl) ?_) | (refine AI.take (i := 5) rfl rfl (by kernel_rfl) (by kernel_rfl) (by kernel_rfl) (fun _ _ h => by obtain ⟨_, _, _, h, _⟩ := h; cases h) (opS_move (av := .cp _) rfl) ?_) | (refine AI.take (i := 5) rfl rfl (by kernel_rfl) (by kernel_rfl) (by kernel_rfl) (fun _ _ h => by obtain ⟨_, _, _, h, _⟩ := h; cases h) (opS_move (av := .v _) rfl) ?_)
  show AI _ _ _ _ _ #[true, true, true, false, false, true, false, false, false, false, false, false] _
  first | (refine AI.take (i := 6) rfl rfl (by kernel_rfl) (by kernel_rfl) (by kernel_rfl) (fun _ _ h => by obtain ⟨_, _, _, h, _⟩ := h; cases h) (opS_nilCheck_pt rfl) ?_) | (refine AI.take (i := 6) rfl rfl (by kernel_rfl) (by kernel_rfl) (by kernel_rfl) (fun _ _ h => by obtain ⟨_, _, _, h, _⟩ := h; cases h) (opS_nilCheck_cp rfl) ?_) | (refine AI.take (i := 6) rfl rfl (by kernel_rfl) (by kernel_rfl) (by kernel_rfl) (fun _ _ h => by obtain ⟨_, _, _, h, _⟩ := h; cases h) (opS_nilCheck_fn rfl) ?_)
  show AI _ _ _ _ _ #[true, true, true, false, false, true, true, false, false, false, false, false] _
  refine AI.take (i := 7) rfl rfl (by kernel_rfl) (by kernel_rfl) (by kernel_rfl) (fun _ _ h => by obtain ⟨_, _, _, h, _⟩ := h; cases h) (opS_fieldAddr_pt (n := 1) (by kernel_rfl) rfl) ?_
  show AI _ _ _ _ _ #[true, true, true, false, false, true, true, true, false, false, false, false] _
  refine AI.two (i := 3) (j := 8) (by kernel_rfl) rfl rfl rfl rfl ?_ ?_
  ·
    first | refine AIO.op rfl (opR_load_pt (i := 0) Tryz.underlying33 rfl rfl rfl rfl) ?_ | refine AIO.op rfl (opR_load_pt (i := 1) Tryz.underlying33 rfl rfl rfl rfl) ?_
    show AI _ _ _ _ _ #[true, true, true, true, false, true, true, true, false, false, false, false] _
    refine AI.two (i := 4) (j := 8) (by kernel_rfl) rfl rfl rfl rfl ?_ ?_
    ·
      first | refine AIO.op rfl (opR_sliceData (i := 0) Tryz.underlying63 rfl rfl) ?_ | refine AIO.op rfl (opR_sliceData (i := 1) Tryz.underlying63 rfl rfl) ?_
      show AI _ _ _ _ _ #[true, true, true, true, true, true, true, true, false, false, false, false] _
      refine AI.one (i := 8) (by kernel_rfl) rfl rfl ?_
      first | refine AIO.op rfl (opR_load_pt (i := 0) Tryz.underlying33 rfl rfl rfl rfl) ?_ | refine AIO.op rfl (opR_load_pt (i := 1) Tryz.underlying33 rfl rfl rfl rfl) ?_
      show AI _ _ _ _ _ #[true, true, true, true, true, true, true, true, true, false, false, false] _
      first | (refine AI.take (i := 9) rfl rfl (by kernel_rfl) (by kernel_rfl) (by kernel_rfl) (fun _ _ h => by obtain ⟨_, _, _, h, _⟩ := h; cases h) (opS_len_sl Tryz.underlying33 rfl) ?_) | (refine AI.take (i := 9) rfl rfl (by kernel_rfl) (by kernel_rfl) (by kernel_rfl) (fun _ _ h => by obtain ⟨_, _, _, h, _⟩ := h; cases h) (opS_len_nil Tryz.underlying33 rfl) ?_)
      show AI _ _ _ _ _ #[true, true, true, true, true, true, true, true, true, true, false, false] _
      refine AI.one (i := 10) (by kernel_rfl) rfl rfl ?_
      first | (refine AIO.op rfl (opR_unsafeString (i := 0) (El := 5) Tryz.underlying63 (by kernel_rfl) rfl rfl rfl ?h2 rfl) ?_; (case h2 => (first | omega | (simp; omega)))) | (refine AIO.op rfl (opR_unsafeString (i := 1) (El := 5) Tryz.underlying63 (by kernel_rfl) rfl rfl rfl ?h3 rfl) ?_; (case h3 => (first | omega | (simp; omega))))
      show AI _ _ _ _ _ #[true, true, true, true, true, true, true, true, true, true, true, false] _
      refine AI.take (i := 11) rfl rfl (by kernel_rfl) (by kernel_rfl) (by kernel_rfl) (fun _ _ h => by obtain ⟨_, _, _, h, _⟩ := h; cases h) (opS_assign (av := .v _) rfl) ?_
      show AI _ _ _ _ _ #[true, true, true, true, true, true, true, true, true, true, true, true] _
      refine AI.done rfl ?_
      show AW _ _ _ _ _ _
      refine AW.ret ?_
      -- END 1 (ret)
      show RetPost _ _ _ _ .ret _
      (refine ⟨rfl, _, _, ResV.oneW rfl ?_, ?_, ⟨rfl, rfl⟩⟩; all_goals first | exact Sub.refl _ | exact Sub.nil _ | ((repeat (first | exact Sub.refl _ | exact Sub.nil _ | refine Sub.cons _ ?_ | refine Sub.skip _ ?_)); done) | exact Wv.refl _ | exact Wv.tok _ _ _ | exact Wv.nil _)
    ·
      first | refine AIO.op rfl (opR_load_pt (i := 0) Tryz.underlying33 rfl rfl rfl rfl) ?_ | refine AIO.op rfl (opR_load_pt (i := 1) Tryz.underlying33 rfl rfl rfl rfl) ?_
      show AI _ _ _ _ _ #[true, true, true, true, false, true, true, true, true, false, false, false] _
      first | (refine AI.take (i := 9) rfl rfl (by kernel_rfl) (by kernel_rfl) (by kernel_rfl) (fun _ _ h => by obtain ⟨_, _, _, h, _⟩ := h; cases h) (opS_len_sl Tryz.underlying33 rfl) ?_) | (refine AI.take (i := 9) rfl rfl (by kernel_rfl) (by kernel_rfl) (by kernel_rfl) (fun _ _ h => by obtain ⟨_, _, _, h, _⟩ := h; cases h) (opS_len_nil Tryz.underlying33 rfl) ?_)
      show AI _ _ _ _ _ #[true, true, true, true, false, true, true, true, true, true, false, false] _
      refine AI.one (i := 4) (by kernel_rfl) rfl rfl ?_
      first | refine AIO.op rfl (opR_sliceData (i := 0) Tryz.underlying63 rfl rfl) ?_ | refine AIO.op rfl (opR_sliceData (i := 1) Tryz.underlying63 rfl rfl) ?_
      show AI _ _ _ _ _ #[true, true, true, true, true, true, true, true, true, true, false, false] _
      refine AI.one (i := 10) (by kernel_rfl) rfl rfl ?_
      first | (refine AIO.op rfl (opR_unsafeString (i := 0) (El := 5) Tryz.underlying63 (by kernel_rfl) rfl rfl rfl ?h5 rfl) ?_; (case h5 => (first | omega | (simp; omega)))) | (refine AIO.op rfl (opR_unsafeString (i := 1) (El := 5) Tryz.underlying63 (by kernel_rfl) rfl rfl rfl ?h6 rfl) ?_; (case h6 => (first | omega | (simp; omega))))
      show AI _ _ _ _ _ #[true, true, true, true, true, true, true, true, true, true, true, false] _
      refine AI.take (i := 11) rfl rfl (by kernel_rfl) (by kernel_rfl) (by kernel_rfl) (fun _ _ h => by obtain ⟨_, _, _, h, _⟩ := h; cases h) (opS_assign (av := .v _) rfl) ?_
      show AI _ _ _ _ _ #[true, true, true, true, true, true, true, true, true, true, true, true] _
      refine AI.done rfl ?_
      show AW _ _ _ _ _ _
      refine AW.ret ?_
      -- END 2 (ret)
      show RetPost _ _ _ _ .ret _
      (refine ⟨rfl, _, _, ResV.oneW rfl ?_, ?_, ⟨rfl, rfl⟩⟩; all_goals first | exact Sub.refl _ | exact Sub.nil _ | ((repeat (first | exact Sub.refl _ | exact Sub.nil _ | refine Sub.cons _ ?_ | refine Sub.skip _ ?_)); done) | exact Wv.refl _ | exact Wv.tok _ _ _ | exact Wv.nil _)
  ·
    first | refine AIO.op rfl (opR_load_pt (i := 0) Tryz.underlying33 rfl rfl rfl rfl) ?_ | refine AIO.op rfl (opR_load_pt (i := 1) Tryz.underlying33 rfl rfl rfl rfl) ?_
    show AI _ _ _ _ _ #[true, true, true, false, false, true, true, true, true, false, false, false] _
    first | (refine AI.take (i := 9) rfl rfl (by kernel_rfl) (by kernel_rfl) (by kernel_rfl) (fun _ _ h => by obtain ⟨_, _, _, h, _⟩ := h; cases h) (opS_len_sl Tryz.underlying33 rfl) ?_) | (refine AI.take (i := 9) rfl rfl (by kernel_rfl) (by kernel_rfl) (by kernel_rfl) (fun _ _ h => by obtain ⟨_, _, _, h, _⟩ := h; cases h) (opS_len_nil Tryz.underlying33 rfl) ?_)
    show AI _ _ _ _ _ #[true, true, true, false, false, true, true, true, true, true, false, false] _
    refine AI.one (i := 3) (by kernel_rfl) rfl rfl ?_
    first | refine AIO.op rfl (opR_load_pt (i := 0) Tryz.underlying33 rfl rfl rfl rfl) ?_ | refine AIO.op rfl (opR_load_pt (i := 1) Tryz.underlying33 rfl rfl rfl rfl) ?_
    show AI _ _ _ _ _ #[true, true, true, true, false, true, true, true, true, true, false, false] _
    refine AI.one (i := 4) (by kernel_rfl) rfl rfl ?_
    first | refine AIO.op rfl (opR_sliceData (i := 0) Tryz.underlying63 rfl rfl) ?_ | refine AIO.op rfl (opR_sliceData (i := 1) Tryz.underlying63 rfl rfl) ?_
    show AI _ _ _ _ _ #[true, true, true, true, true, true, true, true, true, true, false, false] _
    refine AI.one (i := 10) (by kernel_rfl) rfl rfl ?_
    first | (refine AIO.op rfl (opR_unsafeString (i := 0) (El := 5) Tryz.underlying63 (by kernel_rfl) rfl rfl rfl ?h8 rfl) ?_; (case h8 => (first | omega | (simp; omega)))) | (refine AIO.op rfl (opR_unsafeString (i := 1) (El := 5) Tryz.underlying63 (by kernel_rfl) rfl rfl rfl ?h9 rfl) ?_; (case h9 => (first | omega | (simp; omega))))
    show AI _ _ _ _ _ #[true, true, true, true, true, true, true, true, true, true, true, false] _
    refine AI.take (i := 11) rfl rfl (by kernel_rfl) (by kernel_rfl) (by kernel_rfl) (fun _ _ h => by obtain ⟨_, _, _, h, _⟩ := h; cases h) (opS_assign (av := .v _) rfl) ?_
    show AI _ _ _ _ _ #[true, true, true, true, true, true, true, true, true, true, true, true] _
    refine AI.done rfl ?_
    show AW _ _ _ _ _ _
    refine AW.ret ?_
    -- END 3 (ret)
    show RetPost _ _ _ _ .ret _
    (refine ⟨rfl, _, _, ResV.oneW rfl ?_, ?_, ⟨rfl, rfl⟩⟩; all_goals first | exact Sub.refl _ | exact Sub.nil _ | ((repeat (first | exact Sub.refl _ | exact Sub.nil _ | refine Sub.cons _ ?_ | refine Sub.skip _ ?_)); done) | exact Wv.refl _ | exact Wv.tok _ _ _ | exact Wv.nil _)
end Go.Proofs.YtjajiokihccobaaGreatDoor
