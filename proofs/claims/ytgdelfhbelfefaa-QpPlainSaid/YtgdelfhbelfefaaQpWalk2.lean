/-
  What coding and decoding of quoted text compute, by content.
-/
import Derived.Test.YtgdelfhbelfefaaQpWalks
set_option linter.unusedVariables false
set_option linter.unusedSimpArgs false
namespace Go.Proofs.Ytgdelfhbelfefaa
open Go.RowKit Go.Av

theorem shlor' : ∀ x y : Nat, x < 16 → y < 16 → IntKind.u8.wrap ((BitVec.ofInt IntKind.u8.bits (IntKind.u8.wrap (((UInt8.ofNat x).toNat : Int) * 2 ^ min (4 : Int).toNat IntKind.u8.bits)) ||| BitVec.ofInt IntKind.u8.bits ((UInt8.ofNat y).toNat : Int)).toNat : Int) = ((UInt8.ofNat (16 * x + y)).toNat : Int) := by
  have h : ∀ x : Nat, x < 16 → ∀ y : Nat, y < 16 → IntKind.u8.wrap ((BitVec.ofInt IntKind.u8.bits (IntKind.u8.wrap (((UInt8.ofNat x).toNat : Int) * 2 ^ min (4 : Int).toNat IntKind.u8.bits)) ||| BitVec.ofInt IntKind.u8.bits ((UInt8.ofNat y).toNat : Int)).toNat : Int) = ((UInt8.ofNat (16 * x + y)).toNat : Int) := by decide +kernel
  exact fun x y hx hy => h x hx y hy
theorem dig_getD (c : UInt8) : (Qp.dig c).getD 0 < 16 := by
  cases h : Qp.dig c with
  | none => decide
  | some i => exact dig_lt c.toNat c.toNat_lt i (by rw [UInt8.ofNat_toNat]; exact h)
theorem shlor (c d : UInt8) : AV.v (.int .u8 (IntKind.u8.wrap ((BitVec.ofInt IntKind.u8.bits (IntKind.u8.wrap (((UInt8.ofNat ((Qp.dig c).getD 0)).toNat : Int) * 2 ^ min (4 : Int).toNat IntKind.u8.bits)) ||| BitVec.ofInt IntKind.u8.bits ((UInt8.ofNat ((Qp.dig d).getD 0)).toNat : Int)).toNat : Int))) =
    u8 (UInt8.ofNat (16 * (Qp.dig c).getD 0 + (Qp.dig d).getD 0)) := by rw [shlor' _ _ (dig_getD c) (dig_getD d)]


/-! qp.Encode -/
set_option maxRecDepth 100000 in
set_option maxHeartbeats 1000000 in
theorem qp_Encode (b : List UInt8) (tb : Option Nat) (hb : b.length ≤ 100000000) :
    ACalls Try.prog 12 [slE Enc.byte b tb] [] (Ret (slE Enc.byte (Qp.enc 0 b) none) []) := by
  refine ACalls.of_body Try.func12 rfl rfl ?_
  show AW _ _ 41 _ _ _
  refine AW.seq ?_
  refine AW.region ?_
  show AR _ _ _ _ _ [0] _
  refine AR.run rfl rfl ?_
  refine AO.ops rfl rfl (opS_assign (av := .v _) rfl) ?_
  refine AR.nil ?_
  show AW _ _ _ _ _ _
  refine AW.seq ?_
  refine AW.region ?_
  show AR _ _ _ _ _ [0, 1, 2] _
  refine AR.run rfl rfl ?_
  refine AO.ops rfl rfl (opS_build (zs := [.slice none 0 0, .int .i64 0]) (ps := [(0, 1), (1, 1)]) (by kernel_rfl) (by simp) rfl) ?_
  refine AR.run rfl rfl ?_
  refine AO.opx rfl rfl (opX_box rfl ?h2) ?_
  (case h2 => (first | exact .inl rfl | exact .inr ⟨_, rfl⟩))
  rintro _ _ ⟨o7, rfl, rfl⟩
  refine AR.run rfl rfl ?_
  first | (refine AO.ops rfl rfl (opS_assign (av := .pt _ _) rfl) ?_) | (refine AO.ops rfl rfl (opS_assign (av := .cp _) rfl) ?_) | (refine AO.ops rfl rfl (opS_assign (av := .v _) rfl) ?_)
  refine AR.nil ?_
  show AW _ _ _ _ _ _
  refine AW.seq ?_
  refine AW.seq ?_
  refine AW.region ?_
  show AR _ _ _ _ _ [0, 1, 2] _
  refine AR.run rfl rfl ?_
  first | (refine AO.ops rfl rfl (opS_move (av := slE _ _ _) rfl) ?_) | (refine AO.ops rfl rfl (opS_move (av := .v _) rfl) ?_) | (refine AO.ops rfl rfl (opS_move (av := .vw _ _ _ _) rfl) ?_)
  refine AR.run rfl rfl ?_
  first | (refine AO.ops rfl rfl (opS_len_sl Try.underlying22 rfl) ?_) | (refine AO.ops rfl rfl (opS_len_nil Try.underlying22 rfl) ?_)
  refine AR.run rfl rfl ?_
  refine AO.ops rfl rfl (opS_move (av := .v _) rfl) ?_
  refine AR.nil ?_
  show AW _ _ _ _ _ _
  refine AW.block ?_
  refine AW.nil_obj 0 1 rfl (fun t0 => ?_)
  refine AW.loop (X := Nat × Nat × List UInt8 × Nat) (fun (i, n, l, t) => ⟨[(0, slE Enc.byte b tb), (3, .pt o7 0), (8, slE Enc.byte b tb), (9, i64 b.length), (10, i64 i)], [], [.obj o7 [slE Enc.byte l (some t), i64 n], .tok t]⟩) (fun (i, n, l, t) => i ≤ b.length ∧ n ≤ 75 ∧ l.length ≤ 6 * i ∧ l ++ Qp.enc n (b.drop i) = Qp.enc 0 b) (fun (i, n, l, t) => b.length - i) (0, 0, [], t0) ?_ ?_ ?_
  · simp
  · refine WK.env (Env.le.cons ?_ (Env.le.cons ?_ (Env.le.cons ?_ (Env.le.cons ?_ (Env.le.cons ?_ (Env.le.nil _)))))) ?_
    all_goals first | exact Sub.refl _ | exact Sub.nil _ | ((repeat (first | exact Sub.refl _ | exact Sub.nil _ | refine Sub.cons _ ?_ | refine Sub.skip _ ?_)); done) | exact Wv.refl _ | exact Wv.any _ | exact Wv.tok _ _ _ | exact Wv.nil _ | (refine Wv.of_eq ?_; first | rfl | exact i64_congr (by omega) | (simp))
  · rintro ⟨i, n, l, t⟩ ⟨h1, h2, h3, h4⟩
    show AW _ _ _ _ _ _
    refine AW.seq ?_
    refine AW.region ?_
    show AR _ _ _ _ _ [0] _
    refine AR.run rfl rfl ?_
    refine AO.ops rfl rfl (opS_lt rfl rfl) ?_
    refine AR.nil ?_
    show AW _ _ _ _ _ _
    refine AW.seq ?_
    refine AW.cond rfl (fun c1 => ?_) (fun c1 => ?_)
    ·
      have c1p := c1; try simp only [decide_eq_true_eq, decide_eq_false_iff_not, Bool.not_eq_true', Bool.not_eq_false', Bool.not_true, Bool.not_false, Bool.not_eq_eq_eq_not] at c1p
      refine AW.skip ?_
      show AW _ _ _ _ _ _
      refine AW.seq ?_
      refine AW.block ?_
      refine AW.seq ?_
      refine AW.region ?_
      show AR _ _ _ _ _ [0, 1, 2, 3, 4] _
      refine AR.run rfl rfl ?_
      refine AO.ops rfl rfl (opS_move (av := .v _) rfl) ?_
      refine AR.run rfl rfl ?_
      refine AO.ops rfl rfl (opS_indexAddr_lt Try.underlying22 (by kernel_rfl) rfl rfl rfl ?h3) ?_
      (case h3 => (omega))
      refine AR.run rfl rfl ?_
      first | refine AO.ops rfl rfl (opS_load_cp Try.underlying5 rfl rfl) ?_ | refine AO.op rfl rfl (opR_load_pt (i := 0) Try.underlying5 rfl rfl rfl rfl) ?_ | refine AO.op rfl rfl (opR_load_pt (i := 1) Try.underlying5 rfl rfl rfl rfl) ?_ | refine AO.op rfl rfl (opR_load_pt (i := 2) Try.underlying5 rfl rfl rfl rfl) ?_ | refine AO.op rfl rfl (opR_load_pt (i := 3) Try.underlying5 rfl rfl rfl rfl) ?_
      refine AR.run rfl rfl ?_
      refine AO.ops rfl rfl (opS_assign (av := .v _) rfl) ?_
      refine AR.run rfl rfl ?_
      refine AO.ops rfl rfl (opS_assign (av := .v _) rfl) ?_
      refine AR.nil ?_
      show AW _ _ _ _ _ _
      refine AW.seq ?_
      refine AW.seq ?_
      refine AW.region ?_
      show AR _ _ _ _ _ [0, 1] _
      refine AR.run rfl rfl ?_
      refine AO.ops rfl rfl (opS_move (av := .v _) rfl) ?_
      refine AR.run rfl rfl ?_
      refine AO.ops rfl rfl (opS_eqi rfl rfl) ?_
      refine AR.nil ?_
      show AW _ _ _ _ _ _
      refine AW.cond rfl (fun c2 => ?_) (fun c2 => ?_)
      ·
        have c2p := c2; try simp only [decide_eq_true_eq, decide_eq_false_iff_not, Bool.not_eq_true', Bool.not_eq_false', Bool.not_true, Bool.not_false, Bool.not_eq_eq_eq_not] at c2p
        refine AW.seq ?_
        refine AW.region ?_
        show AR _ _ _ _ _ [0, 1, 2, 3, 4, 5, 6, 7, 8, 9, 10, 11, 12] _
        refine AR.run rfl rfl ?_
        first | (refine AO.ops rfl rfl (opS_move (av := .pt _ _) rfl) ?_) | (refine AO.ops rfl rfl (opS_move (av := .cp _) rfl) ?_) | (refine AO.ops rfl rfl (opS_move (av := .v _) rfl) ?_)
        refine AR.run rfl rfl ?_
        first | (refine AO.ops rfl rfl (opS_move (av := .pt _ _) rfl) ?_) | (refine AO.ops rfl rfl (opS_move (av := .cp _) rfl) ?_) | (refine AO.ops rfl rfl (opS_move (av := .v _) rfl) ?_)
        refine AR.run rfl rfl ?_
        first | (refine AO.ops rfl rfl (opS_move (av := .pt _ _) rfl) ?_) | (refine AO.ops rfl rfl (opS_move (av := .cp _) rfl) ?_) | (refine AO.ops rfl rfl (opS_move (av := .v _) rfl) ?_)
        refine AR.run rfl rfl ?_
        first | (refine AO.ops rfl rfl (opS_nilCheck_pt rfl) ?_) | (refine AO.ops rfl rfl (opS_nilCheck_cp rfl) ?_) | (refine AO.ops rfl rfl (opS_nilCheck_fn rfl) ?_)
        refine AR.run rfl rfl ?_
        refine AO.ops rfl rfl (opS_fieldAddr_pt (n := 0) (by kernel_rfl) rfl) ?_
        refine AR.run rfl rfl ?_
        first | refine AO.ops rfl rfl (opS_load_cp Try.underlying22 rfl rfl) ?_ | refine AO.op rfl rfl (opR_load_pt (i := 0) Try.underlying22 rfl rfl rfl rfl) ?_ | refine AO.op rfl rfl (opR_load_pt (i := 1) Try.underlying22 rfl rfl rfl rfl) ?_ | refine AO.op rfl rfl (opR_load_pt (i := 2) Try.underlying22 rfl rfl rfl rfl) ?_ | refine AO.op rfl rfl (opR_load_pt (i := 3) Try.underlying22 rfl rfl rfl rfl) ?_
        refine AR.run rfl rfl ?_
        first | (refine AO.opx rfl rfl (opX_append_str (bytes := 1) 0 Try.underlying22 Try.underlying9 rfl (by kernel_rfl) rfl rfl rfl ?h6 ?h7) ?_; (case h6 => (first | omega | (simp; done) | (simp; omega))); (case h7 => (first | omega | (simp; done) | (simp; omega)))) | (refine AO.opx rfl rfl (opX_append_str (bytes := 1) 1 Try.underlying22 Try.underlying9 rfl (by kernel_rfl) rfl rfl rfl ?h8 ?h9) ?_; (case h8 => (first | omega | (simp; done) | (simp; omega))); (case h9 => (first | omega | (simp; done) | (simp; omega)))) | (refine AO.opx rfl rfl (opX_append_str (bytes := 1) 2 Try.underlying22 Try.underlying9 rfl (by kernel_rfl) rfl rfl rfl ?h10 ?h11) ?_; (case h10 => (first | omega | (simp; done) | (simp; omega))); (case h11 => (first | omega | (simp; done) | (simp; omega)))) | (refine AO.opx rfl rfl (opX_append_str (bytes := 1) 3 Try.underlying22 Try.underlying9 rfl (by kernel_rfl) rfl rfl rfl ?h12 ?h13) ?_; (case h12 => (first | omega | (simp; done) | (simp; omega))); (case h13 => (first | omega | (simp; done) | (simp; omega))))
        rintro _ _ ⟨t23, rfl, rfl⟩
        refine AR.run rfl rfl ?_
        first | (refine AO.ops rfl rfl (opS_nilCheck_pt rfl) ?_) | (refine AO.ops rfl rfl (opS_nilCheck_cp rfl) ?_) | (refine AO.ops rfl rfl (opS_nilCheck_fn rfl) ?_)
        refine AR.run rfl rfl ?_
        refine AO.ops rfl rfl (opS_fieldAddr_pt (n := 0) (by kernel_rfl) rfl) ?_
        refine AR.run rfl rfl ?_
        first | (refine AO.op0 rfl (opR_store_pt (i := 0) (c := slE _ _ _) (by kernel_rfl) rfl rfl rfl rfl ?h15) ?_; (case h15 => (simp))) | (refine AO.op0 rfl (opR_store_pt (i := 0) (c := .v _) (by kernel_rfl) rfl rfl rfl rfl ?h16) ?_; (case h16 => (simp))) | (refine AO.op0 rfl (opR_store_pt (i := 0) (c := .vw _ _ _ _) (by kernel_rfl) rfl rfl rfl rfl ?h17) ?_; (case h17 => (simp))) | (refine AO.op0 rfl (opR_store_pt (i := 1) (c := slE _ _ _) (by kernel_rfl) rfl rfl rfl rfl ?h18) ?_; (case h18 => (simp))) | (refine AO.op0 rfl (opR_store_pt (i := 1) (c := .v _) (by kernel_rfl) rfl rfl rfl rfl ?h19) ?_; (case h19 => (simp))) | (refine AO.op0 rfl (opR_store_pt (i := 1) (c := .vw _ _ _ _) (by kernel_rfl) rfl rfl rfl rfl ?h20) ?_; (case h20 => (simp))) | (refine AO.op0 rfl (opR_store_pt (i := 2) (c := slE _ _ _) (by kernel_rfl) rfl rfl rfl rfl ?h21) ?_; (case h21 => (simp))) | (refine AO.op0 rfl (opR_store_pt (i := 2) (c := .v _) (by kernel_rfl) rfl rfl rfl rfl ?h22) ?_; (case h22 => (simp))) | (refine AO.op0 rfl (opR_store_pt (i := 2) (c := .vw _ _ _ _) (by kernel_rfl) rfl rfl rfl rfl ?h23) ?_; (case h23 => (simp))) | (refine AO.op0 rfl (opR_store_pt (i := 3) (c := slE _ _ _) (by kernel_rfl) rfl rfl rfl rfl ?h24) ?_; (case h24 => (simp))) | (refine AO.op0 rfl (opR_store_pt (i := 3) (c := .v _) (by kernel_rfl) rfl rfl rfl rfl ?h25) ?_; (case h25 => (simp))) | (refine AO.op0 rfl (opR_store_pt (i := 3) (c := .vw _ _ _ _) (by kernel_rfl) rfl rfl rfl rfl ?h26) ?_; (case h26 => (simp)))
        refine AR.run rfl rfl ?_
        first | (refine AO.ops rfl rfl (opS_nilCheck_pt rfl) ?_) | (refine AO.ops rfl rfl (opS_nilCheck_cp rfl) ?_) | (refine AO.ops rfl rfl (opS_nilCheck_fn rfl) ?_)
        refine AR.run rfl rfl ?_
        refine AO.ops rfl rfl (opS_fieldAddr_pt (n := 1) (by kernel_rfl) rfl) ?_
        refine AR.run rfl rfl ?_
        first | (refine AO.op0 rfl (opR_store_pt (i := 0) (c := .v _) (by kernel_rfl) rfl rfl rfl rfl ?h28) ?_; (case h28 => (simp))) | (refine AO.op0 rfl (opR_store_pt (i := 1) (c := .v _) (by kernel_rfl) rfl rfl rfl rfl ?h29) ?_; (case h29 => (simp))) | (refine AO.op0 rfl (opR_store_pt (i := 2) (c := .v _) (by kernel_rfl) rfl rfl rfl rfl ?h30) ?_; (case h30 => (simp))) | (refine AO.op0 rfl (opR_store_pt (i := 3) (c := .v _) (by kernel_rfl) rfl rfl rfl rfl ?h31) ?_; (case h31 => (simp)))
        refine AR.nil ?_
        show AW _ _ _ _ _ _
        refine AW.exit ?_
        show AW _ _ _ _ _ _
        refine AW.region ?_
        show AR _ _ _ _ _ [0, 1] _
        refine AR.run rfl rfl ?_
        refine AO.ops rfl rfl (opS_add rfl rfl ?h33) ?_
        (case h33 => (omega))
        refine AR.run rfl rfl ?_
        refine AO.ops rfl rfl (opS_move (av := .v _) rfl) ?_
        refine AR.nil ?_
        -- END 1 (loop1)
        refine ⟨(i + 1, 0, l ++ [13, 10], t23), ?_, ?_, ?_⟩
        · refine ⟨by omega, by omega, by simp; omega, ?_⟩
          rw [← h4, Qp.enc_step n b i (by omega), if_pos (by omega), List.append_assoc]
        · (try simp only []); omega
        · refine WK.env (Env.le.cons ?_ (Env.le.cons ?_ (Env.le.cons ?_ (Env.le.cons ?_ (Env.le.cons ?_ (Env.le.nil _)))))) ?_
          all_goals first | exact Sub.refl _ | exact Sub.nil _ | ((repeat (first | exact Sub.refl _ | exact Sub.nil _ | refine Sub.cons _ ?_ | refine Sub.skip _ ?_)); done) | exact Wv.refl _ | exact Wv.any _ | exact Wv.tok _ _ _ | exact Wv.nil _ | (refine Wv.of_eq ?_; first | rfl | exact i64_congr (by omega) | (simp))
      ·
        have c2p := c2; try simp only [decide_eq_true_eq, decide_eq_false_iff_not, Bool.not_eq_true', Bool.not_eq_false', Bool.not_true, Bool.not_false, Bool.not_eq_eq_eq_not] at c2p
        refine AW.skip ?_
        show AW _ _ _ _ _ _
        refine AW.region ?_
        show AR _ _ _ _ _ [0, 1, 2, 3, 4, 5, 6, 7] _
        refine AR.run rfl rfl ?_
        first | (refine AO.ops rfl rfl (opS_move (av := .pt _ _) rfl) ?_) | (refine AO.ops rfl rfl (opS_move (av := .cp _) rfl) ?_) | (refine AO.ops rfl rfl (opS_move (av := .v _) rfl) ?_)
        refine AR.run rfl rfl ?_
        refine AO.ops rfl rfl (opS_move (av := .v _) rfl) ?_
        refine AR.run rfl rfl ?_
        first | (refine AO.ops rfl rfl (opS_move (av := slE _ _ _) rfl) ?_) | (refine AO.ops rfl rfl (opS_move (av := .v _) rfl) ?_) | (refine AO.ops rfl rfl (opS_move (av := .vw _ _ _ _) rfl) ?_)
        refine AR.run rfl rfl ?_
        refine AO.ops rfl rfl (opS_move (av := .v _) rfl) ?_
        refine AR.run rfl rfl ?_
        refine AO.ops rfl rfl (opS_add rfl rfl ?h35) ?_
        (case h35 => (omega))
        refine AR.run rfl rfl ?_
        refine AO.ops rfl rfl (opS_slice_sl_from (lo := i + 1) Try.underlying22 (by kernel_rfl) rfl rfl ?h37 ?h38) ?_
        (case h37 => (omega))
        (case h38 => (first | omega | (simp; done) | (simp; omega)))
        refine AR.run rfl rfl ?_
        refine AO.callp rfl en18 rfl (qp_code _ _ _) ?_
        refine AR.run rfl rfl ?_
        refine AO.call [] rfl en17 rfl (qp_put o7 t n l _ (by omega) (by omega) (by have := Qp.code_length b[i] (b.drop (i + 1)); omega)) ?p2 ?k2 ?q2
        (case p2 => (exact List.Perm.refl _))
        (case q2 => (rintro c A' ⟨h, _⟩; cases h))
        rintro av A' ⟨h, t35, rfl⟩; cases h
        refine AR.nil ?_
        show AW _ _ _ _ _ _
        refine AW.region ?_
        show AR _ _ _ _ _ [0, 1] _
        refine AR.run rfl rfl ?_
        refine AO.ops rfl rfl (opS_add rfl rfl ?h40) ?_
        (case h40 => (omega))
        refine AR.run rfl rfl ?_
        refine AO.ops rfl rfl (opS_move (av := .v _) rfl) ?_
        refine AR.nil ?_
        -- END 2 (loop1)
        refine ⟨(i + 1, (Qp.put n (Qp.code b[i] (b.drop (i + 1)))).2, l ++ (Qp.put n (Qp.code b[i] (b.drop (i + 1)))).1, t35), ?_, ?_, ?_⟩
        · have hp := Qp.put_bounds n (Qp.code b[i] (b.drop (i + 1))) h2 (Qp.code_length _ _)
          refine ⟨by omega, hp.1, by simp; omega, ?_⟩
          rw [← h4, Qp.enc_step n b i (by omega), if_neg (by omega), List.append_assoc]
        · (try simp only []); omega
        · refine WK.env (Env.le.cons ?_ (Env.le.cons ?_ (Env.le.cons ?_ (Env.le.cons ?_ (Env.le.cons ?_ (Env.le.nil _)))))) ?_
          all_goals first | exact Sub.refl _ | exact Sub.nil _ | ((repeat (first | exact Sub.refl _ | exact Sub.nil _ | refine Sub.cons _ ?_ | refine Sub.skip _ ?_)); done) | exact Wv.refl _ | exact Wv.any _ | exact Wv.tok _ _ _ | exact Wv.nil _ | (refine Wv.of_eq ?_; first | rfl | exact i64_congr (by omega) | (simp))
    ·
      have c1p := c1; try simp only [decide_eq_true_eq, decide_eq_false_iff_not, Bool.not_eq_true', Bool.not_eq_false', Bool.not_true, Bool.not_false, Bool.not_eq_eq_eq_not] at c1p
      refine AW.exit ?_
      show AW _ _ _ _ _ _
      refine AW.seq ?_
      refine AW.region ?_
      show AR _ _ _ _ _ [0, 1, 2, 3, 4] _
      refine AR.run rfl rfl ?_
      first | (refine AO.ops rfl rfl (opS_move (av := .pt _ _) rfl) ?_) | (refine AO.ops rfl rfl (opS_move (av := .cp _) rfl) ?_) | (refine AO.ops rfl rfl (opS_move (av := .v _) rfl) ?_)
      refine AR.run rfl rfl ?_
      first | (refine AO.ops rfl rfl (opS_nilCheck_pt rfl) ?_) | (refine AO.ops rfl rfl (opS_nilCheck_cp rfl) ?_) | (refine AO.ops rfl rfl (opS_nilCheck_fn rfl) ?_)
      refine AR.run rfl rfl ?_
      refine AO.ops rfl rfl (opS_fieldAddr_pt (n := 0) (by kernel_rfl) rfl) ?_
      refine AR.run rfl rfl ?_
      first | refine AO.ops rfl rfl (opS_load_cp Try.underlying22 rfl rfl) ?_ | refine AO.op rfl rfl (opR_load_pt (i := 0) Try.underlying22 rfl rfl rfl rfl) ?_ | refine AO.op rfl rfl (opR_load_pt (i := 1) Try.underlying22 rfl rfl rfl rfl) ?_ | refine AO.op rfl rfl (opR_load_pt (i := 2) Try.underlying22 rfl rfl rfl rfl) ?_ | refine AO.op rfl rfl (opR_load_pt (i := 3) Try.underlying22 rfl rfl rfl rfl) ?_
      refine AR.run rfl rfl ?_
      first | (refine AO.ops rfl rfl (opS_assign (av := slE _ _ _) rfl) ?_) | (refine AO.ops rfl rfl (opS_assign (av := .v _) rfl) ?_) | (refine AO.ops rfl rfl (opS_assign (av := .vw _ _ _ _) rfl) ?_)
      refine AR.nil ?_
      show AW _ _ _ _ _ _
      refine AW.ret ?_
      -- END 3 (ret)
      show RetPost _ _ _ _ .ret _
      have hi : i = b.length := by omega
      subst hi
      rw [List.drop_length, Qp.enc, List.append_nil] at h4
      rw [← h4]
      (refine ⟨rfl, _, _, ResV.oneW rfl ?_, ?_, ⟨rfl, rfl⟩⟩; all_goals first | exact Sub.refl _ | exact Sub.nil _ | ((repeat (first | exact Sub.refl _ | exact Sub.nil _ | refine Sub.cons _ ?_ | refine Sub.skip _ ?_)); done) | exact Wv.refl _ | exact Wv.tok _ _ _ | exact Wv.nil _)

/-! qp.Decode -/
set_option maxRecDepth 100000 in
set_option maxHeartbeats 1000000 in
theorem qp_Decode (b : List UInt8) (tb : Option Nat) (hb : b.length ≤ 100000000) :
    ACalls Try.prog 10 [slE Enc.byte b tb] [] (Ret (.tup [slE Enc.byte ((Qp.decode b).getD []) none, i64 (if (Qp.decode b).isSome then 0 else 2)]) []) := by
  refine ACalls.of_body Try.func10 rfl rfl ?_
  show AW _ _ 88 _ _ _
  refine AW.seq ?_
  refine AW.region ?_
  show AR _ _ _ _ _ [0, 1] _
  refine AR.run rfl rfl ?_
  refine AO.ops rfl rfl (opS_assign (av := .v _) rfl) ?_
  refine AR.run rfl rfl ?_
  refine AO.ops rfl rfl (opS_assign (av := .v _) rfl) ?_
  refine AR.nil ?_
  show AW _ _ _ _ _ _
  refine AW.seq ?_
  refine AW.region ?_
  show AR _ _ _ _ _ [0] _
  refine AR.run rfl rfl ?_
  refine AO.ops rfl rfl (opS_assign (av := .v _) rfl) ?_
  refine AR.nil ?_
  show AW _ _ _ _ _ _
  refine AW.seq ?_
  refine AW.block ?_
  refine AW.nil_grows 4 1 rfl (fun t0 => ?_)
  refine AW.loop (X := List UInt8 × List UInt8 × Nat) (fun (r, out, t) => ⟨[(0, slE Enc.byte r none), (4, slE Enc.byte out (some t))], [], [.tok t]⟩) (fun (r, out, t) => out.length + r.length ≤ b.length ∧ Qp.decode b = (Qp.decode r).map (out ++ ·)) (fun (r, out, t) => r.length) (b, [], t0) ?_ ?_ ?_
  · simp
  · refine WK.env (Env.le.cons ?_ (Env.le.cons ?_ (Env.le.nil _))) ?_
    all_goals first | exact Sub.refl _ | exact Sub.nil _ | ((repeat (first | exact Sub.refl _ | exact Sub.nil _ | refine Sub.cons _ ?_ | refine Sub.skip _ ?_)); done) | exact Wv.refl _ | exact Wv.any _ | exact Wv.tok _ _ _ | exact Wv.nil _ | (refine Wv.of_eq ?_; first | rfl | exact i64_congr (by omega) | (simp))
  · rintro ⟨r, out, t⟩ ⟨h1, h2⟩
    show AW _ _ _ _ _ _
    refine AW.seq ?_
    refine AW.seq ?_
    refine AW.region ?_
    show AR _ _ _ _ _ [0, 1, 2] _
    refine AR.run rfl rfl ?_
    first | (refine AO.ops rfl rfl (opS_move (av := slE _ _ _) rfl) ?_) | (refine AO.ops rfl rfl (opS_move (av := .v _) rfl) ?_) | (refine AO.ops rfl rfl (opS_move (av := .vw _ _ _ _) rfl) ?_)
    refine AR.run rfl rfl ?_
    first | (refine AO.ops rfl rfl (opS_len_sl Try.underlying22 rfl) ?_) | (refine AO.ops rfl rfl (opS_len_nil Try.underlying22 rfl) ?_)
    refine AR.run rfl rfl ?_
    refine AO.ops rfl rfl (opS_gt rfl rfl) ?_
    refine AR.nil ?_
    show AW _ _ _ _ _ _
    refine AW.cond rfl (fun c1 => ?_) (fun c1 => ?_)
    ·
      have c1p := c1; try simp only [decide_eq_true_eq, decide_eq_false_iff_not, Bool.not_eq_true', Bool.not_eq_false', Bool.not_true, Bool.not_false, Bool.not_eq_eq_eq_not] at c1p
      have hr : 0 < r.length := by omega
      refine AW.skip ?_
      show AW _ _ _ _ _ _
      refine AW.block ?_
      refine AW.scope ?_
      refine AW.seq ?_
      refine AW.region ?_
      show AR _ _ _ _ _ [0] _
      refine AR.run rfl rfl ?_
      refine AO.ops rfl rfl (opS_assign (av := .v _) rfl) ?_
      refine AR.nil ?_
      show AW _ _ _ _ _ _
      refine AW.seq ?_
      refine AW.label ?_
      show AW _ _ _ _ _ _
      refine AW.seq ?_
      refine AW.seq ?_
      refine AW.region ?_
      show AR _ _ _ _ _ [0, 1, 2, 3] _
      refine AR.run rfl rfl ?_
      first | (refine AO.ops rfl rfl (opS_move (av := slE _ _ _) rfl) ?_) | (refine AO.ops rfl rfl (opS_move (av := .v _) rfl) ?_) | (refine AO.ops rfl rfl (opS_move (av := .vw _ _ _ _) rfl) ?_)
      refine AR.run rfl rfl ?_
      refine AO.ops rfl rfl (opS_indexAddr_lt (m := 0) Try.underlying22 (by kernel_rfl) rfl rfl ?h1 ?h2) ?_
      (case h1 => (omega))
      (case h2 => (omega))
      refine AR.run rfl rfl ?_
      first | refine AO.ops rfl rfl (opS_load_cp Try.underlying5 rfl rfl) ?_ | refine AO.op rfl rfl (opR_load_pt (i := 0) Try.underlying5 rfl rfl rfl rfl) ?_ | refine AO.op rfl rfl (opR_load_pt (i := 1) Try.underlying5 rfl rfl rfl rfl) ?_ | refine AO.op rfl rfl (opR_load_pt (i := 2) Try.underlying5 rfl rfl rfl rfl) ?_ | refine AO.op rfl rfl (opR_load_pt (i := 3) Try.underlying5 rfl rfl rfl rfl) ?_
      refine AR.run rfl rfl ?_
      refine AO.ops rfl rfl (opS_assign (av := .v _) rfl) ?_
      refine AR.nil ?_
      show AW _ _ _ _ _ _
      refine AW.block ?_
      refine AW.seq ?_
      refine AW.region ?_
      show AR _ _ _ _ _ [0, 1, 2, 3, 4] _
      refine AR.run rfl rfl ?_
      first | (refine AO.ops rfl rfl (opS_move (av := slE _ _ _) rfl) ?_) | (refine AO.ops rfl rfl (opS_move (av := .v _) rfl) ?_) | (refine AO.ops rfl rfl (opS_move (av := .vw _ _ _ _) rfl) ?_)
      refine AR.run rfl rfl ?_
      refine AO.opx rfl rfl (opX_buildE (E := Enc.byte) (bytes := 1) (xs := [.const (.int .u8 (13)), .const (.int .u8 (10))]) (l := [(13), (10)]) Try.underlying22 (by kernel_rfl) rfl rfl (by decide) rfl rfl) ?_
      rintro _ _ ⟨t19, rfl, rfl⟩
      refine AR.run rfl rfl ?_
      first | refine AO.op rfl rfl (opR_conv_same 0 Try.underlying22 Try.underlying5 rfl (by simp) rfl) ?_ | refine AO.op rfl rfl (opR_conv_same 1 Try.underlying22 Try.underlying5 rfl (by simp) rfl) ?_ | refine AO.op rfl rfl (opR_conv_same 2 Try.underlying22 Try.underlying5 rfl (by simp) rfl) ?_ | refine AO.op rfl rfl (opR_conv_same 3 Try.underlying22 Try.underlying5 rfl (by simp) rfl) ?_ | refine AO.op rfl rfl (opR_conv_same 4 Try.underlying22 Try.underlying5 rfl (by simp) rfl) ?_
      refine AR.run rfl rfl ?_
      refine AO.callp rfl en14 rfl (bytes_HasPrefix _ _ _ _) ?_
      refine AR.run rfl rfl ?_
      refine AO.ops rfl rfl (opS_assign (av := .v _) rfl) ?_
      refine AR.nil ?_
      show AW _ _ _ _ _ _
      refine AW.cond rfl (fun c2 => ?_) (fun c2 => ?_)
      ·
        have c2p := c2; try simp only [decide_eq_true_eq, decide_eq_false_iff_not, Bool.not_eq_true', Bool.not_eq_false', Bool.not_true, Bool.not_false, Bool.not_eq_eq_eq_not] at c2p
        have hn : 2 ≤ r.length := by simp at c2; omega
        have htk := Qp.tok_crlf c2
        refine AW.region ?_
        show AR _ _ _ _ _ [0, 1, 2, 3, 4] _
        refine AR.run rfl rfl ?_
        first | (refine AO.ops rfl rfl (opS_move (av := slE _ _ _) rfl) ?_) | (refine AO.ops rfl rfl (opS_move (av := .v _) rfl) ?_) | (refine AO.ops rfl rfl (opS_move (av := .vw _ _ _ _) rfl) ?_)
        refine AR.run rfl rfl ?_
        refine AO.op rfl rfl (opR_buildE (E := Enc.byte) (bytes := 1) (xs := [.const (.int .u8 (10))]) (l := [(10)]) Try.underlying22 (by kernel_rfl) rfl rfl (by decide) rfl rfl) ?_
        refine AR.run rfl rfl ?_
        first | (refine AO.opx rfl rfl (opX_append (bytes := 1) 0 Try.underlying22 Try.underlying22 rfl (by kernel_rfl) rfl rfl rfl ?h5 ?h6) ?_; (case h5 => (first | omega | (simp; done) | (simp; omega))); (case h6 => (first | omega | (simp; done) | (simp; omega)))) | (refine AO.opx rfl rfl (opX_append (bytes := 1) 1 Try.underlying22 Try.underlying22 rfl (by kernel_rfl) rfl rfl rfl ?h7 ?h8) ?_; (case h7 => (first | omega | (simp; done) | (simp; omega))); (case h8 => (first | omega | (simp; done) | (simp; omega)))) | (refine AO.opx rfl rfl (opX_append (bytes := 1) 2 Try.underlying22 Try.underlying22 rfl (by kernel_rfl) rfl rfl rfl ?h9 ?h10) ?_; (case h9 => (first | omega | (simp; done) | (simp; omega))); (case h10 => (first | omega | (simp; done) | (simp; omega)))) | (refine AO.opx rfl rfl (opX_append (bytes := 1) 3 Try.underlying22 Try.underlying22 rfl (by kernel_rfl) rfl rfl rfl ?h11 ?h12) ?_; (case h11 => (first | omega | (simp; done) | (simp; omega))); (case h12 => (first | omega | (simp; done) | (simp; omega)))) | (refine AO.opx rfl rfl (opX_append (bytes := 1) 4 Try.underlying22 Try.underlying22 rfl (by kernel_rfl) rfl rfl rfl ?h13 ?h14) ?_; (case h13 => (first | omega | (simp; done) | (simp; omega))); (case h14 => (first | omega | (simp; done) | (simp; omega)))) | (refine AO.opx rfl rfl (opX_append_nil (bytes := 1) Try.underlying22 Try.underlying22 rfl (by kernel_rfl) rfl rfl ?h15 ?h16) ?_; (case h15 => (first | omega | (simp; done) | (simp; omega))); (case h16 => (first | omega | (simp; done) | (simp; omega))))
        rintro _ _ ⟨t24, rfl, rfl⟩
        refine AR.run rfl rfl ?_
        first | (refine AO.ops rfl rfl (opS_assign (av := slE _ _ _) rfl) ?_) | (refine AO.ops rfl rfl (opS_assign (av := .v _) rfl) ?_) | (refine AO.ops rfl rfl (opS_assign (av := .vw _ _ _ _) rfl) ?_)
        refine AR.run rfl rfl ?_
        refine AO.ops rfl rfl (opS_assign (av := .v _) rfl) ?_
        refine AR.nil ?_
        show AW _ _ _ _ _ _
        refine AW.region ?_
        show AR _ _ _ _ _ [0, 1, 2, 3] _
        refine AR.run rfl rfl ?_
        first | (refine AO.ops rfl rfl (opS_move (av := slE _ _ _) rfl) ?_) | (refine AO.ops rfl rfl (opS_move (av := .v _) rfl) ?_) | (refine AO.ops rfl rfl (opS_move (av := .vw _ _ _ _) rfl) ?_)
        refine AR.run rfl rfl ?_
        refine AO.ops rfl rfl (opS_move (av := .v _) rfl) ?_
        refine AR.run rfl rfl ?_
        refine AO.ops rfl rfl (opS_slice_sl_from Try.underlying22 (by kernel_rfl) rfl rfl rfl ?h18) ?_
        (case h18 => (first | omega | (simp; done) | (simp; omega)))
        refine AR.run rfl rfl ?_
        first | (refine AO.ops rfl rfl (opS_assign (av := slE _ _ _) rfl) ?_) | (refine AO.ops rfl rfl (opS_assign (av := .v _) rfl) ?_) | (refine AO.ops rfl rfl (opS_assign (av := .vw _ _ _ _) rfl) ?_)
        refine AR.nil ?_
        -- END 1 (loop1)
        refine ⟨(r.drop 2, out ++ [10], t24), ?_, ?_, ?_⟩
        · refine ⟨by simp; omega, ?_⟩
          have := Qp.decode_on hr h2 htk
          simpa using this
        · simp only [List.length_drop]; omega
        · refine WK.env (Env.le.cons ?_ (Env.le.cons ?_ (Env.le.nil _))) ?_
          all_goals first | exact Sub.refl _ | exact Sub.nil _ | ((repeat (first | exact Sub.refl _ | exact Sub.nil _ | refine Sub.cons _ ?_ | refine Sub.skip _ ?_)); done) | exact Wv.refl _ | exact Wv.any _ | exact Wv.tok _ _ _ | exact Wv.nil _ | (refine Wv.of_eq ?_; first | rfl | exact i64_congr (by omega) | (simp))
      ·
        have c2p := c2; try simp only [decide_eq_true_eq, decide_eq_false_iff_not, Bool.not_eq_true', Bool.not_eq_false', Bool.not_true, Bool.not_false, Bool.not_eq_eq_eq_not] at c2p
        refine AW.seq ?_
        refine AW.region ?_
        show AR _ _ _ _ _ [0, 1, 2, 3, 4] _
        refine AR.run rfl rfl ?_
        first | (refine AO.ops rfl rfl (opS_move (av := slE _ _ _) rfl) ?_) | (refine AO.ops rfl rfl (opS_move (av := .v _) rfl) ?_) | (refine AO.ops rfl rfl (opS_move (av := .vw _ _ _ _) rfl) ?_)
        refine AR.run rfl rfl ?_
        refine AO.opx rfl rfl (opX_buildE (E := Enc.byte) (bytes := 1) (xs := [.const (.int .u8 (61)), .const (.int .u8 (13)), .const (.int .u8 (10))]) (l := [(61), (13), (10)]) Try.underlying22 (by kernel_rfl) rfl rfl (by decide) rfl rfl) ?_
        rintro _ _ ⟨t27, rfl, rfl⟩
        refine AR.run rfl rfl ?_
        first | refine AO.op rfl rfl (opR_conv_same 0 Try.underlying22 Try.underlying5 rfl (by simp) rfl) ?_ | refine AO.op rfl rfl (opR_conv_same 1 Try.underlying22 Try.underlying5 rfl (by simp) rfl) ?_ | refine AO.op rfl rfl (opR_conv_same 2 Try.underlying22 Try.underlying5 rfl (by simp) rfl) ?_ | refine AO.op rfl rfl (opR_conv_same 3 Try.underlying22 Try.underlying5 rfl (by simp) rfl) ?_ | refine AO.op rfl rfl (opR_conv_same 4 Try.underlying22 Try.underlying5 rfl (by simp) rfl) ?_
        refine AR.run rfl rfl ?_
        refine AO.callp rfl en14 rfl (bytes_HasPrefix _ _ _ _) ?_
        refine AR.run rfl rfl ?_
        refine AO.ops rfl rfl (opS_assign (av := .v _) rfl) ?_
        refine AR.nil ?_
        show AW _ _ _ _ _ _
        refine AW.cond rfl (fun c3 => ?_) (fun c3 => ?_)
        ·
          have c3p := c3; try simp only [decide_eq_true_eq, decide_eq_false_iff_not, Bool.not_eq_true', Bool.not_eq_false', Bool.not_true, Bool.not_false, Bool.not_eq_eq_eq_not] at c3p
          have hn : 3 ≤ r.length := by simp at c3; omega
          have htk := Qp.tok_soft c3
          refine AW.seq ?_
          refine AW.region ?_
          show AR _ _ _ _ _ [0] _
          refine AR.run rfl rfl ?_
          refine AO.ops rfl rfl (opS_assign (av := .v _) rfl) ?_
          refine AR.nil ?_
          show AW _ _ _ _ _ _
          refine AW.exit ?_
          show AW _ _ _ _ _ _
          refine AW.region ?_
          show AR _ _ _ _ _ [0, 1, 2, 3] _
          refine AR.run rfl rfl ?_
          first | (refine AO.ops rfl rfl (opS_move (av := slE _ _ _) rfl) ?_) | (refine AO.ops rfl rfl (opS_move (av := .v _) rfl) ?_) | (refine AO.ops rfl rfl (opS_move (av := .vw _ _ _ _) rfl) ?_)
          refine AR.run rfl rfl ?_
          refine AO.ops rfl rfl (opS_move (av := .v _) rfl) ?_
          refine AR.run rfl rfl ?_
          refine AO.ops rfl rfl (opS_slice_sl_from Try.underlying22 (by kernel_rfl) rfl rfl rfl ?h20) ?_
          (case h20 => (first | omega | (simp; done) | (simp; omega)))
          refine AR.run rfl rfl ?_
          first | (refine AO.ops rfl rfl (opS_assign (av := slE _ _ _) rfl) ?_) | (refine AO.ops rfl rfl (opS_assign (av := .v _) rfl) ?_) | (refine AO.ops rfl rfl (opS_assign (av := .vw _ _ _ _) rfl) ?_)
          refine AR.nil ?_
          -- END 2 (loop1)
          refine ⟨(r.drop 3, out, t), ?_, ?_, ?_⟩
          · refine ⟨by simp; omega, ?_⟩
            have := Qp.decode_on hr h2 htk
            simpa using this
          · simp only [List.length_drop]; omega
          · refine WK.env (Env.le.cons ?_ (Env.le.cons ?_ (Env.le.nil _))) ?_
            all_goals first | exact Sub.refl _ | exact Sub.nil _ | ((repeat (first | exact Sub.refl _ | exact Sub.nil _ | refine Sub.cons _ ?_ | refine Sub.skip _ ?_)); done) | exact Wv.refl _ | exact Wv.any _ | exact Wv.tok _ _ _ | exact Wv.nil _ | (refine Wv.of_eq ?_; first | rfl | exact i64_congr (by omega) | (simp))
        ·
          have c3p := c3; try simp only [decide_eq_true_eq, decide_eq_false_iff_not, Bool.not_eq_true', Bool.not_eq_false', Bool.not_true, Bool.not_false, Bool.not_eq_eq_eq_not] at c3p
          refine AW.cut (X := Unit) (fun _ => ⟨[(0, slE Enc.byte r none), (4, slE Enc.byte out (some t)), (5, i64 1), (6, u8 r[0]), (30, B (decide (r[0].toNat = 61 ∧ 2 < r.length)))], [], [.tok t]⟩) (fun _ => True) ?_ ?_
          ·
            refine AW.region ?_
            show AR _ _ _ _ _ [0, 1, 2, 3, 4, 5, 6, 7] _
            refine AR.run rfl rfl ?_
            refine AO.ops rfl rfl (opS_move (av := .v _) rfl) ?_
            refine AR.run rfl rfl ?_
            refine AO.ops rfl rfl (opS_eqi rfl rfl) ?_
            refine AR.run rfl rfl ?_
            refine AO.ops rfl rfl (opS_move (av := .v _) rfl) ?_
            refine AR.guard rfl rfl rfl rfl rfl (fun g4 => ?_) (fun g4 d hd => ?_) (fun h => by cases h)
            ·
              have g4p := g4; try simp only [decide_eq_true_eq, decide_eq_false_iff_not, Bool.not_eq_true', Bool.not_eq_false', Bool.not_true, Bool.not_false, Bool.not_eq_eq_eq_not] at g4p
              first | (refine AO.ops rfl rfl (opS_move (av := slE _ _ _) rfl) ?_) | (refine AO.ops rfl rfl (opS_move (av := .v _) rfl) ?_) | (refine AO.ops rfl rfl (opS_move (av := .vw _ _ _ _) rfl) ?_)
              refine AR.guard rfl rfl rfl rfl rfl (fun _ => ?_) (fun hx => bool_no g4 hx) (fun h => by cases h)
              first | (refine AO.ops rfl rfl (opS_len_sl Try.underlying22 rfl) ?_) | (refine AO.ops rfl rfl (opS_len_nil Try.underlying22 rfl) ?_)
              refine AR.guard rfl rfl rfl rfl rfl (fun _ => ?_) (fun hx => bool_no g4 hx) (fun h => by cases h)
              refine AO.ops rfl rfl (opS_gt rfl rfl) ?_
              refine AR.run rfl rfl ?_
              refine AO.ops rfl rfl (opS_pick_t (av := .v _) rfl g4 rfl) ?_
              refine AR.run rfl rfl ?_
              refine AO.ops rfl rfl (opS_assign (av := .v _) rfl) ?_
              refine AR.nil ?_
              -- END 3 (cut10)
              refine ⟨(), ?_, ?_⟩
              · trivial
              · refine WK.env (Env.le.cons ?_ (Env.le.cons ?_ (Env.le.cons ?_ (Env.le.cons ?_ (Env.le.cons ?_ (Env.le.nil _)))))) ?_
                all_goals first | exact Sub.refl _ | exact Sub.nil _ | ((repeat (first | exact Sub.refl _ | exact Sub.nil _ | refine Sub.cons _ ?_ | refine Sub.skip _ ?_)); done) | exact Wv.refl _ | exact Wv.any _ | exact Wv.tok _ _ _ | exact Wv.nil _ | (refine Wv.of_eq ?_; first | rfl | exact i64_congr (by omega) | (refine B_congr ?_; rw [Bool.eq_iff_iff]; simp; omega))
            ·
              cases hd; refine ⟨rfl, ?_⟩
              have g4p := g4; try simp only [decide_eq_true_eq, decide_eq_false_iff_not, Bool.not_eq_true', Bool.not_eq_false', Bool.not_true, Bool.not_false, Bool.not_eq_eq_eq_not] at g4p
              refine AR.guard rfl rfl rfl rfl rfl (fun hx => bool_no hx g4) (fun _ d hd => ?_) (fun h => by cases h)
              cases hd; refine ⟨rfl, ?_⟩
              refine AR.guard rfl rfl rfl rfl rfl (fun hx => bool_no hx g4) (fun _ d hd => ?_) (fun h => by cases h)
              cases hd; refine ⟨rfl, ?_⟩
              refine AR.run rfl rfl ?_
              refine AO.ops rfl rfl (opS_pick_f (av := .v _) rfl g4 rfl) ?_
              refine AR.run rfl rfl ?_
              refine AO.ops rfl rfl (opS_assign (av := .v _) rfl) ?_
              refine AR.nil ?_
              -- END 4 (cut10)
              refine ⟨(), ?_, ?_⟩
              · trivial
              · refine WK.env (Env.le.cons ?_ (Env.le.cons ?_ (Env.le.cons ?_ (Env.le.cons ?_ (Env.le.cons ?_ (Env.le.nil _)))))) ?_
                all_goals first | exact Sub.refl _ | exact Sub.nil _ | ((repeat (first | exact Sub.refl _ | exact Sub.nil _ | refine Sub.cons _ ?_ | refine Sub.skip _ ?_)); done) | exact Wv.refl _ | exact Wv.any _ | exact Wv.tok _ _ _ | exact Wv.nil _ | (refine Wv.of_eq ?_; first | rfl | exact i64_congr (by omega) | (refine B_congr ?_; rw [Bool.eq_iff_iff]; simp; omega))
          · rintro _ _
            show AW _ _ _ _ _ _
            refine AW.cond rfl (fun c5 => ?_) (fun c5 => ?_)
            ·
              have c5p := c5; try simp only [decide_eq_true_eq, decide_eq_false_iff_not, Bool.not_eq_true', Bool.not_eq_false', Bool.not_true, Bool.not_false, Bool.not_eq_eq_eq_not] at c5p
              have hr2 : 2 < r.length := c5p.2
              have hn : 3 ≤ r.length := hr2
              have hr1 : 1 < r.length := by omega
              refine AW.seq ?_
              refine AW.region ?_
              show AR _ _ _ _ _ [0, 1, 2, 3, 4, 5, 6, 7, 8] _
              refine AR.run rfl rfl ?_
              first | (refine AO.ops rfl rfl (opS_move (av := slE _ _ _) rfl) ?_) | (refine AO.ops rfl rfl (opS_move (av := .v _) rfl) ?_) | (refine AO.ops rfl rfl (opS_move (av := .vw _ _ _ _) rfl) ?_)
              refine AR.run rfl rfl ?_
              refine AO.ops rfl rfl (opS_indexAddr_lt (m := 1) Try.underlying22 (by kernel_rfl) rfl rfl ?h21 ?h22) ?_
              (case h21 => (omega))
              (case h22 => (omega))
              refine AR.run rfl rfl ?_
              first | refine AO.ops rfl rfl (opS_load_cp Try.underlying5 rfl rfl) ?_ | refine AO.op rfl rfl (opR_load_pt (i := 0) Try.underlying5 rfl rfl rfl rfl) ?_ | refine AO.op rfl rfl (opR_load_pt (i := 1) Try.underlying5 rfl rfl rfl rfl) ?_ | refine AO.op rfl rfl (opR_load_pt (i := 2) Try.underlying5 rfl rfl rfl rfl) ?_ | refine AO.op rfl rfl (opR_load_pt (i := 3) Try.underlying5 rfl rfl rfl rfl) ?_
              refine AR.run rfl rfl ?_
              refine AO.callp rfl en15 rfl (qp_digit _) ?_
              refine AR.run rfl rfl ?_
              refine AO.ops rfl rfl (opS_move (av := .tup _) rfl) ?_
              refine AR.run rfl rfl ?_
              refine AO.ops rfl rfl (opS_extract (av := .v _) rfl rfl) ?_
              refine AR.run rfl rfl ?_
              refine AO.ops rfl rfl (opS_extract (av := .v _) rfl rfl) ?_
              refine AR.run rfl rfl ?_
              refine AO.ops rfl rfl (opS_assign (av := .v _) rfl) ?_
              refine AR.run rfl rfl ?_
              refine AO.ops rfl rfl (opS_assign (av := .v _) rfl) ?_
              refine AR.nil ?_
              show AW _ _ _ _ _ _
              refine AW.seq ?_
              refine AW.region ?_
              show AR _ _ _ _ _ [0, 1, 2, 3, 4, 5, 6, 7, 8] _
              refine AR.run rfl rfl ?_
              first | (refine AO.ops rfl rfl (opS_move (av := slE _ _ _) rfl) ?_) | (refine AO.ops rfl rfl (opS_move (av := .v _) rfl) ?_) | (refine AO.ops rfl rfl (opS_move (av := .vw _ _ _ _) rfl) ?_)
              refine AR.run rfl rfl ?_
              refine AO.ops rfl rfl (opS_indexAddr_lt (m := 2) Try.underlying22 (by kernel_rfl) rfl rfl ?h23 ?h24) ?_
              (case h23 => (omega))
              (case h24 => (omega))
              refine AR.run rfl rfl ?_
              first | refine AO.ops rfl rfl (opS_load_cp Try.underlying5 rfl rfl) ?_ | refine AO.op rfl rfl (opR_load_pt (i := 0) Try.underlying5 rfl rfl rfl rfl) ?_ | refine AO.op rfl rfl (opR_load_pt (i := 1) Try.underlying5 rfl rfl rfl rfl) ?_ | refine AO.op rfl rfl (opR_load_pt (i := 2) Try.underlying5 rfl rfl rfl rfl) ?_ | refine AO.op rfl rfl (opR_load_pt (i := 3) Try.underlying5 rfl rfl rfl rfl) ?_
              refine AR.run rfl rfl ?_
              refine AO.callp rfl en15 rfl (qp_digit _) ?_
              refine AR.run rfl rfl ?_
              refine AO.ops rfl rfl (opS_move (av := .tup _) rfl) ?_
              refine AR.run rfl rfl ?_
              refine AO.ops rfl rfl (opS_extract (av := .v _) rfl rfl) ?_
              refine AR.run rfl rfl ?_
              refine AO.ops rfl rfl (opS_extract (av := .v _) rfl rfl) ?_
              refine AR.run rfl rfl ?_
              refine AO.ops rfl rfl (opS_assign (av := .v _) rfl) ?_
              refine AR.run rfl rfl ?_
              refine AO.ops rfl rfl (opS_assign (av := .v _) rfl) ?_
              refine AR.nil ?_
              show AW _ _ _ _ _ _
              refine AW.seq ?_
              refine AW.cut (X := Unit) (fun _ => ⟨[(0, slE Enc.byte r none), (4, slE Enc.byte out (some t)), (7, u8 (UInt8.ofNat ((Qp.dig r[1]).getD 0))), (9, u8 (UInt8.ofNat ((Qp.dig r[2]).getD 0))), (57, B (!((Qp.dig r[1]).isSome && (Qp.dig r[2]).isSome)))], [], [.tok t]⟩) (fun _ => True) ?_ ?_
              ·
                refine AW.region ?_
                show AR _ _ _ _ _ [0, 1, 2, 3, 4, 5] _
                refine AR.run rfl rfl ?_
                refine AO.ops rfl rfl (opS_move (av := .v _) rfl) ?_
                refine AR.run rfl rfl ?_
                refine AO.ops rfl rfl (opS_not rfl) ?_
                refine AR.run rfl rfl ?_
                refine AO.ops rfl rfl (opS_move (av := .v _) rfl) ?_
                refine AR.guard rfl rfl rfl rfl rfl (fun g6 => ?_) (fun g6 d hd => ?_) (fun h => by cases h)
                ·
                  have g6p := g6; try simp only [decide_eq_true_eq, decide_eq_false_iff_not, Bool.not_eq_true', Bool.not_eq_false', Bool.not_true, Bool.not_false, Bool.not_eq_eq_eq_not] at g6p
                  refine AO.ops rfl rfl (opS_move (av := .v _) rfl) ?_
                  refine AR.guard rfl rfl rfl rfl rfl (fun _ => ?_) (fun hx => bool_no hx g6) (fun h => by cases h)
                  refine AO.ops rfl rfl (opS_not rfl) ?_
                  refine AR.run rfl rfl ?_
                  refine AO.ops rfl rfl (opS_pick_f (av := .v _) rfl g6 rfl) ?_
                  refine AR.nil ?_
                  -- END 5 (cut13)
                  refine ⟨(), ?_, ?_⟩
                  · trivial
                  · refine WK.env (Env.le.cons ?_ (Env.le.cons ?_ (Env.le.cons ?_ (Env.le.cons ?_ (Env.le.cons ?_ (Env.le.nil _)))))) ?_
                    all_goals first | exact Sub.refl _ | exact Sub.nil _ | ((repeat (first | exact Sub.refl _ | exact Sub.nil _ | refine Sub.cons _ ?_ | refine Sub.skip _ ?_)); done) | exact Wv.refl _ | exact Wv.any _ | exact Wv.tok _ _ _ | exact Wv.nil _ | (refine Wv.of_eq ?_; first | rfl | exact i64_congr (by omega) | (refine B_congr ?_; simp [*]))
                ·
                  cases hd; refine ⟨rfl, ?_⟩
                  have g6p := g6; try simp only [decide_eq_true_eq, decide_eq_false_iff_not, Bool.not_eq_true', Bool.not_eq_false', Bool.not_true, Bool.not_false, Bool.not_eq_eq_eq_not] at g6p
                  refine AR.guard rfl rfl rfl rfl rfl (fun hx => bool_no g6 hx) (fun _ d hd => ?_) (fun h => by cases h)
                  cases hd; refine ⟨rfl, ?_⟩
                  refine AR.run rfl rfl ?_
                  refine AO.ops rfl rfl (opS_pick_t (av := .v _) rfl g6 rfl) ?_
                  refine AR.nil ?_
                  -- END 6 (cut13)
                  refine ⟨(), ?_, ?_⟩
                  · trivial
                  · refine WK.env (Env.le.cons ?_ (Env.le.cons ?_ (Env.le.cons ?_ (Env.le.cons ?_ (Env.le.cons ?_ (Env.le.nil _)))))) ?_
                    all_goals first | exact Sub.refl _ | exact Sub.nil _ | ((repeat (first | exact Sub.refl _ | exact Sub.nil _ | refine Sub.cons _ ?_ | refine Sub.skip _ ?_)); done) | exact Wv.refl _ | exact Wv.any _ | exact Wv.tok _ _ _ | exact Wv.nil _ | (refine Wv.of_eq ?_; first | rfl | exact i64_congr (by omega) | (refine B_congr ?_; simp [*]))
              · rintro _ _
                show AW _ _ _ _ _ _
                refine AW.cond rfl (fun c7 => ?_) (fun c7 => ?_)
                ·
                  have c7p := c7; try simp only [decide_eq_true_eq, decide_eq_false_iff_not, Bool.not_eq_true', Bool.not_eq_false', Bool.not_true, Bool.not_false, Bool.not_eq_eq_eq_not] at c7p
                  have htk := Qp.tok_nohex hr hr1 hr2 c3 c5p.1 c7p
                  refine AW.seq ?_
                  refine AW.region ?_
                  show AR _ _ _ _ _ [0, 1] _
                  refine AR.run rfl rfl ?_
                  refine AO.ops rfl rfl (opS_assign (av := .v _) rfl) ?_
                  refine AR.run rfl rfl ?_
                  refine AO.ops rfl rfl (opS_assign (av := .v _) rfl) ?_
                  refine AR.nil ?_
                  show AW _ _ _ _ _ _
                  refine AW.ret ?_
                  -- END 7 (ret)
                  show RetPost _ _ _ _ .ret _
                  rw [h2, Qp.decode_none hr htk]
                  (refine ⟨rfl, _, _, ResV.twoW rfl ?_ ?_, ?_, ⟨rfl, rfl⟩⟩; all_goals first | exact Sub.refl _ | exact Sub.nil _ | ((repeat (first | exact Sub.refl _ | exact Sub.nil _ | refine Sub.cons _ ?_ | refine Sub.skip _ ?_)); done) | exact Wv.refl _ | exact Wv.tok _ _ _ | exact Wv.nil _)
                ·
                  have c7p := c7; try simp only [decide_eq_true_eq, decide_eq_false_iff_not, Bool.not_eq_true', Bool.not_eq_false', Bool.not_true, Bool.not_false, Bool.not_eq_eq_eq_not] at c7p
                  have htk := Qp.tok_hex hr hr1 hr2 c3 c5p.1 c7p
                  refine AW.skip ?_
                  show AW _ _ _ _ _ _
                  refine AW.region ?_
                  show AR _ _ _ _ _ [0, 1, 2, 3, 4, 5, 6, 7, 8] _
                  refine AR.run rfl rfl ?_
                  first | (refine AO.ops rfl rfl (opS_move (av := slE _ _ _) rfl) ?_) | (refine AO.ops rfl rfl (opS_move (av := .v _) rfl) ?_) | (refine AO.ops rfl rfl (opS_move (av := .vw _ _ _ _) rfl) ?_)
                  refine AR.run rfl rfl ?_
                  refine AO.ops rfl rfl (opS_move (av := .v _) rfl) ?_
                  refine AR.run rfl rfl ?_
                  refine AO.ops rfl rfl (opS_shl rfl rfl ?h26) ?_
                  (case h26 => (omega))
                  refine AR.run rfl rfl ?_
                  refine AO.ops rfl rfl (opS_move (av := .v _) rfl) ?_
                  refine AR.run rfl rfl ?_
                  refine AO.ops rfl rfl (OpS.eq (av' := u8 (UInt8.ofNat (16 * (Qp.dig r[1]).getD 0 + (Qp.dig r[2]).getD 0))) (opS_or rfl rfl) ?h27) ?_
                  (case h27 => (exact shlor _ _))
                  refine AR.run rfl rfl ?_
                  refine AO.op rfl rfl (opR_buildE (E := Enc.byte) (bytes := 1) (xs := [.tmp 62]) (l := [_]) Try.underlying22 (by kernel_rfl) rfl rfl (by decide) rfl rfl) ?_
                  refine AR.run rfl rfl ?_
                  first | (refine AO.opx rfl rfl (opX_append (bytes := 1) 0 Try.underlying22 Try.underlying22 rfl (by kernel_rfl) rfl rfl rfl ?h30 ?h31) ?_; (case h30 => (first | omega | (simp; done) | (simp; omega))); (case h31 => (first | omega | (simp; done) | (simp; omega)))) | (refine AO.opx rfl rfl (opX_append (bytes := 1) 1 Try.underlying22 Try.underlying22 rfl (by kernel_rfl) rfl rfl rfl ?h32 ?h33) ?_; (case h32 => (first | omega | (simp; done) | (simp; omega))); (case h33 => (first | omega | (simp; done) | (simp; omega)))) | (refine AO.opx rfl rfl (opX_append (bytes := 1) 2 Try.underlying22 Try.underlying22 rfl (by kernel_rfl) rfl rfl rfl ?h34 ?h35) ?_; (case h34 => (first | omega | (simp; done) | (simp; omega))); (case h35 => (first | omega | (simp; done) | (simp; omega)))) | (refine AO.opx rfl rfl (opX_append (bytes := 1) 3 Try.underlying22 Try.underlying22 rfl (by kernel_rfl) rfl rfl rfl ?h36 ?h37) ?_; (case h36 => (first | omega | (simp; done) | (simp; omega))); (case h37 => (first | omega | (simp; done) | (simp; omega)))) | (refine AO.opx rfl rfl (opX_append (bytes := 1) 4 Try.underlying22 Try.underlying22 rfl (by kernel_rfl) rfl rfl rfl ?h38 ?h39) ?_; (case h38 => (first | omega | (simp; done) | (simp; omega))); (case h39 => (first | omega | (simp; done) | (simp; omega)))) | (refine AO.opx rfl rfl (opX_append_nil (bytes := 1) Try.underlying22 Try.underlying22 rfl (by kernel_rfl) rfl rfl ?h40 ?h41) ?_; (case h40 => (first | omega | (simp; done) | (simp; omega))); (case h41 => (first | omega | (simp; done) | (simp; omega))))
                  rintro _ _ ⟨t64, rfl, rfl⟩
                  refine AR.run rfl rfl ?_
                  first | (refine AO.ops rfl rfl (opS_assign (av := slE _ _ _) rfl) ?_) | (refine AO.ops rfl rfl (opS_assign (av := .v _) rfl) ?_) | (refine AO.ops rfl rfl (opS_assign (av := .vw _ _ _ _) rfl) ?_)
                  refine AR.run rfl rfl ?_
                  refine AO.ops rfl rfl (opS_assign (av := .v _) rfl) ?_
                  refine AR.nil ?_
                  show AW _ _ _ _ _ _
                  refine AW.region ?_
                  show AR _ _ _ _ _ [0, 1, 2, 3] _
                  refine AR.run rfl rfl ?_
                  first | (refine AO.ops rfl rfl (opS_move (av := slE _ _ _) rfl) ?_) | (refine AO.ops rfl rfl (opS_move (av := .v _) rfl) ?_) | (refine AO.ops rfl rfl (opS_move (av := .vw _ _ _ _) rfl) ?_)
                  refine AR.run rfl rfl ?_
                  refine AO.ops rfl rfl (opS_move (av := .v _) rfl) ?_
                  refine AR.run rfl rfl ?_
                  refine AO.ops rfl rfl (opS_slice_sl_from Try.underlying22 (by kernel_rfl) rfl rfl rfl ?h43) ?_
                  (case h43 => (first | omega | (simp; done) | (simp; omega)))
                  refine AR.run rfl rfl ?_
                  first | (refine AO.ops rfl rfl (opS_assign (av := slE _ _ _) rfl) ?_) | (refine AO.ops rfl rfl (opS_assign (av := .v _) rfl) ?_) | (refine AO.ops rfl rfl (opS_assign (av := .vw _ _ _ _) rfl) ?_)
                  refine AR.nil ?_
                  -- END 8 (loop1)
                  refine ⟨(r.drop 3, out ++ [UInt8.ofNat (16 * (Qp.dig r[1]).getD 0 + (Qp.dig r[2]).getD 0)], t64), ?_, ?_, ?_⟩
                  · refine ⟨by simp; omega, ?_⟩
                    have := Qp.decode_on hr h2 htk
                    simpa using this
                  · simp only [List.length_drop]; omega
                  · refine WK.env (Env.le.cons ?_ (Env.le.cons ?_ (Env.le.nil _))) ?_
                    all_goals first | exact Sub.refl _ | exact Sub.nil _ | ((repeat (first | exact Sub.refl _ | exact Sub.nil _ | refine Sub.cons _ ?_ | refine Sub.skip _ ?_)); done) | exact Wv.refl _ | exact Wv.any _ | exact Wv.tok _ _ _ | exact Wv.nil _ | (refine Wv.of_eq ?_; first | rfl | exact i64_congr (by omega) | (simp))
            ·
              have c5p := c5; try simp only [decide_eq_true_eq, decide_eq_false_iff_not, Bool.not_eq_true', Bool.not_eq_false', Bool.not_true, Bool.not_false, Bool.not_eq_eq_eq_not] at c5p
              refine AW.cut (X := Unit) (fun _ => ⟨[(0, slE Enc.byte r none), (4, slE Enc.byte out (some t)), (5, i64 1), (6, u8 r[0]), (65, B (decide (r[0].toNat ≠ 61 ∧ (r[0].toNat = 9 ∨ (32 ≤ r[0].toNat ∧ r[0].toNat ≤ 126)))))], [], [.tok t]⟩) (fun _ => True) ?_ ?_
              ·
                refine AW.region ?_
                show AR _ _ _ _ _ [0, 1, 2, 3, 4, 5, 6, 7, 8, 9, 10, 11, 12, 13, 14] _
                refine AR.run rfl rfl ?_
                refine AO.ops rfl rfl (opS_move (av := .v _) rfl) ?_
                refine AR.run rfl rfl ?_
                refine AO.ops rfl rfl (opS_nei rfl rfl) ?_
                refine AR.run rfl rfl ?_
                refine AO.ops rfl rfl (opS_move (av := .v _) rfl) ?_
                refine AR.guard rfl rfl rfl rfl rfl (fun g8 => ?_) (fun g8 d hd => ?_) (fun h => by cases h)
                ·
                  have g8p := g8; try simp only [decide_eq_true_eq, decide_eq_false_iff_not, Bool.not_eq_true', Bool.not_eq_false', Bool.not_true, Bool.not_false, Bool.not_eq_eq_eq_not] at g8p
                  refine AO.ops rfl rfl (opS_move (av := .v _) rfl) ?_
                  refine AR.guard rfl rfl rfl rfl rfl (fun _ => ?_) (fun hx => bool_no g8 hx) (fun h => by cases h)
                  refine AO.ops rfl rfl (opS_ge rfl rfl) ?_
                  refine AR.guard rfl rfl rfl rfl rfl (fun _ => ?_) (fun hx => bool_no g8 hx) (fun h => by cases h)
                  refine AO.ops rfl rfl (opS_move (av := .v _) rfl) ?_
                  refine AR.guard rfl rfl rfl rfl rfl (fun g9 => ?_) (fun g9 d hd => ?_) (fun h => by cases h)
                  ·
                    have g9p := g9; try simp only [decide_eq_true_eq, decide_eq_false_iff_not, Bool.not_eq_true', Bool.not_eq_false', Bool.not_true, Bool.not_false, Bool.not_eq_eq_eq_not] at g9p
                    refine AO.ops rfl rfl (opS_move (av := .v _) rfl) ?_
                    refine AR.guard rfl rfl rfl rfl rfl (fun _ => ?_) (fun hx => bool_no g9 hx) (fun h => by cases h)
                    refine AO.ops rfl rfl (opS_lt rfl rfl) ?_
                    refine AR.guard rfl rfl rfl rfl rfl (fun _ => ?_) (fun hx => bool_no g8 hx) (fun h => by cases h)
                    refine AO.ops rfl rfl (opS_pick_t (av := .v _) rfl g9 rfl) ?_
                    refine AR.guard rfl rfl rfl rfl rfl (fun _ => ?_) (fun hx => bool_no g8 hx) (fun h => by cases h)
                    refine AO.ops rfl rfl (opS_move (av := .v _) rfl) ?_
                    refine AR.guard rfl rfl rfl rfl rfl (fun g10 => ?_) (fun g10 d hd => ?_) (fun h => by cases h)
                    ·
                      have g10p := g10; try simp only [decide_eq_true_eq, decide_eq_false_iff_not, Bool.not_eq_true', Bool.not_eq_false', Bool.not_true, Bool.not_false, Bool.not_eq_eq_eq_not] at g10p
                      refine AO.ops rfl rfl (opS_move (av := .v _) rfl) ?_
                      refine AR.guard rfl rfl rfl rfl rfl (fun _ => ?_) (fun hx => bool_no hx g10) (fun h => by cases h)
                      refine AO.ops rfl rfl (opS_eqi rfl rfl) ?_
                      refine AR.guard rfl rfl rfl rfl rfl (fun _ => ?_) (fun hx => bool_no g8 hx) (fun h => by cases h)
                      refine AO.ops rfl rfl (opS_pick_f (av := .v _) rfl g10 rfl) ?_
                      refine AR.run rfl rfl ?_
                      refine AO.ops rfl rfl (opS_pick_t (av := .v _) rfl g8 rfl) ?_
                      refine AR.run rfl rfl ?_
                      refine AO.ops rfl rfl (opS_assign (av := .v _) rfl) ?_
                      refine AR.nil ?_
                      -- END 9 (cut16)
                      refine ⟨(), ?_, ?_⟩
                      · trivial
                      · refine WK.env (Env.le.cons ?_ (Env.le.cons ?_ (Env.le.cons ?_ (Env.le.cons ?_ (Env.le.cons ?_ (Env.le.nil _)))))) ?_
                        all_goals first | exact Sub.refl _ | exact Sub.nil _ | ((repeat (first | exact Sub.refl _ | exact Sub.nil _ | refine Sub.cons _ ?_ | refine Sub.skip _ ?_)); done) | exact Wv.refl _ | exact Wv.any _ | exact Wv.tok _ _ _ | exact Wv.nil _ | (refine Wv.of_eq ?_; first | rfl | exact i64_congr (by omega) | (refine B_congr ?_; rw [Bool.eq_iff_iff]; simp; omega))
                    ·
                      cases hd; refine ⟨rfl, ?_⟩
                      have g10p := g10; try simp only [decide_eq_true_eq, decide_eq_false_iff_not, Bool.not_eq_true', Bool.not_eq_false', Bool.not_true, Bool.not_false, Bool.not_eq_eq_eq_not] at g10p
                      refine AR.guard rfl rfl rfl rfl rfl (fun hx => bool_no g10 hx) (fun _ d hd => ?_) (fun h => by cases h)
                      cases hd; refine ⟨rfl, ?_⟩
                      refine AR.guard rfl rfl rfl rfl rfl (fun _ => ?_) (fun hx => bool_no g8 hx) (fun h => by cases h)
                      refine AO.ops rfl rfl (opS_pick_t (av := .v _) rfl g10 rfl) ?_
                      refine AR.run rfl rfl ?_
                      refine AO.ops rfl rfl (opS_pick_t (av := .v _) rfl g8 rfl) ?_
                      refine AR.run rfl rfl ?_
                      refine AO.ops rfl rfl (opS_assign (av := .v _) rfl) ?_
                      refine AR.nil ?_
                      -- END 10 (cut16)
                      refine ⟨(), ?_, ?_⟩
                      · trivial
                      · refine WK.env (Env.le.cons ?_ (Env.le.cons ?_ (Env.le.cons ?_ (Env.le.cons ?_ (Env.le.cons ?_ (Env.le.nil _)))))) ?_
                        all_goals first | exact Sub.refl _ | exact Sub.nil _ | ((repeat (first | exact Sub.refl _ | exact Sub.nil _ | refine Sub.cons _ ?_ | refine Sub.skip _ ?_)); done) | exact Wv.refl _ | exact Wv.any _ | exact Wv.tok _ _ _ | exact Wv.nil _ | (refine Wv.of_eq ?_; first | rfl | exact i64_congr (by omega) | (refine B_congr ?_; rw [Bool.eq_iff_iff]; simp; omega))
                  ·
                    cases hd; refine ⟨rfl, ?_⟩
                    have g9p := g9; try simp only [decide_eq_true_eq, decide_eq_false_iff_not, Bool.not_eq_true', Bool.not_eq_false', Bool.not_true, Bool.not_false, Bool.not_eq_eq_eq_not] at g9p
                    refine AR.guard rfl rfl rfl rfl rfl (fun hx => bool_no hx g9) (fun _ d hd => ?_) (fun h => by cases h)
                    cases hd; refine ⟨rfl, ?_⟩
                    refine AR.guard rfl rfl rfl rfl rfl (fun _ => ?_) (fun hx => bool_no g8 hx) (fun h => by cases h)
                    refine AO.ops rfl rfl (opS_pick_f (av := .v _) rfl g9 rfl) ?_
                    refine AR.guard rfl rfl rfl rfl rfl (fun _ => ?_) (fun hx => bool_no g8 hx) (fun h => by cases h)
                    refine AO.ops rfl rfl (opS_move (av := .v _) rfl) ?_
                    refine AR.guard rfl rfl rfl rfl rfl (fun _ => ?_) (fun hx => bool_no hx (rfl : false = false)) (fun h => by cases h)
                    refine AO.ops rfl rfl (opS_move (av := .v _) rfl) ?_
                    refine AR.guard rfl rfl rfl rfl rfl (fun _ => ?_) (fun hx => bool_no hx (rfl : false = false)) (fun h => by cases h)
                    refine AO.ops rfl rfl (opS_eqi rfl rfl) ?_
                    refine AR.guard rfl rfl rfl rfl rfl (fun _ => ?_) (fun hx => bool_no g8 hx) (fun h => by cases h)
                    refine AO.ops rfl rfl (opS_pick_f (av := .v _) rfl (rfl : false = false) rfl) ?_
                    refine AR.run rfl rfl ?_
                    refine AO.ops rfl rfl (opS_pick_t (av := .v _) rfl g8 rfl) ?_
                    refine AR.run rfl rfl ?_
                    refine AO.ops rfl rfl (opS_assign (av := .v _) rfl) ?_
                    refine AR.nil ?_
                    -- END 11 (cut16)
                    refine ⟨(), ?_, ?_⟩
                    · trivial
                    · refine WK.env (Env.le.cons ?_ (Env.le.cons ?_ (Env.le.cons ?_ (Env.le.cons ?_ (Env.le.cons ?_ (Env.le.nil _)))))) ?_
                      all_goals first | exact Sub.refl _ | exact Sub.nil _ | ((repeat (first | exact Sub.refl _ | exact Sub.nil _ | refine Sub.cons _ ?_ | refine Sub.skip _ ?_)); done) | exact Wv.refl _ | exact Wv.any _ | exact Wv.tok _ _ _ | exact Wv.nil _ | (refine Wv.of_eq ?_; first | rfl | exact i64_congr (by omega) | (refine B_congr ?_; rw [Bool.eq_iff_iff]; simp; omega))
                ·
                  cases hd; refine ⟨rfl, ?_⟩
                  have g8p := g8; try simp only [decide_eq_true_eq, decide_eq_false_iff_not, Bool.not_eq_true', Bool.not_eq_false', Bool.not_true, Bool.not_false, Bool.not_eq_eq_eq_not] at g8p
                  refine AR.guard rfl rfl rfl rfl rfl (fun hx => bool_no hx g8) (fun _ d hd => ?_) (fun h => by cases h)
                  cases hd; refine ⟨rfl, ?_⟩
                  refine AR.guard rfl rfl rfl rfl rfl (fun hx => bool_no hx g8) (fun _ d hd => ?_) (fun h => by cases h)
                  cases hd; refine ⟨rfl, ?_⟩
                  refine AR.guard_u rfl rfl rfl rfl rfl (fun d hd => ?_) (fun h => by cases h)
                  cases hd; refine ⟨rfl, ?_⟩
                  refine AR.guard_u rfl rfl rfl rfl rfl (fun d hd => ?_) (fun h => by cases h)
                  cases hd; refine ⟨rfl, ?_⟩
                  refine AR.guard rfl rfl rfl rfl rfl (fun hx => bool_no hx g8) (fun _ d hd => ?_) (fun h => by cases h)
                  cases hd; refine ⟨rfl, ?_⟩
                  refine AR.guard rfl rfl rfl rfl rfl (fun hx => bool_no hx g8) (fun _ d hd => ?_) (fun h => by cases h)
                  cases hd; refine ⟨rfl, ?_⟩
                  refine AR.guard_u rfl rfl rfl rfl rfl (fun d hd => ?_) (fun h => by cases h)
                  cases hd; refine ⟨rfl, ?_⟩
                  refine AR.guard_u rfl rfl rfl rfl rfl (fun d hd => ?_) (fun h => by cases h)
                  cases hd; refine ⟨rfl, ?_⟩
                  refine AR.guard rfl rfl rfl rfl rfl (fun hx => bool_no hx g8) (fun _ d hd => ?_) (fun h => by cases h)
                  cases hd; refine ⟨rfl, ?_⟩
                  refine AR.run rfl rfl ?_
                  refine AO.ops rfl rfl (opS_pick_f (av := .v _) rfl g8 rfl) ?_
                  refine AR.run rfl rfl ?_
                  refine AO.ops rfl rfl (opS_assign (av := .v _) rfl) ?_
                  refine AR.nil ?_
                  -- END 12 (cut16)
                  refine ⟨(), ?_, ?_⟩
                  · trivial
                  · refine WK.env (Env.le.cons ?_ (Env.le.cons ?_ (Env.le.cons ?_ (Env.le.cons ?_ (Env.le.cons ?_ (Env.le.nil _)))))) ?_
                    all_goals first | exact Sub.refl _ | exact Sub.nil _ | ((repeat (first | exact Sub.refl _ | exact Sub.nil _ | refine Sub.cons _ ?_ | refine Sub.skip _ ?_)); done) | exact Wv.refl _ | exact Wv.any _ | exact Wv.tok _ _ _ | exact Wv.nil _ | (refine Wv.of_eq ?_; first | rfl | exact i64_congr (by omega) | (refine B_congr ?_; rw [Bool.eq_iff_iff]; simp; omega))
              · rintro _ _
                show AW _ _ _ _ _ _
                refine AW.cond rfl (fun c11 => ?_) (fun c11 => ?_)
                ·
                  have c11p := c11; try simp only [decide_eq_true_eq, decide_eq_false_iff_not, Bool.not_eq_true', Bool.not_eq_false', Bool.not_true, Bool.not_false, Bool.not_eq_eq_eq_not] at c11p
                  have hn : 1 ≤ r.length := hr
                  have htk := Qp.tok_plain hr c11p
                  refine AW.region ?_
                  show AR _ _ _ _ _ [0, 1, 2, 3, 4] _
                  refine AR.run rfl rfl ?_
                  first | (refine AO.ops rfl rfl (opS_move (av := slE _ _ _) rfl) ?_) | (refine AO.ops rfl rfl (opS_move (av := .v _) rfl) ?_) | (refine AO.ops rfl rfl (opS_move (av := .vw _ _ _ _) rfl) ?_)
                  refine AR.run rfl rfl ?_
                  refine AO.ops rfl rfl (opS_move (av := .v _) rfl) ?_
                  refine AR.run rfl rfl ?_
                  refine AO.op rfl rfl (opR_buildE (E := Enc.byte) (bytes := 1) (xs := [.tmp 81]) (l := [_]) Try.underlying22 (by kernel_rfl) rfl rfl (by decide) rfl rfl) ?_
                  refine AR.run rfl rfl ?_
                  first | (refine AO.opx rfl rfl (opX_append (bytes := 1) 0 Try.underlying22 Try.underlying22 rfl (by kernel_rfl) rfl rfl rfl ?h46 ?h47) ?_; (case h46 => (first | omega | (simp; done) | (simp; omega))); (case h47 => (first | omega | (simp; done) | (simp; omega)))) | (refine AO.opx rfl rfl (opX_append (bytes := 1) 1 Try.underlying22 Try.underlying22 rfl (by kernel_rfl) rfl rfl rfl ?h48 ?h49) ?_; (case h48 => (first | omega | (simp; done) | (simp; omega))); (case h49 => (first | omega | (simp; done) | (simp; omega)))) | (refine AO.opx rfl rfl (opX_append (bytes := 1) 2 Try.underlying22 Try.underlying22 rfl (by kernel_rfl) rfl rfl rfl ?h50 ?h51) ?_; (case h50 => (first | omega | (simp; done) | (simp; omega))); (case h51 => (first | omega | (simp; done) | (simp; omega)))) | (refine AO.opx rfl rfl (opX_append (bytes := 1) 3 Try.underlying22 Try.underlying22 rfl (by kernel_rfl) rfl rfl rfl ?h52 ?h53) ?_; (case h52 => (first | omega | (simp; done) | (simp; omega))); (case h53 => (first | omega | (simp; done) | (simp; omega)))) | (refine AO.opx rfl rfl (opX_append (bytes := 1) 4 Try.underlying22 Try.underlying22 rfl (by kernel_rfl) rfl rfl rfl ?h54 ?h55) ?_; (case h54 => (first | omega | (simp; done) | (simp; omega))); (case h55 => (first | omega | (simp; done) | (simp; omega)))) | (refine AO.opx rfl rfl (opX_append_nil (bytes := 1) Try.underlying22 Try.underlying22 rfl (by kernel_rfl) rfl rfl ?h56 ?h57) ?_; (case h56 => (first | omega | (simp; done) | (simp; omega))); (case h57 => (first | omega | (simp; done) | (simp; omega))))
                  rintro _ _ ⟨t83, rfl, rfl⟩
                  refine AR.run rfl rfl ?_
                  first | (refine AO.ops rfl rfl (opS_assign (av := slE _ _ _) rfl) ?_) | (refine AO.ops rfl rfl (opS_assign (av := .v _) rfl) ?_) | (refine AO.ops rfl rfl (opS_assign (av := .vw _ _ _ _) rfl) ?_)
                  refine AR.nil ?_
                  show AW _ _ _ _ _ _
                  refine AW.region ?_
                  show AR _ _ _ _ _ [0, 1, 2, 3] _
                  refine AR.run rfl rfl ?_
                  first | (refine AO.ops rfl rfl (opS_move (av := slE _ _ _) rfl) ?_) | (refine AO.ops rfl rfl (opS_move (av := .v _) rfl) ?_) | (refine AO.ops rfl rfl (opS_move (av := .vw _ _ _ _) rfl) ?_)
                  refine AR.run rfl rfl ?_
                  refine AO.ops rfl rfl (opS_move (av := .v _) rfl) ?_
                  refine AR.run rfl rfl ?_
                  refine AO.ops rfl rfl (opS_slice_sl_from Try.underlying22 (by kernel_rfl) rfl rfl rfl ?h59) ?_
                  (case h59 => (first | omega | (simp; done) | (simp; omega)))
                  refine AR.run rfl rfl ?_
                  first | (refine AO.ops rfl rfl (opS_assign (av := slE _ _ _) rfl) ?_) | (refine AO.ops rfl rfl (opS_assign (av := .v _) rfl) ?_) | (refine AO.ops rfl rfl (opS_assign (av := .vw _ _ _ _) rfl) ?_)
                  refine AR.nil ?_
                  -- END 13 (loop1)
                  refine ⟨(r.drop 1, out ++ [r[0]], t83), ?_, ?_, ?_⟩
                  · refine ⟨by simp; omega, ?_⟩
                    have := Qp.decode_on hr h2 htk
                    simpa using this
                  · simp only [List.length_drop]; omega
                  · refine WK.env (Env.le.cons ?_ (Env.le.cons ?_ (Env.le.nil _))) ?_
                    all_goals first | exact Sub.refl _ | exact Sub.nil _ | ((repeat (first | exact Sub.refl _ | exact Sub.nil _ | refine Sub.cons _ ?_ | refine Sub.skip _ ?_)); done) | exact Wv.refl _ | exact Wv.any _ | exact Wv.tok _ _ _ | exact Wv.nil _ | (refine Wv.of_eq ?_; first | rfl | exact i64_congr (by omega) | (simp))
                ·
                  have c11p := c11; try simp only [decide_eq_true_eq, decide_eq_false_iff_not, Bool.not_eq_true', Bool.not_eq_false', Bool.not_true, Bool.not_false, Bool.not_eq_eq_eq_not] at c11p
                  have htk := Qp.tok_other hr c2 c5p c11p
                  refine AW.seq ?_
                  refine AW.region ?_
                  show AR _ _ _ _ _ [0, 1] _
                  refine AR.run rfl rfl ?_
                  refine AO.ops rfl rfl (opS_assign (av := .v _) rfl) ?_
                  refine AR.run rfl rfl ?_
                  refine AO.ops rfl rfl (opS_assign (av := .v _) rfl) ?_
                  refine AR.nil ?_
                  show AW _ _ _ _ _ _
                  refine AW.ret ?_
                  -- END 14 (ret)
                  show RetPost _ _ _ _ .ret _
                  rw [h2, Qp.decode_none hr htk]
                  (refine ⟨rfl, _, _, ResV.twoW rfl ?_ ?_, ?_, ⟨rfl, rfl⟩⟩; all_goals first | exact Sub.refl _ | exact Sub.nil _ | ((repeat (first | exact Sub.refl _ | exact Sub.nil _ | refine Sub.cons _ ?_ | refine Sub.skip _ ?_)); done) | exact Wv.refl _ | exact Wv.tok _ _ _ | exact Wv.nil _)
    ·
      have c1p := c1; try simp only [decide_eq_true_eq, decide_eq_false_iff_not, Bool.not_eq_true', Bool.not_eq_false', Bool.not_true, Bool.not_false, Bool.not_eq_eq_eq_not] at c1p
      refine AW.exit ?_
      show AW _ _ _ _ _ _
      refine AW.seq ?_
      refine AW.region ?_
      show AR _ _ _ _ _ [0, 1, 2] _
      refine AR.run rfl rfl ?_
      first | (refine AO.ops rfl rfl (opS_move (av := slE _ _ _) rfl) ?_) | (refine AO.ops rfl rfl (opS_move (av := .v _) rfl) ?_) | (refine AO.ops rfl rfl (opS_move (av := .vw _ _ _ _) rfl) ?_)
      refine AR.run rfl rfl ?_
      first | (refine AO.ops rfl rfl (opS_assign (av := slE _ _ _) rfl) ?_) | (refine AO.ops rfl rfl (opS_assign (av := .v _) rfl) ?_) | (refine AO.ops rfl rfl (opS_assign (av := .vw _ _ _ _) rfl) ?_)
      refine AR.run rfl rfl ?_
      refine AO.ops rfl rfl (opS_assign (av := .v _) rfl) ?_
      refine AR.nil ?_
      show AW _ _ _ _ _ _
      refine AW.ret ?_
      -- END 15 (ret)
      show RetPost _ _ _ _ .ret _
      have hr0 : r = [] := List.length_eq_zero_iff.1 (by omega)
      subst hr0
      rw [Qp.decode_nil] at h2
      simp at h2
      rw [h2]
      (refine ⟨rfl, _, _, ResV.twoW rfl ?_ ?_, ?_, ⟨rfl, rfl⟩⟩; all_goals first | exact Sub.refl _ | exact Sub.nil _ | ((repeat (first | exact Sub.refl _ | exact Sub.nil _ | refine Sub.cons _ ?_ | refine Sub.skip _ ?_)); done) | exact Wv.refl _ | exact Wv.tok _ _ _ | exact Wv.nil _)
end Go.Proofs.Ytgdelfhbelfefaa
