/-
  What the document's own coding and decoding compute, by content.
-/
import Derived.Test.YtgdelfhbelfefaaQpWalk3
set_option linter.unusedVariables false
set_option linter.unusedSimpArgs false
namespace Go.Proofs.Ytgdelfhbelfefaa
open Go.RowKit Go.Av
theorem drop_take_one (b : List UInt8) (i : Nat) (h : i < b.length) : (b.take (i + 1)).drop i = [b[i]] := by
  rw [List.take_succ_eq_append_getElem h, List.drop_append_of_le_length (by simp; omega)]
  simp


/-! mailcoachref12.Encode -/
set_option maxRecDepth 100000 in
set_option maxHeartbeats 1000000 in
theorem ref_Encode (b : List UInt8) (tb : Option Nat) (hb : b.length ≤ 100000000) :
    ACalls Try.prog 13 [slE Enc.byte b tb] [] (Ret (slE Enc.byte (Qp.enc 0 b) none) []) := by
  refine ACalls.of_body Try.func13 rfl rfl ?_
  show AW _ _ 54 _ _ _
  refine AW.seq ?_
  refine AW.region ?_
  show AR _ _ _ _ _ [0] _
  refine AR.run rfl rfl ?_
  refine AO.ops rfl rfl (opS_assign (av := .v _) rfl) ?_
  refine AR.nil ?_
  show AW _ _ _ _ _ _
  refine AW.seq ?_
  refine AW.region ?_
  show AR _ _ _ _ _ [0] _
  refine AR.run rfl rfl ?_
  refine AO.ops rfl rfl (opS_assign (av := .v _) rfl) ?_
  refine AR.nil ?_
  show AW _ _ _ _ _ _
  refine AW.seq ?_
  refine AW.region ?_
  show AR _ _ _ _ _ [0] _
  refine AR.run rfl rfl ?_
  refine AO.ops rfl rfl (opS_assign (av := .v _) rfl) ?_
  refine AR.nil ?_
  show AW _ _ _ _ _ _
  refine AW.seq ?_
  refine AW.seq ?_
  refine AW.region ?_
  show AR _ _ _ _ _ [0] _
  refine AR.run rfl rfl ?_
  refine AO.ops rfl rfl (opS_assign (av := .v _) rfl) ?_
  refine AR.nil ?_
  show AW _ _ _ _ _ _
  refine AW.block ?_
  refine AW.nil_grows 3 1 rfl (fun t0 => ?_)
  refine AW.loop (X := Nat × Nat × List UInt8 × Nat) (fun (i, n, l, t) => ⟨[(0, slE Enc.byte b tb), (3, slE Enc.byte l (some t)), (4, i64 n), (5, i64 i)], [], [.tok t]⟩) (fun (i, n, l, t) => i ≤ b.length ∧ n ≤ 75 ∧ l.length ≤ 6 * i ∧ l ++ Qp.enc n (b.drop i) = Qp.enc 0 b) (fun (i, n, l, t) => b.length - i) (0, 0, [], t0) ?_ ?_ ?_
  · simp
  · refine WK.env (Env.le.cons ?_ (Env.le.cons ?_ (Env.le.cons ?_ (Env.le.cons ?_ (Env.le.nil _))))) ?_
    all_goals first | exact Sub.refl _ | exact Sub.nil _ | ((repeat (first | exact Sub.refl _ | exact Sub.nil _ | refine Sub.cons _ ?_ | refine Sub.skip _ ?_)); done) | exact Wv.refl _ | exact Wv.any _ | exact Wv.tok _ _ _ | exact Wv.nil _ | (refine Wv.of_eq ?_; first | rfl | exact i64_congr (by omega) | (simp))
  · rintro ⟨i, n, l, t⟩ ⟨h1, h2, h3, h4⟩
    show AW _ _ _ _ _ _
    refine AW.seq ?_
    refine AW.seq ?_
    refine AW.region ?_
    show AR _ _ _ _ _ [0, 1, 2, 3] _
    refine AR.run rfl rfl ?_
    refine AO.ops rfl rfl (opS_move (av := .v _) rfl) ?_
    refine AR.run rfl rfl ?_
    first | (refine AO.ops rfl rfl (opS_move (av := slE _ _ _) rfl) ?_) | (refine AO.ops rfl rfl (opS_move (av := .v _) rfl) ?_) | (refine AO.ops rfl rfl (opS_move (av := .vw _ _ _ _) rfl) ?_)
    refine AR.run rfl rfl ?_
    first | (refine AO.ops rfl rfl (opS_len_sl Try.underlying22 rfl) ?_) | (refine AO.ops rfl rfl (opS_len_nil Try.underlying22 rfl) ?_)
    refine AR.run rfl rfl ?_
    refine AO.ops rfl rfl (opS_lt rfl rfl) ?_
    refine AR.nil ?_
    show AW _ _ _ _ _ _
    refine AW.cond rfl (fun c1 => ?_) (fun c1 => ?_)
    ·
      have c1p := c1; try simp only [decide_eq_true_eq, decide_eq_false_iff_not, Bool.not_eq_true', Bool.not_eq_false', Bool.not_true, Bool.not_false, Bool.not_eq_eq_eq_not] at c1p
      refine AW.skip ?_
      show AW _ _ _ _ _ _
      refine AW.seq ?_
      refine AW.block ?_
      refine AW.seq ?_
      refine AW.seq ?_
      refine AW.region ?_
      show AR _ _ _ _ _ [0, 1, 2, 3, 4] _
      refine AR.run rfl rfl ?_
      first | (refine AO.ops rfl rfl (opS_move (av := slE _ _ _) rfl) ?_) | (refine AO.ops rfl rfl (opS_move (av := .v _) rfl) ?_) | (refine AO.ops rfl rfl (opS_move (av := .vw _ _ _ _) rfl) ?_)
      refine AR.run rfl rfl ?_
      refine AO.ops rfl rfl (opS_move (av := .v _) rfl) ?_
      refine AR.run rfl rfl ?_
      refine AO.ops rfl rfl (opS_indexAddr_lt Try.underlying22 (by kernel_rfl) rfl rfl rfl ?h1) ?_
      (case h1 => (omega))
      refine AR.run rfl rfl ?_
      first | refine AO.ops rfl rfl (opS_load_cp Try.underlying5 rfl rfl) ?_ | refine AO.op rfl rfl (opR_load_pt (i := 0) Try.underlying5 rfl rfl rfl rfl) ?_ | refine AO.op rfl rfl (opR_load_pt (i := 1) Try.underlying5 rfl rfl rfl rfl) ?_ | refine AO.op rfl rfl (opR_load_pt (i := 2) Try.underlying5 rfl rfl rfl rfl) ?_ | refine AO.op rfl rfl (opR_load_pt (i := 3) Try.underlying5 rfl rfl rfl rfl) ?_
      refine AR.run rfl rfl ?_
      refine AO.ops rfl rfl (opS_eqi rfl rfl) ?_
      refine AR.nil ?_
      show AW _ _ _ _ _ _
      refine AW.cond rfl (fun c2 => ?_) (fun c2 => ?_)
      ·
        have c2p := c2; try simp only [decide_eq_true_eq, decide_eq_false_iff_not, Bool.not_eq_true', Bool.not_eq_false', Bool.not_true, Bool.not_false, Bool.not_eq_eq_eq_not] at c2p
        refine AW.seq ?_
        refine AW.region ?_
        show AR _ _ _ _ _ [0, 1, 2, 3] _
        refine AR.run rfl rfl ?_
        first | (refine AO.ops rfl rfl (opS_move (av := slE _ _ _) rfl) ?_) | (refine AO.ops rfl rfl (opS_move (av := .v _) rfl) ?_) | (refine AO.ops rfl rfl (opS_move (av := .vw _ _ _ _) rfl) ?_)
        refine AR.run rfl rfl ?_
        refine AO.op rfl rfl (opR_buildE (E := Enc.byte) (bytes := 1) (xs := [.const (.int .u8 (13)), .const (.int .u8 (10))]) (l := [(13), (10)]) Try.underlying22 (by kernel_rfl) rfl rfl (by decide) rfl rfl) ?_
        refine AR.run rfl rfl ?_
        first | (refine AO.opx rfl rfl (opX_append (bytes := 1) 0 Try.underlying22 Try.underlying22 rfl (by kernel_rfl) rfl rfl rfl ?h4 ?h5) ?_; (case h4 => (first | omega | (simp; done) | (simp; omega))); (case h5 => (first | omega | (simp; done) | (simp; omega)))) | (refine AO.opx rfl rfl (opX_append (bytes := 1) 1 Try.underlying22 Try.underlying22 rfl (by kernel_rfl) rfl rfl rfl ?h6 ?h7) ?_; (case h6 => (first | omega | (simp; done) | (simp; omega))); (case h7 => (first | omega | (simp; done) | (simp; omega)))) | (refine AO.opx rfl rfl (opX_append (bytes := 1) 2 Try.underlying22 Try.underlying22 rfl (by kernel_rfl) rfl rfl rfl ?h8 ?h9) ?_; (case h8 => (first | omega | (simp; done) | (simp; omega))); (case h9 => (first | omega | (simp; done) | (simp; omega)))) | (refine AO.opx rfl rfl (opX_append (bytes := 1) 3 Try.underlying22 Try.underlying22 rfl (by kernel_rfl) rfl rfl rfl ?h10 ?h11) ?_; (case h10 => (first | omega | (simp; done) | (simp; omega))); (case h11 => (first | omega | (simp; done) | (simp; omega)))) | (refine AO.opx rfl rfl (opX_append_nil (bytes := 1) Try.underlying22 Try.underlying22 rfl (by kernel_rfl) rfl rfl ?h12 ?h13) ?_; (case h12 => (first | omega | (simp; done) | (simp; omega))); (case h13 => (first | omega | (simp; done) | (simp; omega))))
        rintro _ _ ⟨t21, rfl, rfl⟩
        refine AR.run rfl rfl ?_
        first | (refine AO.ops rfl rfl (opS_assign (av := slE _ _ _) rfl) ?_) | (refine AO.ops rfl rfl (opS_assign (av := .v _) rfl) ?_) | (refine AO.ops rfl rfl (opS_assign (av := .vw _ _ _ _) rfl) ?_)
        refine AR.nil ?_
        show AW _ _ _ _ _ _
        refine AW.seq ?_
        refine AW.region ?_
        show AR _ _ _ _ _ [0] _
        refine AR.run rfl rfl ?_
        refine AO.ops rfl rfl (opS_assign (av := .v _) rfl) ?_
        refine AR.nil ?_
        show AW _ _ _ _ _ _
        refine AW.exit ?_
        show AW _ _ _ _ _ _
        refine AW.region ?_
        show AR _ _ _ _ _ [0, 1, 2] _
        refine AR.run rfl rfl ?_
        refine AO.ops rfl rfl (opS_move (av := .v _) rfl) ?_
        refine AR.run rfl rfl ?_
        refine AO.ops rfl rfl (opS_add rfl rfl ?h15) ?_
        (case h15 => (omega))
        refine AR.run rfl rfl ?_
        refine AO.ops rfl rfl (opS_assign (av := .v _) rfl) ?_
        refine AR.nil ?_
        -- END 1 (loop1)
        refine ⟨(i + 1, 0, l ++ [13, 10], t21), ?_, ?_, ?_⟩
        · refine ⟨by omega, by omega, by (try simp); omega, ?_⟩
          rw [← h4, Qp.enc_step n b i (by omega), if_pos (by omega), List.append_assoc]
        · (try simp only []); omega
        · refine WK.env (Env.le.cons ?_ (Env.le.cons ?_ (Env.le.cons ?_ (Env.le.cons ?_ (Env.le.nil _))))) ?_
          all_goals first | exact Sub.refl _ | exact Sub.nil _ | ((repeat (first | exact Sub.refl _ | exact Sub.nil _ | refine Sub.cons _ ?_ | refine Sub.skip _ ?_)); done) | exact Wv.refl _ | exact Wv.any _ | exact Wv.tok _ _ _ | exact Wv.nil _ | (refine Wv.of_eq ?_; first | rfl | exact i64_congr (by omega) | (simp))
      ·
        have c2p := c2; try simp only [decide_eq_true_eq, decide_eq_false_iff_not, Bool.not_eq_true', Bool.not_eq_false', Bool.not_true, Bool.not_false, Bool.not_eq_eq_eq_not] at c2p
        have hcl := Qp.code_length b[i] (b.drop (i + 1))
        refine AW.skip ?_
        show AW _ _ _ _ _ _
        refine AW.seq ?_
        refine AW.region ?_
        show AR _ _ _ _ _ [0, 1, 2, 3, 4, 5, 6] _
        refine AR.run rfl rfl ?_
        first | (refine AO.ops rfl rfl (opS_move (av := slE _ _ _) rfl) ?_) | (refine AO.ops rfl rfl (opS_move (av := .v _) rfl) ?_) | (refine AO.ops rfl rfl (opS_move (av := .vw _ _ _ _) rfl) ?_)
        refine AR.run rfl rfl ?_
        refine AO.ops rfl rfl (opS_move (av := .v _) rfl) ?_
        refine AR.run rfl rfl ?_
        refine AO.ops rfl rfl (opS_indexAddr_lt Try.underlying22 (by kernel_rfl) rfl rfl rfl ?h16) ?_
        (case h16 => (omega))
        refine AR.run rfl rfl ?_
        first | refine AO.ops rfl rfl (opS_load_cp Try.underlying5 rfl rfl) ?_ | refine AO.op rfl rfl (opR_load_pt (i := 0) Try.underlying5 rfl rfl rfl rfl) ?_ | refine AO.op rfl rfl (opR_load_pt (i := 1) Try.underlying5 rfl rfl rfl rfl) ?_ | refine AO.op rfl rfl (opR_load_pt (i := 2) Try.underlying5 rfl rfl rfl rfl) ?_ | refine AO.op rfl rfl (opR_load_pt (i := 3) Try.underlying5 rfl rfl rfl rfl) ?_
        refine AR.run rfl rfl ?_
        refine AO.callp rfl en19 rfl (ref_Hex _) ?_
        refine AR.run rfl rfl ?_
        refine AO.ops rfl rfl (opS_cat rfl rfl ?h18) ?_
        (case h18 => (first | omega | (simp; done) | (simp; omega)))
        refine AR.run rfl rfl ?_
        refine AO.ops rfl rfl (opS_assign (av := .v _) rfl) ?_
        refine AR.nil ?_
        show AW _ _ _ _ _ _
        refine AW.seq ?_
        refine AW.region ?_
        show AR _ _ _ _ _ [0, 1, 2, 3] _
        refine AR.run rfl rfl ?_
        first | (refine AO.ops rfl rfl (opS_move (av := slE _ _ _) rfl) ?_) | (refine AO.ops rfl rfl (opS_move (av := .v _) rfl) ?_) | (refine AO.ops rfl rfl (opS_move (av := .vw _ _ _ _) rfl) ?_)
        refine AR.run rfl rfl ?_
        refine AO.ops rfl rfl (opS_move (av := .v _) rfl) ?_
        refine AR.run rfl rfl ?_
        refine AO.callp rfl en20 rfl (ref_plain b i tb (by omega) hb) ?_
        refine AR.run rfl rfl ?_
        refine AO.ops rfl rfl (opS_assign (av := .v _) rfl) ?_
        refine AR.nil ?_
        show AW _ _ _ _ _ _
        refine AW.cut (X := Unit) (fun _ => ⟨[(0, slE Enc.byte b tb), (3, slE Enc.byte l (some t)), (4, i64 n), (5, i64 i), (6, S (Qp.code b[i] (b.drop (i + 1))))], [], [.tok t]⟩) (fun _ => True) ?_ ?_
        ·
          refine AW.seq ?_
          refine AW.region ?_
          show AR _ _ _ _ _ [0] _
          refine AR.run rfl rfl ?_
          refine AO.ops rfl rfl (opS_move (av := .v _) rfl) ?_
          refine AR.nil ?_
          show AW _ _ _ _ _ _
          refine AW.cond rfl (fun c3 => ?_) (fun c3 => ?_)
          ·
            have c3p := c3; try simp only [decide_eq_true_eq, decide_eq_false_iff_not, Bool.not_eq_true', Bool.not_eq_false', Bool.not_true, Bool.not_false, Bool.not_eq_eq_eq_not] at c3p
            refine AW.region ?_
            show AR _ _ _ _ _ [0, 1, 2, 3, 4, 5, 6] _
            refine AR.run rfl rfl ?_
            first | (refine AO.ops rfl rfl (opS_move (av := slE _ _ _) rfl) ?_) | (refine AO.ops rfl rfl (opS_move (av := .v _) rfl) ?_) | (refine AO.ops rfl rfl (opS_move (av := .vw _ _ _ _) rfl) ?_)
            refine AR.run rfl rfl ?_
            refine AO.ops rfl rfl (opS_move (av := .v _) rfl) ?_
            refine AR.run rfl rfl ?_
            refine AO.ops rfl rfl (opS_move (av := .v _) rfl) ?_
            refine AR.run rfl rfl ?_
            refine AO.ops rfl rfl (opS_add rfl rfl ?h20) ?_
            (case h20 => (omega))
            refine AR.run rfl rfl ?_
            refine AO.ops rfl rfl (opS_slice_sl (lo := i) (hi := i + 1) Try.underlying22 (by kernel_rfl) rfl rfl rfl ?h23 ?h24 ?h25 ?h26) ?_
            (case h23 => (omega))
            (case h24 => (omega))
            (case h25 => (first | omega | (simp; done) | (simp; omega)))
            (case h26 => (first | omega | (simp; done) | (simp; omega)))
            refine AR.run rfl rfl ?_
            refine AO.ops rfl rfl (opS_conv_bytes_str Try.underlying22 Try.underlying5 Try.underlying9 rfl) ?_
            refine AR.run rfl rfl ?_
            refine AO.ops rfl rfl (opS_assign (av := .v _) rfl) ?_
            refine AR.nil ?_
            -- END 2 (cut('p', 11))
            refine ⟨(), ?_, ?_⟩
            · trivial
            · refine WK.env (Env.le.cons ?_ (Env.le.cons ?_ (Env.le.cons ?_ (Env.le.cons ?_ (Env.le.cons ?_ (Env.le.nil _)))))) ?_
              all_goals first | exact Sub.refl _ | exact Sub.nil _ | ((repeat (first | exact Sub.refl _ | exact Sub.nil _ | refine Sub.cons _ ?_ | refine Sub.skip _ ?_)); done) | exact Wv.refl _ | exact Wv.any _ | exact Wv.tok _ _ _ | exact Wv.nil _ | (refine Wv.of_eq ?_; first | rfl | exact i64_congr (by omega) | (refine congrArg S ?_; first | (rw [Qp.code, if_pos (by assumption)]; exact drop_take_one b i (by omega)) | (rw [Qp.code, if_neg (by rw [c3]; decide)]; rfl)))
          ·
            have c3p := c3; try simp only [decide_eq_true_eq, decide_eq_false_iff_not, Bool.not_eq_true', Bool.not_eq_false', Bool.not_true, Bool.not_false, Bool.not_eq_eq_eq_not] at c3p
            refine AW.skip ?_
            -- END 3 (cut('p', 11))
            refine ⟨(), ?_, ?_⟩
            · trivial
            · refine WK.env (Env.le.cons ?_ (Env.le.cons ?_ (Env.le.cons ?_ (Env.le.cons ?_ (Env.le.cons ?_ (Env.le.nil _)))))) ?_
              all_goals first | exact Sub.refl _ | exact Sub.nil _ | ((repeat (first | exact Sub.refl _ | exact Sub.nil _ | refine Sub.cons _ ?_ | refine Sub.skip _ ?_)); done) | exact Wv.refl _ | exact Wv.any _ | exact Wv.tok _ _ _ | exact Wv.nil _ | (refine Wv.of_eq ?_; first | rfl | exact i64_congr (by omega) | (refine congrArg S ?_; first | (rw [Qp.code, if_pos (by assumption)]; exact drop_take_one b i (by omega)) | (rw [Qp.code, if_neg (by rw [c3]; decide)]; rfl)))
        · rintro _ _
          show AW _ _ _ _ _ _
          refine AW.seq ?_
          refine AW.seq ?_
          refine AW.region ?_
          show AR _ _ _ _ _ [0, 1, 2, 3, 4] _
          refine AR.run rfl rfl ?_
          refine AO.ops rfl rfl (opS_move (av := .v _) rfl) ?_
          refine AR.run rfl rfl ?_
          refine AO.ops rfl rfl (opS_move (av := .v _) rfl) ?_
          refine AR.run rfl rfl ?_
          refine AO.ops rfl rfl (opS_len_str Try.underlying9 rfl) ?_
          refine AR.run rfl rfl ?_
          refine AO.ops rfl rfl (opS_add rfl rfl ?h28) ?_
          (case h28 => (omega))
          refine AR.run rfl rfl ?_
          refine AO.ops rfl rfl (opS_gt rfl rfl) ?_
          refine AR.nil ?_
          show AW _ _ _ _ _ _
          refine AW.cond rfl (fun c4 => ?_) (fun c4 => ?_)
          ·
            have c4p := c4; try simp only [decide_eq_true_eq, decide_eq_false_iff_not, Bool.not_eq_true', Bool.not_eq_false', Bool.not_true, Bool.not_false, Bool.not_eq_eq_eq_not] at c4p
            refine AW.seq ?_
            refine AW.region ?_
            show AR _ _ _ _ _ [0, 1, 2, 3] _
            refine AR.run rfl rfl ?_
            first | (refine AO.ops rfl rfl (opS_move (av := slE _ _ _) rfl) ?_) | (refine AO.ops rfl rfl (opS_move (av := .v _) rfl) ?_) | (refine AO.ops rfl rfl (opS_move (av := .vw _ _ _ _) rfl) ?_)
            refine AR.run rfl rfl ?_
            refine AO.op rfl rfl (opR_buildE (E := Enc.byte) (bytes := 1) (xs := [.const (.int .u8 (61)), .const (.int .u8 (13)), .const (.int .u8 (10))]) (l := [(61), (13), (10)]) Try.underlying22 (by kernel_rfl) rfl rfl (by decide) rfl rfl) ?_
            refine AR.run rfl rfl ?_
            first | (refine AO.opx rfl rfl (opX_append (bytes := 1) 0 Try.underlying22 Try.underlying22 rfl (by kernel_rfl) rfl rfl rfl ?h31 ?h32) ?_; (case h31 => (first | omega | (simp; done) | (simp; omega))); (case h32 => (first | omega | (simp; done) | (simp; omega)))) | (refine AO.opx rfl rfl (opX_append (bytes := 1) 1 Try.underlying22 Try.underlying22 rfl (by kernel_rfl) rfl rfl rfl ?h33 ?h34) ?_; (case h33 => (first | omega | (simp; done) | (simp; omega))); (case h34 => (first | omega | (simp; done) | (simp; omega)))) | (refine AO.opx rfl rfl (opX_append (bytes := 1) 2 Try.underlying22 Try.underlying22 rfl (by kernel_rfl) rfl rfl rfl ?h35 ?h36) ?_; (case h35 => (first | omega | (simp; done) | (simp; omega))); (case h36 => (first | omega | (simp; done) | (simp; omega)))) | (refine AO.opx rfl rfl (opX_append (bytes := 1) 3 Try.underlying22 Try.underlying22 rfl (by kernel_rfl) rfl rfl rfl ?h37 ?h38) ?_; (case h37 => (first | omega | (simp; done) | (simp; omega))); (case h38 => (first | omega | (simp; done) | (simp; omega)))) | (refine AO.opx rfl rfl (opX_append_nil (bytes := 1) Try.underlying22 Try.underlying22 rfl (by kernel_rfl) rfl rfl ?h39 ?h40) ?_; (case h39 => (first | omega | (simp; done) | (simp; omega))); (case h40 => (first | omega | (simp; done) | (simp; omega))))
            rintro _ _ ⟨t45, rfl, rfl⟩
            refine AR.run rfl rfl ?_
            first | (refine AO.ops rfl rfl (opS_assign (av := slE _ _ _) rfl) ?_) | (refine AO.ops rfl rfl (opS_assign (av := .v _) rfl) ?_) | (refine AO.ops rfl rfl (opS_assign (av := .vw _ _ _ _) rfl) ?_)
            refine AR.nil ?_
            show AW _ _ _ _ _ _
            refine AW.region ?_
            show AR _ _ _ _ _ [0] _
            refine AR.run rfl rfl ?_
            refine AO.ops rfl rfl (opS_assign (av := .v _) rfl) ?_
            refine AR.nil ?_
            show AW _ _ _ _ _ _
            refine AW.seq ?_
            refine AW.region ?_
            show AR _ _ _ _ _ [0, 1, 2, 3] _
            refine AR.run rfl rfl ?_
            first | (refine AO.ops rfl rfl (opS_move (av := slE _ _ _) rfl) ?_) | (refine AO.ops rfl rfl (opS_move (av := .v _) rfl) ?_) | (refine AO.ops rfl rfl (opS_move (av := .vw _ _ _ _) rfl) ?_)
            refine AR.run rfl rfl ?_
            refine AO.ops rfl rfl (opS_move (av := .v _) rfl) ?_
            refine AR.run rfl rfl ?_
            first | (refine AO.opx rfl rfl (opX_append_str (bytes := 1) 0 Try.underlying22 Try.underlying9 rfl (by kernel_rfl) rfl rfl rfl ?h43 ?h44) ?_; (case h43 => (first | omega | (simp; done) | (simp; omega))); (case h44 => (first | omega | (simp; done) | (simp; omega)))) | (refine AO.opx rfl rfl (opX_append_str (bytes := 1) 1 Try.underlying22 Try.underlying9 rfl (by kernel_rfl) rfl rfl rfl ?h45 ?h46) ?_; (case h45 => (first | omega | (simp; done) | (simp; omega))); (case h46 => (first | omega | (simp; done) | (simp; omega)))) | (refine AO.opx rfl rfl (opX_append_str (bytes := 1) 2 Try.underlying22 Try.underlying9 rfl (by kernel_rfl) rfl rfl rfl ?h47 ?h48) ?_; (case h47 => (first | omega | (simp; done) | (simp; omega))); (case h48 => (first | omega | (simp; done) | (simp; omega)))) | (refine AO.opx rfl rfl (opX_append_str (bytes := 1) 3 Try.underlying22 Try.underlying9 rfl (by kernel_rfl) rfl rfl rfl ?h49 ?h50) ?_; (case h49 => (first | omega | (simp; done) | (simp; omega))); (case h50 => (first | omega | (simp; done) | (simp; omega))))
            rintro _ _ ⟨t48, rfl, rfl⟩
            refine AR.run rfl rfl ?_
            first | (refine AO.ops rfl rfl (opS_assign (av := slE _ _ _) rfl) ?_) | (refine AO.ops rfl rfl (opS_assign (av := .v _) rfl) ?_) | (refine AO.ops rfl rfl (opS_assign (av := .vw _ _ _ _) rfl) ?_)
            refine AR.nil ?_
            show AW _ _ _ _ _ _
            refine AW.region ?_
            show AR _ _ _ _ _ [0, 1, 2, 3, 4] _
            refine AR.run rfl rfl ?_
            refine AO.ops rfl rfl (opS_move (av := .v _) rfl) ?_
            refine AR.run rfl rfl ?_
            refine AO.ops rfl rfl (opS_move (av := .v _) rfl) ?_
            refine AR.run rfl rfl ?_
            refine AO.ops rfl rfl (opS_len_str Try.underlying9 rfl) ?_
            refine AR.run rfl rfl ?_
            refine AO.ops rfl rfl (opS_add rfl rfl ?h52) ?_
            (case h52 => (omega))
            refine AR.run rfl rfl ?_
            refine AO.ops rfl rfl (opS_assign (av := .v _) rfl) ?_
            refine AR.nil ?_
            show AW _ _ _ _ _ _
            refine AW.region ?_
            show AR _ _ _ _ _ [0, 1, 2] _
            refine AR.run rfl rfl ?_
            refine AO.ops rfl rfl (opS_move (av := .v _) rfl) ?_
            refine AR.run rfl rfl ?_
            refine AO.ops rfl rfl (opS_add rfl rfl ?h54) ?_
            (case h54 => (omega))
            refine AR.run rfl rfl ?_
            refine AO.ops rfl rfl (opS_assign (av := .v _) rfl) ?_
            refine AR.nil ?_
            -- END 4 (loop1)
            refine ⟨(i + 1, (Qp.put n (Qp.code b[i] (b.drop (i + 1)))).2, l ++ (Qp.put n (Qp.code b[i] (b.drop (i + 1)))).1, t48), ?_, ?_, ?_⟩
            · have hp := Qp.put_bounds n (Qp.code b[i] (b.drop (i + 1))) h2 (Qp.code_length _ _)
              refine ⟨by omega, hp.1, by simp; omega, ?_⟩
              rw [← h4, Qp.enc_step n b i (by omega), if_neg (by omega), List.append_assoc]
            · (try simp only []); omega
            · refine WK.env (Env.le.cons ?_ (Env.le.cons ?_ (Env.le.cons ?_ (Env.le.cons ?_ (Env.le.nil _))))) ?_
              all_goals first | exact Sub.refl _ | exact Sub.nil _ | ((repeat (first | exact Sub.refl _ | exact Sub.nil _ | refine Sub.cons _ ?_ | refine Sub.skip _ ?_)); done) | exact Wv.refl _ | exact Wv.any _ | exact Wv.tok _ _ _ | exact Wv.nil _ | (refine Wv.of_eq ?_; first | rfl | exact i64_congr (by omega) | (first | (refine slE_congr ?_; rw [Qp.put_long _ _ (by omega)]; simp) | (refine i64_congr ?_; rw [Qp.put_long _ _ (by omega)]; omega)))
          ·
            have c4p := c4; try simp only [decide_eq_true_eq, decide_eq_false_iff_not, Bool.not_eq_true', Bool.not_eq_false', Bool.not_true, Bool.not_false, Bool.not_eq_eq_eq_not] at c4p
            refine AW.skip ?_
            show AW _ _ _ _ _ _
            refine AW.seq ?_
            refine AW.region ?_
            show AR _ _ _ _ _ [0, 1, 2, 3] _
            refine AR.run rfl rfl ?_
            first | (refine AO.ops rfl rfl (opS_move (av := slE _ _ _) rfl) ?_) | (refine AO.ops rfl rfl (opS_move (av := .v _) rfl) ?_) | (refine AO.ops rfl rfl (opS_move (av := .vw _ _ _ _) rfl) ?_)
            refine AR.run rfl rfl ?_
            refine AO.ops rfl rfl (opS_move (av := .v _) rfl) ?_
            refine AR.run rfl rfl ?_
            first | (refine AO.opx rfl rfl (opX_append_str (bytes := 1) 0 Try.underlying22 Try.underlying9 rfl (by kernel_rfl) rfl rfl rfl ?h57 ?h58) ?_; (case h57 => (first | omega | (simp; done) | (simp; omega))); (case h58 => (first | omega | (simp; done) | (simp; omega)))) | (refine AO.opx rfl rfl (opX_append_str (bytes := 1) 1 Try.underlying22 Try.underlying9 rfl (by kernel_rfl) rfl rfl rfl ?h59 ?h60) ?_; (case h59 => (first | omega | (simp; done) | (simp; omega))); (case h60 => (first | omega | (simp; done) | (simp; omega)))) | (refine AO.opx rfl rfl (opX_append_str (bytes := 1) 2 Try.underlying22 Try.underlying9 rfl (by kernel_rfl) rfl rfl rfl ?h61 ?h62) ?_; (case h61 => (first | omega | (simp; done) | (simp; omega))); (case h62 => (first | omega | (simp; done) | (simp; omega)))) | (refine AO.opx rfl rfl (opX_append_str (bytes := 1) 3 Try.underlying22 Try.underlying9 rfl (by kernel_rfl) rfl rfl rfl ?h63 ?h64) ?_; (case h63 => (first | omega | (simp; done) | (simp; omega))); (case h64 => (first | omega | (simp; done) | (simp; omega))))
            rintro _ _ ⟨t48, rfl, rfl⟩
            refine AR.run rfl rfl ?_
            first | (refine AO.ops rfl rfl (opS_assign (av := slE _ _ _) rfl) ?_) | (refine AO.ops rfl rfl (opS_assign (av := .v _) rfl) ?_) | (refine AO.ops rfl rfl (opS_assign (av := .vw _ _ _ _) rfl) ?_)
            refine AR.nil ?_
            show AW _ _ _ _ _ _
            refine AW.region ?_
            show AR _ _ _ _ _ [0, 1, 2, 3, 4] _
            refine AR.run rfl rfl ?_
            refine AO.ops rfl rfl (opS_move (av := .v _) rfl) ?_
            refine AR.run rfl rfl ?_
            refine AO.ops rfl rfl (opS_move (av := .v _) rfl) ?_
            refine AR.run rfl rfl ?_
            refine AO.ops rfl rfl (opS_len_str Try.underlying9 rfl) ?_
            refine AR.run rfl rfl ?_
            refine AO.ops rfl rfl (opS_add rfl rfl ?h66) ?_
            (case h66 => (omega))
            refine AR.run rfl rfl ?_
            refine AO.ops rfl rfl (opS_assign (av := .v _) rfl) ?_
            refine AR.nil ?_
            show AW _ _ _ _ _ _
            refine AW.region ?_
            show AR _ _ _ _ _ [0, 1, 2] _
            refine AR.run rfl rfl ?_
            refine AO.ops rfl rfl (opS_move (av := .v _) rfl) ?_
            refine AR.run rfl rfl ?_
            refine AO.ops rfl rfl (opS_add rfl rfl ?h68) ?_
            (case h68 => (omega))
            refine AR.run rfl rfl ?_
            refine AO.ops rfl rfl (opS_assign (av := .v _) rfl) ?_
            refine AR.nil ?_
            -- END 5 (loop1)
            refine ⟨(i + 1, (Qp.put n (Qp.code b[i] (b.drop (i + 1)))).2, l ++ (Qp.put n (Qp.code b[i] (b.drop (i + 1)))).1, t48), ?_, ?_, ?_⟩
            · have hp := Qp.put_bounds n (Qp.code b[i] (b.drop (i + 1))) h2 (Qp.code_length _ _)
              refine ⟨by omega, hp.1, by simp; omega, ?_⟩
              rw [← h4, Qp.enc_step n b i (by omega), if_neg (by omega), List.append_assoc]
            · (try simp only []); omega
            · refine WK.env (Env.le.cons ?_ (Env.le.cons ?_ (Env.le.cons ?_ (Env.le.cons ?_ (Env.le.nil _))))) ?_
              all_goals first | exact Sub.refl _ | exact Sub.nil _ | ((repeat (first | exact Sub.refl _ | exact Sub.nil _ | refine Sub.cons _ ?_ | refine Sub.skip _ ?_)); done) | exact Wv.refl _ | exact Wv.any _ | exact Wv.tok _ _ _ | exact Wv.nil _ | (refine Wv.of_eq ?_; first | rfl | exact i64_congr (by omega) | (first | (refine slE_congr ?_; rw [Qp.put_short _ _ (by omega)]) | (refine i64_congr ?_; rw [Qp.put_short _ _ (by omega)]; omega)))
    ·
      have c1p := c1; try simp only [decide_eq_true_eq, decide_eq_false_iff_not, Bool.not_eq_true', Bool.not_eq_false', Bool.not_true, Bool.not_false, Bool.not_eq_eq_eq_not] at c1p
      refine AW.exit ?_
      show AW _ _ _ _ _ _
      refine AW.seq ?_
      refine AW.region ?_
      show AR _ _ _ _ _ [0, 1] _
      refine AR.run rfl rfl ?_
      first | (refine AO.ops rfl rfl (opS_move (av := slE _ _ _) rfl) ?_) | (refine AO.ops rfl rfl (opS_move (av := .v _) rfl) ?_) | (refine AO.ops rfl rfl (opS_move (av := .vw _ _ _ _) rfl) ?_)
      refine AR.run rfl rfl ?_
      first | (refine AO.ops rfl rfl (opS_assign (av := slE _ _ _) rfl) ?_) | (refine AO.ops rfl rfl (opS_assign (av := .v _) rfl) ?_) | (refine AO.ops rfl rfl (opS_assign (av := .vw _ _ _ _) rfl) ?_)
      refine AR.nil ?_
      show AW _ _ _ _ _ _
      refine AW.ret ?_
      -- END 6 (ret)
      show RetPost _ _ _ _ .ret _
      have hi : i = b.length := by omega
      subst hi
      rw [List.drop_length, Qp.enc, List.append_nil] at h4
      rw [← h4]
      (refine ⟨rfl, _, _, ResV.oneW rfl ?_, ?_, ⟨rfl, rfl⟩⟩; all_goals first | exact Sub.refl _ | exact Sub.nil _ | ((repeat (first | exact Sub.refl _ | exact Sub.nil _ | refine Sub.cons _ ?_ | refine Sub.skip _ ?_)); done) | exact Wv.refl _ | exact Wv.tok _ _ _ | exact Wv.nil _)

/-! mailcoachref12.Decode -/
set_option maxRecDepth 100000 in
set_option maxHeartbeats 1000000 in
theorem ref_Decode (b : List UInt8) (tb : Option Nat) (hb : b.length ≤ 100000000) :
    ACalls Try.prog 11 [slE Enc.byte b tb] [] (Ret (.tup [slE Enc.byte ((Qp.decode b).getD []) none, i64 (if (Qp.decode b).isSome then 0 else 2)]) []) := by
  refine ACalls.of_body Try.func11 rfl rfl ?_
  show AW _ _ 107 _ _ _
  refine AW.seq ?_
  refine AW.region ?_
  show AR _ _ _ _ _ [0, 1] _
  refine AR.run rfl rfl ?_
  refine AO.ops rfl rfl (opS_assign (av := .v _) rfl) ?_
  refine AR.run rfl rfl ?_
  refine AO.ops rfl rfl (opS_assign (av := .v _) rfl) ?_
  refine AR.nil ?_
  show AW _ _ _ _ _ _
  refine AW.seq ?_
  refine AW.region ?_
  show AR _ _ _ _ _ [0] _
  refine AR.run rfl rfl ?_
  refine AO.ops rfl rfl (opS_assign (av := .v _) rfl) ?_
  refine AR.nil ?_
  show AW _ _ _ _ _ _
  refine AW.seq ?_
  refine AW.seq ?_
  refine AW.region ?_
  show AR _ _ _ _ _ [0] _
  refine AR.run rfl rfl ?_
  refine AO.ops rfl rfl (opS_assign (av := .v _) rfl) ?_
  refine AR.nil ?_
  show AW _ _ _ _ _ _
  refine AW.block ?_
  refine AW.nil_grows 4 1 rfl (fun t0 => ?_)
  refine AW.loop (X := Nat × List UInt8 × Nat) (fun (i, out, t) => ⟨[(0, slE Enc.byte b tb), (4, slE Enc.byte out (some t)), (5, i64 i)], [], [.tok t]⟩) (fun (i, out, t) => i ≤ b.length ∧ out.length ≤ i ∧ Qp.decode b = (Qp.decode (b.drop i)).map (out ++ ·)) (fun (i, out, t) => b.length - i) (0, [], t0) ?_ ?_ ?_
  · simp
  · refine WK.env (Env.le.cons ?_ (Env.le.cons ?_ (Env.le.cons ?_ (Env.le.nil _)))) ?_
    all_goals first | exact Sub.refl _ | exact Sub.nil _ | ((repeat (first | exact Sub.refl _ | exact Sub.nil _ | refine Sub.cons _ ?_ | refine Sub.skip _ ?_)); done) | exact Wv.refl _ | exact Wv.any _ | exact Wv.tok _ _ _ | exact Wv.nil _ | (refine Wv.of_eq ?_; first | rfl | exact i64_congr (by omega) | (simp))
  · rintro ⟨i, out, t⟩ ⟨h1, h2, h3⟩
    show AW _ _ _ _ _ _
    refine AW.seq ?_
    refine AW.seq ?_
    refine AW.region ?_
    show AR _ _ _ _ _ [0, 1, 2, 3] _
    refine AR.run rfl rfl ?_
    refine AO.ops rfl rfl (opS_move (av := .v _) rfl) ?_
    refine AR.run rfl rfl ?_
    first | (refine AO.ops rfl rfl (opS_move (av := slE _ _ _) rfl) ?_) | (refine AO.ops rfl rfl (opS_move (av := .v _) rfl) ?_) | (refine AO.ops rfl rfl (opS_move (av := .vw _ _ _ _) rfl) ?_)
    refine AR.run rfl rfl ?_
    first | (refine AO.ops rfl rfl (opS_len_sl Try.underlying22 rfl) ?_) | (refine AO.ops rfl rfl (opS_len_nil Try.underlying22 rfl) ?_)
    refine AR.run rfl rfl ?_
    refine AO.ops rfl rfl (opS_lt rfl rfl) ?_
    refine AR.nil ?_
    show AW _ _ _ _ _ _
    refine AW.cond rfl (fun c1 => ?_) (fun c1 => ?_)
    ·
      have c1p := c1; try simp only [decide_eq_true_eq, decide_eq_false_iff_not, Bool.not_eq_true', Bool.not_eq_false', Bool.not_true, Bool.not_false, Bool.not_eq_eq_eq_not] at c1p
      refine AW.skip ?_
      show AW _ _ _ _ _ _
      refine AW.seq ?_
      refine AW.block ?_
      refine AW.seq ?_
      refine AW.region ?_
      show AR _ _ _ _ _ [0, 1, 2, 3, 4] _
      refine AR.run rfl rfl ?_
      first | (refine AO.ops rfl rfl (opS_move (av := slE _ _ _) rfl) ?_) | (refine AO.ops rfl rfl (opS_move (av := .v _) rfl) ?_) | (refine AO.ops rfl rfl (opS_move (av := .vw _ _ _ _) rfl) ?_)
      refine AR.run rfl rfl ?_
      refine AO.ops rfl rfl (opS_move (av := .v _) rfl) ?_
      refine AR.run rfl rfl ?_
      refine AO.ops rfl rfl (opS_indexAddr_lt Try.underlying22 (by kernel_rfl) rfl rfl rfl ?h1) ?_
      (case h1 => (omega))
      refine AR.run rfl rfl ?_
      first | refine AO.ops rfl rfl (opS_load_cp Try.underlying5 rfl rfl) ?_ | refine AO.op rfl rfl (opR_load_pt (i := 0) Try.underlying5 rfl rfl rfl rfl) ?_ | refine AO.op rfl rfl (opR_load_pt (i := 1) Try.underlying5 rfl rfl rfl rfl) ?_ | refine AO.op rfl rfl (opR_load_pt (i := 2) Try.underlying5 rfl rfl rfl rfl) ?_ | refine AO.op rfl rfl (opR_load_pt (i := 3) Try.underlying5 rfl rfl rfl rfl) ?_
      refine AR.run rfl rfl ?_
      refine AO.ops rfl rfl (opS_assign (av := .v _) rfl) ?_
      refine AR.nil ?_
      show AW _ _ _ _ _ _
      refine AW.seq ?_
      refine AW.cut (X := Unit) (fun _ => ⟨[(0, slE Enc.byte b tb), (4, slE Enc.byte out (some t)), (5, i64 i), (6, u8 b[i]), (35, B (decide (b[i].toNat = 13 ∧ Qp.nxt b (i + 1) = 10)))], [], [.tok t]⟩) (fun _ => True) ?_ ?_
      ·
        refine AW.region ?_
        show AR _ _ _ _ _ [0, 1, 2, 3, 4, 5, 6, 7, 8, 9, 10, 11, 12, 13, 14, 15, 16] _
        refine AR.run rfl rfl ?_
        refine AO.ops rfl rfl (opS_move (av := .v _) rfl) ?_
        refine AR.run rfl rfl ?_
        refine AO.ops rfl rfl (opS_eqi rfl rfl) ?_
        refine AR.run rfl rfl ?_
        refine AO.ops rfl rfl (opS_move (av := .v _) rfl) ?_
        refine AR.guard rfl rfl rfl rfl rfl (fun g2 => ?_) (fun g2 d hd => ?_) (fun h => by cases h)
        ·
          have g2p := g2; try simp only [decide_eq_true_eq, decide_eq_false_iff_not, Bool.not_eq_true', Bool.not_eq_false', Bool.not_true, Bool.not_false, Bool.not_eq_eq_eq_not] at g2p
          refine AO.ops rfl rfl (opS_move (av := .v _) rfl) ?_
          refine AR.guard rfl rfl rfl rfl rfl (fun _ => ?_) (fun hx => bool_no g2 hx) (fun h => by cases h)
          refine AO.ops rfl rfl (opS_add rfl rfl ?h3) ?_
          (case h3 => (omega))
          refine AR.guard rfl rfl rfl rfl rfl (fun _ => ?_) (fun hx => bool_no g2 hx) (fun h => by cases h)
          first | (refine AO.ops rfl rfl (opS_move (av := slE _ _ _) rfl) ?_) | (refine AO.ops rfl rfl (opS_move (av := .v _) rfl) ?_) | (refine AO.ops rfl rfl (opS_move (av := .vw _ _ _ _) rfl) ?_)
          refine AR.guard rfl rfl rfl rfl rfl (fun _ => ?_) (fun hx => bool_no g2 hx) (fun h => by cases h)
          first | (refine AO.ops rfl rfl (opS_len_sl Try.underlying22 rfl) ?_) | (refine AO.ops rfl rfl (opS_len_nil Try.underlying22 rfl) ?_)
          refine AR.guard rfl rfl rfl rfl rfl (fun _ => ?_) (fun hx => bool_no g2 hx) (fun h => by cases h)
          refine AO.ops rfl rfl (opS_lt rfl rfl) ?_
          refine AR.run rfl rfl ?_
          refine AO.ops rfl rfl (opS_pick_t (av := .v _) rfl g2 rfl) ?_
          refine AR.run rfl rfl ?_
          refine AO.ops rfl rfl (opS_move (av := .v _) rfl) ?_
          refine AR.guard rfl rfl rfl rfl rfl (fun g3 => ?_) (fun g3 d hd => ?_) (fun h => by cases h)
          ·
            have g3p := g3; try simp only [decide_eq_true_eq, decide_eq_false_iff_not, Bool.not_eq_true', Bool.not_eq_false', Bool.not_true, Bool.not_false, Bool.not_eq_eq_eq_not] at g3p
            first | (refine AO.ops rfl rfl (opS_move (av := slE _ _ _) rfl) ?_) | (refine AO.ops rfl rfl (opS_move (av := .v _) rfl) ?_) | (refine AO.ops rfl rfl (opS_move (av := .vw _ _ _ _) rfl) ?_)
            refine AR.guard rfl rfl rfl rfl rfl (fun _ => ?_) (fun hx => bool_no g3 hx) (fun h => by cases h)
            refine AO.ops rfl rfl (opS_move (av := .v _) rfl) ?_
            refine AR.guard rfl rfl rfl rfl rfl (fun _ => ?_) (fun hx => bool_no g3 hx) (fun h => by cases h)
            refine AO.ops rfl rfl (opS_add rfl rfl ?h5) ?_
            (case h5 => (omega))
            refine AR.guard rfl rfl rfl rfl rfl (fun _ => ?_) (fun hx => bool_no g3 hx) (fun h => by cases h)
            refine AO.ops rfl rfl (opS_indexAddr_lt (m := i + 1) Try.underlying22 (by kernel_rfl) rfl rfl ?h6 ?h7) ?_
            (case h6 => (omega))
            (case h7 => (omega))
            refine AR.guard rfl rfl rfl rfl rfl (fun _ => ?_) (fun hx => bool_no g3 hx) (fun h => by cases h)
            first | refine AO.ops rfl rfl (opS_load_cp Try.underlying5 rfl rfl) ?_ | refine AO.op rfl rfl (opR_load_pt (i := 0) Try.underlying5 rfl rfl rfl rfl) ?_ | refine AO.op rfl rfl (opR_load_pt (i := 1) Try.underlying5 rfl rfl rfl rfl) ?_ | refine AO.op rfl rfl (opR_load_pt (i := 2) Try.underlying5 rfl rfl rfl rfl) ?_ | refine AO.op rfl rfl (opR_load_pt (i := 3) Try.underlying5 rfl rfl rfl rfl) ?_
            refine AR.guard rfl rfl rfl rfl rfl (fun _ => ?_) (fun hx => bool_no g3 hx) (fun h => by cases h)
            refine AO.ops rfl rfl (opS_eqi rfl rfl) ?_
            refine AR.run rfl rfl ?_
            refine AO.ops rfl rfl (opS_pick_t (av := .v _) rfl g3 rfl) ?_
            refine AR.nil ?_
            -- END 1 (cut6)
            refine ⟨(), ?_, ?_⟩
            · trivial
            · refine WK.env (Env.le.cons ?_ (Env.le.cons ?_ (Env.le.cons ?_ (Env.le.cons ?_ (Env.le.cons ?_ (Env.le.nil _)))))) ?_
              all_goals first | exact Sub.refl _ | exact Sub.nil _ | ((repeat (first | exact Sub.refl _ | exact Sub.nil _ | refine Sub.cons _ ?_ | refine Sub.skip _ ?_)); done) | exact Wv.refl _ | exact Wv.any _ | exact Wv.tok _ _ _ | exact Wv.nil _ | (refine Wv.of_eq ?_; first | rfl | exact i64_congr (by omega) | (refine B_congr ?_; rw [Bool.eq_iff_iff]; (first | rw [Qp.nxt_in b (i + 1) (by omega)] | rw [Qp.nxt_out b (i + 1) (by omega)] | skip); simp; try omega))
          ·
            cases hd; refine ⟨rfl, ?_⟩
            have g3p := g3; try simp only [decide_eq_true_eq, decide_eq_false_iff_not, Bool.not_eq_true', Bool.not_eq_false', Bool.not_true, Bool.not_false, Bool.not_eq_eq_eq_not] at g3p
            refine AR.guard rfl rfl rfl rfl rfl (fun hx => bool_no hx g3) (fun _ d hd => ?_) (fun h => by cases h)
            cases hd; refine ⟨rfl, ?_⟩
            refine AR.guard rfl rfl rfl rfl rfl (fun hx => bool_no hx g3) (fun _ d hd => ?_) (fun h => by cases h)
            cases hd; refine ⟨rfl, ?_⟩
            refine AR.guard rfl rfl rfl rfl rfl (fun hx => bool_no hx g3) (fun _ d hd => ?_) (fun h => by cases h)
            cases hd; refine ⟨rfl, ?_⟩
            refine AR.guard rfl rfl rfl rfl rfl (fun hx => bool_no hx g3) (fun _ d hd => ?_) (fun h => by cases h)
            cases hd; refine ⟨rfl, ?_⟩
            refine AR.guard rfl rfl rfl rfl rfl (fun hx => bool_no hx g3) (fun _ d hd => ?_) (fun h => by cases h)
            cases hd; refine ⟨rfl, ?_⟩
            refine AR.run rfl rfl ?_
            refine AO.ops rfl rfl (opS_pick_f (av := .v _) rfl g3 rfl) ?_
            refine AR.nil ?_
            -- END 2 (cut6)
            refine ⟨(), ?_, ?_⟩
            · trivial
            · refine WK.env (Env.le.cons ?_ (Env.le.cons ?_ (Env.le.cons ?_ (Env.le.cons ?_ (Env.le.cons ?_ (Env.le.nil _)))))) ?_
              all_goals first | exact Sub.refl _ | exact Sub.nil _ | ((repeat (first | exact Sub.refl _ | exact Sub.nil _ | refine Sub.cons _ ?_ | refine Sub.skip _ ?_)); done) | exact Wv.refl _ | exact Wv.any _ | exact Wv.tok _ _ _ | exact Wv.nil _ | (refine Wv.of_eq ?_; first | rfl | exact i64_congr (by omega) | (refine B_congr ?_; rw [Bool.eq_iff_iff]; (first | rw [Qp.nxt_in b (i + 1) (by omega)] | rw [Qp.nxt_out b (i + 1) (by omega)] | skip); simp; try omega))
        ·
          cases hd; refine ⟨rfl, ?_⟩
          have g2p := g2; try simp only [decide_eq_true_eq, decide_eq_false_iff_not, Bool.not_eq_true', Bool.not_eq_false', Bool.not_true, Bool.not_false, Bool.not_eq_eq_eq_not] at g2p
          refine AR.guard rfl rfl rfl rfl rfl (fun hx => bool_no hx g2) (fun _ d hd => ?_) (fun h => by cases h)
          cases hd; refine ⟨rfl, ?_⟩
          refine AR.guard rfl rfl rfl rfl rfl (fun hx => bool_no hx g2) (fun _ d hd => ?_) (fun h => by cases h)
          cases hd; refine ⟨rfl, ?_⟩
          refine AR.guard rfl rfl rfl rfl rfl (fun hx => bool_no hx g2) (fun _ d hd => ?_) (fun h => by cases h)
          cases hd; refine ⟨rfl, ?_⟩
          refine AR.guard rfl rfl rfl rfl rfl (fun hx => bool_no hx g2) (fun _ d hd => ?_) (fun h => by cases h)
          cases hd; refine ⟨rfl, ?_⟩
          refine AR.run rfl rfl ?_
          refine AO.ops rfl rfl (opS_pick_f (av := .v _) rfl g2 rfl) ?_
          refine AR.run rfl rfl ?_
          refine AO.ops rfl rfl (opS_move (av := .v _) rfl) ?_
          refine AR.guard rfl rfl rfl rfl rfl (fun hx => bool_no hx (rfl : false = false)) (fun _ d hd => ?_) (fun h => by cases h)
          cases hd; refine ⟨rfl, ?_⟩
          refine AR.guard rfl rfl rfl rfl rfl (fun hx => bool_no hx (rfl : false = false)) (fun _ d hd => ?_) (fun h => by cases h)
          cases hd; refine ⟨rfl, ?_⟩
          refine AR.guard rfl rfl rfl rfl rfl (fun hx => bool_no hx (rfl : false = false)) (fun _ d hd => ?_) (fun h => by cases h)
          cases hd; refine ⟨rfl, ?_⟩
          refine AR.guard rfl rfl rfl rfl rfl (fun hx => bool_no hx (rfl : false = false)) (fun _ d hd => ?_) (fun h => by cases h)
          cases hd; refine ⟨rfl, ?_⟩
          refine AR.guard rfl rfl rfl rfl rfl (fun hx => bool_no hx (rfl : false = false)) (fun _ d hd => ?_) (fun h => by cases h)
          cases hd; refine ⟨rfl, ?_⟩
          refine AR.guard rfl rfl rfl rfl rfl (fun hx => bool_no hx (rfl : false = false)) (fun _ d hd => ?_) (fun h => by cases h)
          cases hd; refine ⟨rfl, ?_⟩
          refine AR.run rfl rfl ?_
          refine AO.ops rfl rfl (opS_pick_f (av := .v _) rfl (rfl : false = false) rfl) ?_
          refine AR.nil ?_
          -- END 3 (cut6)
          refine ⟨(), ?_, ?_⟩
          · trivial
          · refine WK.env (Env.le.cons ?_ (Env.le.cons ?_ (Env.le.cons ?_ (Env.le.cons ?_ (Env.le.cons ?_ (Env.le.nil _)))))) ?_
            all_goals first | exact Sub.refl _ | exact Sub.nil _ | ((repeat (first | exact Sub.refl _ | exact Sub.nil _ | refine Sub.cons _ ?_ | refine Sub.skip _ ?_)); done) | exact Wv.refl _ | exact Wv.any _ | exact Wv.tok _ _ _ | exact Wv.nil _ | (refine Wv.of_eq ?_; first | rfl | exact i64_congr (by omega) | (refine B_congr ?_; rw [Bool.eq_iff_iff]; (first | rw [Qp.nxt_in b (i + 1) (by omega)] | rw [Qp.nxt_out b (i + 1) (by omega)] | skip); simp; try omega))
      · rintro _ _
        show AW _ _ _ _ _ _
        refine AW.cond rfl (fun c4 => ?_) (fun c4 => ?_)
        ·
          have c4p := c4; try simp only [decide_eq_true_eq, decide_eq_false_iff_not, Bool.not_eq_true', Bool.not_eq_false', Bool.not_true, Bool.not_false, Bool.not_eq_eq_eq_not] at c4p
          have hn : i + 1 < b.length := by by_cases hk : i + 1 < b.length; exact hk; have := Qp.nxt_out b (i + 1) hk; omega
          have htk := Qp.tokd_crlf b i (by omega) c4p
          refine AW.seq ?_
          refine AW.region ?_
          show AR _ _ _ _ _ [0, 1, 2, 3] _
          refine AR.run rfl rfl ?_
          first | (refine AO.ops rfl rfl (opS_move (av := slE _ _ _) rfl) ?_) | (refine AO.ops rfl rfl (opS_move (av := .v _) rfl) ?_) | (refine AO.ops rfl rfl (opS_move (av := .vw _ _ _ _) rfl) ?_)
          refine AR.run rfl rfl ?_
          refine AO.op rfl rfl (opR_buildE (E := Enc.byte) (bytes := 1) (xs := [.const (.int .u8 (10))]) (l := [(10)]) Try.underlying22 (by kernel_rfl) rfl rfl (by decide) rfl rfl) ?_
          refine AR.run rfl rfl ?_
          first | (refine AO.opx rfl rfl (opX_append (bytes := 1) 0 Try.underlying22 Try.underlying22 rfl (by kernel_rfl) rfl rfl rfl ?h10 ?h11) ?_; (case h10 => (first | omega | (simp; done) | (simp; omega))); (case h11 => (first | omega | (simp; done) | (simp; omega)))) | (refine AO.opx rfl rfl (opX_append (bytes := 1) 1 Try.underlying22 Try.underlying22 rfl (by kernel_rfl) rfl rfl rfl ?h12 ?h13) ?_; (case h12 => (first | omega | (simp; done) | (simp; omega))); (case h13 => (first | omega | (simp; done) | (simp; omega)))) | (refine AO.opx rfl rfl (opX_append (bytes := 1) 2 Try.underlying22 Try.underlying22 rfl (by kernel_rfl) rfl rfl rfl ?h14 ?h15) ?_; (case h14 => (first | omega | (simp; done) | (simp; omega))); (case h15 => (first | omega | (simp; done) | (simp; omega)))) | (refine AO.opx rfl rfl (opX_append (bytes := 1) 3 Try.underlying22 Try.underlying22 rfl (by kernel_rfl) rfl rfl rfl ?h16 ?h17) ?_; (case h16 => (first | omega | (simp; done) | (simp; omega))); (case h17 => (first | omega | (simp; done) | (simp; omega)))) | (refine AO.opx rfl rfl (opX_append (bytes := 1) 4 Try.underlying22 Try.underlying22 rfl (by kernel_rfl) rfl rfl rfl ?h18 ?h19) ?_; (case h18 => (first | omega | (simp; done) | (simp; omega))); (case h19 => (first | omega | (simp; done) | (simp; omega)))) | (refine AO.opx rfl rfl (opX_append_nil (bytes := 1) Try.underlying22 Try.underlying22 rfl (by kernel_rfl) rfl rfl ?h20 ?h21) ?_; (case h20 => (first | omega | (simp; done) | (simp; omega))); (case h21 => (first | omega | (simp; done) | (simp; omega))))
          rintro _ _ ⟨t38, rfl, rfl⟩
          refine AR.run rfl rfl ?_
          first | (refine AO.ops rfl rfl (opS_assign (av := slE _ _ _) rfl) ?_) | (refine AO.ops rfl rfl (opS_assign (av := .v _) rfl) ?_) | (refine AO.ops rfl rfl (opS_assign (av := .vw _ _ _ _) rfl) ?_)
          refine AR.nil ?_
          show AW _ _ _ _ _ _
          refine AW.seq ?_
          refine AW.region ?_
          show AR _ _ _ _ _ [0, 1, 2] _
          refine AR.run rfl rfl ?_
          refine AO.ops rfl rfl (opS_move (av := .v _) rfl) ?_
          refine AR.run rfl rfl ?_
          refine AO.ops rfl rfl (opS_add rfl rfl ?h23) ?_
          (case h23 => (omega))
          refine AR.run rfl rfl ?_
          refine AO.ops rfl rfl (opS_assign (av := .v _) rfl) ?_
          refine AR.nil ?_
          show AW _ _ _ _ _ _
          refine AW.exit ?_
          show AW _ _ _ _ _ _
          refine AW.region ?_
          show AR _ _ _ _ _ [0, 1, 2] _
          refine AR.run rfl rfl ?_
          refine AO.ops rfl rfl (opS_move (av := .v _) rfl) ?_
          refine AR.run rfl rfl ?_
          refine AO.ops rfl rfl (opS_add rfl rfl ?h25) ?_
          (case h25 => (omega))
          refine AR.run rfl rfl ?_
          refine AO.ops rfl rfl (opS_assign (av := .v _) rfl) ?_
          refine AR.nil ?_
          -- END 4 (loop1)
          refine ⟨(i + 2, out ++ [10], t38), ?_, ?_, ?_⟩
          · refine ⟨by omega, by (try simp); omega, ?_⟩
            have := Qp.decode_ond (by omega) h3 htk
            simpa using this
          · (try simp only []); omega
          · refine WK.env (Env.le.cons ?_ (Env.le.cons ?_ (Env.le.cons ?_ (Env.le.nil _)))) ?_
            all_goals first | exact Sub.refl _ | exact Sub.nil _ | ((repeat (first | exact Sub.refl _ | exact Sub.nil _ | refine Sub.cons _ ?_ | refine Sub.skip _ ?_)); done) | exact Wv.refl _ | exact Wv.any _ | exact Wv.tok _ _ _ | exact Wv.nil _ | (refine Wv.of_eq ?_; first | rfl | exact i64_congr (by omega) | (simp))
        ·
          have c4p := c4; try simp only [decide_eq_true_eq, decide_eq_false_iff_not, Bool.not_eq_true', Bool.not_eq_false', Bool.not_true, Bool.not_false, Bool.not_eq_eq_eq_not] at c4p
          refine AW.skip ?_
          show AW _ _ _ _ _ _
          refine AW.seq ?_
          refine AW.seq ?_
          refine AW.region ?_
          show AR _ _ _ _ _ [0, 1] _
          refine AR.run rfl rfl ?_
          refine AO.ops rfl rfl (opS_move (av := .v _) rfl) ?_
          refine AR.run rfl rfl ?_
          refine AO.ops rfl rfl (opS_nei rfl rfl) ?_
          refine AR.nil ?_
          show AW _ _ _ _ _ _
          refine AW.cond rfl (fun c5 => ?_) (fun c5 => ?_)
          ·
            have c5p := c5; try simp only [decide_eq_true_eq, decide_eq_false_iff_not, Bool.not_eq_true', Bool.not_eq_false', Bool.not_true, Bool.not_false, Bool.not_eq_eq_eq_not] at c5p
            refine AW.seq ?_
            refine AW.cut (X := Unit) (fun _ => ⟨[(0, slE Enc.byte b tb), (4, slE Enc.byte out (some t)), (5, i64 i), (6, u8 b[i]), (52, B (decide (¬(b[i].toNat = 9 ∨ (32 ≤ b[i].toNat ∧ b[i].toNat ≤ 126)))))], [], [.tok t]⟩) (fun _ => True) ?_ ?_
            ·
              refine AW.region ?_
              show AR _ _ _ _ _ [0, 1, 2, 3, 4, 5, 6, 7, 8, 9] _
              refine AR.run rfl rfl ?_
              refine AO.ops rfl rfl (opS_move (av := .v _) rfl) ?_
              refine AR.run rfl rfl ?_
              refine AO.ops rfl rfl (opS_nei rfl rfl) ?_
              refine AR.run rfl rfl ?_
              refine AO.ops rfl rfl (opS_move (av := .v _) rfl) ?_
              refine AR.guard rfl rfl rfl rfl rfl (fun g6 => ?_) (fun g6 d hd => ?_) (fun h => by cases h)
              ·
                have g6p := g6; try simp only [decide_eq_true_eq, decide_eq_false_iff_not, Bool.not_eq_true', Bool.not_eq_false', Bool.not_true, Bool.not_false, Bool.not_eq_eq_eq_not] at g6p
                refine AO.ops rfl rfl (opS_move (av := .v _) rfl) ?_
                refine AR.guard rfl rfl rfl rfl rfl (fun _ => ?_) (fun hx => bool_no g6 hx) (fun h => by cases h)
                refine AO.ops rfl rfl (opS_lt rfl rfl) ?_
                refine AR.guard rfl rfl rfl rfl rfl (fun _ => ?_) (fun hx => bool_no g6 hx) (fun h => by cases h)
                refine AO.ops rfl rfl (opS_move (av := .v _) rfl) ?_
                refine AR.guard rfl rfl rfl rfl rfl (fun g7 => ?_) (fun g7 d hd => ?_) (fun h => by cases h)
                ·
                  have g7p := g7; try simp only [decide_eq_true_eq, decide_eq_false_iff_not, Bool.not_eq_true', Bool.not_eq_false', Bool.not_true, Bool.not_false, Bool.not_eq_eq_eq_not] at g7p
                  refine AO.ops rfl rfl (opS_move (av := .v _) rfl) ?_
                  refine AR.guard rfl rfl rfl rfl rfl (fun _ => ?_) (fun hx => bool_no hx g7) (fun h => by cases h)
                  refine AO.ops rfl rfl (opS_gt rfl rfl) ?_
                  refine AR.guard rfl rfl rfl rfl rfl (fun _ => ?_) (fun hx => bool_no g6 hx) (fun h => by cases h)
                  refine AO.ops rfl rfl (opS_pick_f (av := .v _) rfl g7 rfl) ?_
                  refine AR.run rfl rfl ?_
                  refine AO.ops rfl rfl (opS_pick_t (av := .v _) rfl g6 rfl) ?_
                  refine AR.nil ?_
                  -- END 5 (cut10)
                  refine ⟨(), ?_, ?_⟩
                  · trivial
                  · refine WK.env (Env.le.cons ?_ (Env.le.cons ?_ (Env.le.cons ?_ (Env.le.cons ?_ (Env.le.cons ?_ (Env.le.nil _)))))) ?_
                    all_goals first | exact Sub.refl _ | exact Sub.nil _ | ((repeat (first | exact Sub.refl _ | exact Sub.nil _ | refine Sub.cons _ ?_ | refine Sub.skip _ ?_)); done) | exact Wv.refl _ | exact Wv.any _ | exact Wv.tok _ _ _ | exact Wv.nil _ | (refine Wv.of_eq ?_; first | rfl | exact i64_congr (by omega) | (refine B_congr ?_; rw [Bool.eq_iff_iff]; (first | rw [Qp.nxt_in b (i + 1) (by omega)] | rw [Qp.nxt_out b (i + 1) (by omega)] | skip); simp; try omega))
                ·
                  cases hd; refine ⟨rfl, ?_⟩
                  have g7p := g7; try simp only [decide_eq_true_eq, decide_eq_false_iff_not, Bool.not_eq_true', Bool.not_eq_false', Bool.not_true, Bool.not_false, Bool.not_eq_eq_eq_not] at g7p
                  refine AR.guard rfl rfl rfl rfl rfl (fun hx => bool_no g7 hx) (fun _ d hd => ?_) (fun h => by cases h)
                  cases hd; refine ⟨rfl, ?_⟩
                  refine AR.guard rfl rfl rfl rfl rfl (fun _ => ?_) (fun hx => bool_no g6 hx) (fun h => by cases h)
                  refine AO.ops rfl rfl (opS_pick_t (av := .v _) rfl g7 rfl) ?_
                  refine AR.run rfl rfl ?_
                  refine AO.ops rfl rfl (opS_pick_t (av := .v _) rfl g6 rfl) ?_
                  refine AR.nil ?_
                  -- END 6 (cut10)
                  refine ⟨(), ?_, ?_⟩
                  · trivial
                  · refine WK.env (Env.le.cons ?_ (Env.le.cons ?_ (Env.le.cons ?_ (Env.le.cons ?_ (Env.le.cons ?_ (Env.le.nil _)))))) ?_
                    all_goals first | exact Sub.refl _ | exact Sub.nil _ | ((repeat (first | exact Sub.refl _ | exact Sub.nil _ | refine Sub.cons _ ?_ | refine Sub.skip _ ?_)); done) | exact Wv.refl _ | exact Wv.any _ | exact Wv.tok _ _ _ | exact Wv.nil _ | (refine Wv.of_eq ?_; first | rfl | exact i64_congr (by omega) | (refine B_congr ?_; rw [Bool.eq_iff_iff]; (first | rw [Qp.nxt_in b (i + 1) (by omega)] | rw [Qp.nxt_out b (i + 1) (by omega)] | skip); simp; try omega))
              ·
                cases hd; refine ⟨rfl, ?_⟩
                have g6p := g6; try simp only [decide_eq_true_eq, decide_eq_false_iff_not, Bool.not_eq_true', Bool.not_eq_false', Bool.not_true, Bool.not_false, Bool.not_eq_eq_eq_not] at g6p
                refine AR.guard rfl rfl rfl rfl rfl (fun hx => bool_no hx g6) (fun _ d hd => ?_) (fun h => by cases h)
                cases hd; refine ⟨rfl, ?_⟩
                refine AR.guard rfl rfl rfl rfl rfl (fun hx => bool_no hx g6) (fun _ d hd => ?_) (fun h => by cases h)
                cases hd; refine ⟨rfl, ?_⟩
                refine AR.guard_u rfl rfl rfl rfl rfl (fun d hd => ?_) (fun h => by cases h)
                cases hd; refine ⟨rfl, ?_⟩
                refine AR.guard_u rfl rfl rfl rfl rfl (fun d hd => ?_) (fun h => by cases h)
                cases hd; refine ⟨rfl, ?_⟩
                refine AR.guard rfl rfl rfl rfl rfl (fun hx => bool_no hx g6) (fun _ d hd => ?_) (fun h => by cases h)
                cases hd; refine ⟨rfl, ?_⟩
                refine AR.run rfl rfl ?_
                refine AO.ops rfl rfl (opS_pick_f (av := .v _) rfl g6 rfl) ?_
                refine AR.nil ?_
                -- END 7 (cut10)
                refine ⟨(), ?_, ?_⟩
                · trivial
                · refine WK.env (Env.le.cons ?_ (Env.le.cons ?_ (Env.le.cons ?_ (Env.le.cons ?_ (Env.le.cons ?_ (Env.le.nil _)))))) ?_
                  all_goals first | exact Sub.refl _ | exact Sub.nil _ | ((repeat (first | exact Sub.refl _ | exact Sub.nil _ | refine Sub.cons _ ?_ | refine Sub.skip _ ?_)); done) | exact Wv.refl _ | exact Wv.any _ | exact Wv.tok _ _ _ | exact Wv.nil _ | (refine Wv.of_eq ?_; first | rfl | exact i64_congr (by omega) | (refine B_congr ?_; rw [Bool.eq_iff_iff]; (first | rw [Qp.nxt_in b (i + 1) (by omega)] | rw [Qp.nxt_out b (i + 1) (by omega)] | skip); simp; try omega))
            · rintro _ _
              show AW _ _ _ _ _ _
              refine AW.cond rfl (fun c8 => ?_) (fun c8 => ?_)
              ·
                have c8p := c8; try simp only [decide_eq_true_eq, decide_eq_false_iff_not, Bool.not_eq_true', Bool.not_eq_false', Bool.not_true, Bool.not_false, Bool.not_eq_eq_eq_not] at c8p
                have htk := Qp.tokd_bad b i (by omega) c4p (by omega) c8p
                refine AW.seq ?_
                refine AW.region ?_
                show AR _ _ _ _ _ [0, 1] _
                refine AR.run rfl rfl ?_
                refine AO.ops rfl rfl (opS_assign (av := .v _) rfl) ?_
                refine AR.run rfl rfl ?_
                refine AO.ops rfl rfl (opS_assign (av := .v _) rfl) ?_
                refine AR.nil ?_
                show AW _ _ _ _ _ _
                refine AW.ret ?_
                -- END 8 (ret)
                show RetPost _ _ _ _ .ret _
                rw [Qp.decode_noned (by omega) h3 htk]
                (refine ⟨rfl, _, _, ResV.twoW rfl ?_ ?_, ?_, ⟨rfl, rfl⟩⟩; all_goals first | exact Sub.refl _ | exact Sub.nil _ | ((repeat (first | exact Sub.refl _ | exact Sub.nil _ | refine Sub.cons _ ?_ | refine Sub.skip _ ?_)); done) | exact Wv.refl _ | exact Wv.tok _ _ _ | exact Wv.nil _)
              ·
                have c8p := c8; try simp only [decide_eq_true_eq, decide_eq_false_iff_not, Bool.not_eq_true', Bool.not_eq_false', Bool.not_true, Bool.not_false, Bool.not_eq_eq_eq_not] at c8p
                have htk := Qp.tokd_plain b i (by omega) (by omega) (by omega)
                refine AW.skip ?_
                show AW _ _ _ _ _ _
                refine AW.seq ?_
                refine AW.region ?_
                show AR _ _ _ _ _ [0, 1, 2, 3, 4] _
                refine AR.run rfl rfl ?_
                first | (refine AO.ops rfl rfl (opS_move (av := slE _ _ _) rfl) ?_) | (refine AO.ops rfl rfl (opS_move (av := .v _) rfl) ?_) | (refine AO.ops rfl rfl (opS_move (av := .vw _ _ _ _) rfl) ?_)
                refine AR.run rfl rfl ?_
                refine AO.ops rfl rfl (opS_move (av := .v _) rfl) ?_
                refine AR.run rfl rfl ?_
                refine AO.op rfl rfl (opR_buildE (E := Enc.byte) (bytes := 1) (xs := [.tmp 54]) (l := [_]) Try.underlying22 (by kernel_rfl) rfl rfl (by decide) rfl rfl) ?_
                refine AR.run rfl rfl ?_
                first | (refine AO.opx rfl rfl (opX_append (bytes := 1) 0 Try.underlying22 Try.underlying22 rfl (by kernel_rfl) rfl rfl rfl ?h28 ?h29) ?_; (case h28 => (first | omega | (simp; done) | (simp; omega))); (case h29 => (first | omega | (simp; done) | (simp; omega)))) | (refine AO.opx rfl rfl (opX_append (bytes := 1) 1 Try.underlying22 Try.underlying22 rfl (by kernel_rfl) rfl rfl rfl ?h30 ?h31) ?_; (case h30 => (first | omega | (simp; done) | (simp; omega))); (case h31 => (first | omega | (simp; done) | (simp; omega)))) | (refine AO.opx rfl rfl (opX_append (bytes := 1) 2 Try.underlying22 Try.underlying22 rfl (by kernel_rfl) rfl rfl rfl ?h32 ?h33) ?_; (case h32 => (first | omega | (simp; done) | (simp; omega))); (case h33 => (first | omega | (simp; done) | (simp; omega)))) | (refine AO.opx rfl rfl (opX_append (bytes := 1) 3 Try.underlying22 Try.underlying22 rfl (by kernel_rfl) rfl rfl rfl ?h34 ?h35) ?_; (case h34 => (first | omega | (simp; done) | (simp; omega))); (case h35 => (first | omega | (simp; done) | (simp; omega)))) | (refine AO.opx rfl rfl (opX_append (bytes := 1) 4 Try.underlying22 Try.underlying22 rfl (by kernel_rfl) rfl rfl rfl ?h36 ?h37) ?_; (case h36 => (first | omega | (simp; done) | (simp; omega))); (case h37 => (first | omega | (simp; done) | (simp; omega)))) | (refine AO.opx rfl rfl (opX_append_nil (bytes := 1) Try.underlying22 Try.underlying22 rfl (by kernel_rfl) rfl rfl ?h38 ?h39) ?_; (case h38 => (first | omega | (simp; done) | (simp; omega))); (case h39 => (first | omega | (simp; done) | (simp; omega))))
                rintro _ _ ⟨t56, rfl, rfl⟩
                refine AR.run rfl rfl ?_
                first | (refine AO.ops rfl rfl (opS_assign (av := slE _ _ _) rfl) ?_) | (refine AO.ops rfl rfl (opS_assign (av := .v _) rfl) ?_) | (refine AO.ops rfl rfl (opS_assign (av := .vw _ _ _ _) rfl) ?_)
                refine AR.nil ?_
                show AW _ _ _ _ _ _
                refine AW.exit ?_
                show AW _ _ _ _ _ _
                refine AW.region ?_
                show AR _ _ _ _ _ [0, 1, 2] _
                refine AR.run rfl rfl ?_
                refine AO.ops rfl rfl (opS_move (av := .v _) rfl) ?_
                refine AR.run rfl rfl ?_
                refine AO.ops rfl rfl (opS_add rfl rfl ?h41) ?_
                (case h41 => (omega))
                refine AR.run rfl rfl ?_
                refine AO.ops rfl rfl (opS_assign (av := .v _) rfl) ?_
                refine AR.nil ?_
                -- END 9 (loop1)
                refine ⟨(i + 1, out ++ [b[i]], t56), ?_, ?_, ?_⟩
                · refine ⟨by omega, by (try simp); omega, ?_⟩
                  have := Qp.decode_ond (by omega) h3 htk
                  simpa using this
                · (try simp only []); omega
                · refine WK.env (Env.le.cons ?_ (Env.le.cons ?_ (Env.le.cons ?_ (Env.le.nil _)))) ?_
                  all_goals first | exact Sub.refl _ | exact Sub.nil _ | ((repeat (first | exact Sub.refl _ | exact Sub.nil _ | refine Sub.cons _ ?_ | refine Sub.skip _ ?_)); done) | exact Wv.refl _ | exact Wv.any _ | exact Wv.tok _ _ _ | exact Wv.nil _ | (refine Wv.of_eq ?_; first | rfl | exact i64_congr (by omega) | (simp))
          ·
            have c5p := c5; try simp only [decide_eq_true_eq, decide_eq_false_iff_not, Bool.not_eq_true', Bool.not_eq_false', Bool.not_true, Bool.not_false, Bool.not_eq_eq_eq_not] at c5p
            refine AW.skip ?_
            show AW _ _ _ _ _ _
            refine AW.seq ?_
            refine AW.seq ?_
            refine AW.region ?_
            show AR _ _ _ _ _ [0, 1, 2, 3, 4] _
            refine AR.run rfl rfl ?_
            refine AO.ops rfl rfl (opS_move (av := .v _) rfl) ?_
            refine AR.run rfl rfl ?_
            refine AO.ops rfl rfl (opS_add rfl rfl ?h43) ?_
            (case h43 => (omega))
            refine AR.run rfl rfl ?_
            first | (refine AO.ops rfl rfl (opS_move (av := slE _ _ _) rfl) ?_) | (refine AO.ops rfl rfl (opS_move (av := .v _) rfl) ?_) | (refine AO.ops rfl rfl (opS_move (av := .vw _ _ _ _) rfl) ?_)
            refine AR.run rfl rfl ?_
            first | (refine AO.ops rfl rfl (opS_len_sl Try.underlying22 rfl) ?_) | (refine AO.ops rfl rfl (opS_len_nil Try.underlying22 rfl) ?_)
            refine AR.run rfl rfl ?_
            refine AO.ops rfl rfl (opS_ge rfl rfl) ?_
            refine AR.nil ?_
            show AW _ _ _ _ _ _
            refine AW.cond rfl (fun c9 => ?_) (fun c9 => ?_)
            ·
              have c9p := c9; try simp only [decide_eq_true_eq, decide_eq_false_iff_not, Bool.not_eq_true', Bool.not_eq_false', Bool.not_true, Bool.not_false, Bool.not_eq_eq_eq_not] at c9p
              have htk := Qp.tokd_short b i (by omega) (by omega) (by omega)
              refine AW.seq ?_
              refine AW.region ?_
              show AR _ _ _ _ _ [0, 1] _
              refine AR.run rfl rfl ?_
              refine AO.ops rfl rfl (opS_assign (av := .v _) rfl) ?_
              refine AR.run rfl rfl ?_
              refine AO.ops rfl rfl (opS_assign (av := .v _) rfl) ?_
              refine AR.nil ?_
              show AW _ _ _ _ _ _
              refine AW.ret ?_
              -- END 10 (ret)
              show RetPost _ _ _ _ .ret _
              rw [Qp.decode_noned (by omega) h3 htk]
              (refine ⟨rfl, _, _, ResV.twoW rfl ?_ ?_, ?_, ⟨rfl, rfl⟩⟩; all_goals first | exact Sub.refl _ | exact Sub.nil _ | ((repeat (first | exact Sub.refl _ | exact Sub.nil _ | refine Sub.cons _ ?_ | refine Sub.skip _ ?_)); done) | exact Wv.refl _ | exact Wv.tok _ _ _ | exact Wv.nil _)
            ·
              have c9p := c9; try simp only [decide_eq_true_eq, decide_eq_false_iff_not, Bool.not_eq_true', Bool.not_eq_false', Bool.not_true, Bool.not_false, Bool.not_eq_eq_eq_not] at c9p
              have hi2 : i + 2 < b.length := by omega
              have hd1 := dgI_bounds b[i + 1]
              have hd2 := dgI_bounds b[i + 2]
              refine AW.skip ?_
              show AW _ _ _ _ _ _
              refine AW.seq ?_
              refine AW.region ?_
              show AR _ _ _ _ _ [0, 1, 2, 3, 4, 5, 6] _
              refine AR.run rfl rfl ?_
              first | (refine AO.ops rfl rfl (opS_move (av := slE _ _ _) rfl) ?_) | (refine AO.ops rfl rfl (opS_move (av := .v _) rfl) ?_) | (refine AO.ops rfl rfl (opS_move (av := .vw _ _ _ _) rfl) ?_)
              refine AR.run rfl rfl ?_
              refine AO.ops rfl rfl (opS_move (av := .v _) rfl) ?_
              refine AR.run rfl rfl ?_
              refine AO.ops rfl rfl (opS_add rfl rfl ?h45) ?_
              (case h45 => (omega))
              refine AR.run rfl rfl ?_
              refine AO.ops rfl rfl (opS_indexAddr_lt (m := i + 1) Try.underlying22 (by kernel_rfl) rfl rfl ?h46 ?h47) ?_
              (case h46 => (omega))
              (case h47 => (omega))
              refine AR.run rfl rfl ?_
              first | refine AO.ops rfl rfl (opS_load_cp Try.underlying5 rfl rfl) ?_ | refine AO.op rfl rfl (opR_load_pt (i := 0) Try.underlying5 rfl rfl rfl rfl) ?_ | refine AO.op rfl rfl (opR_load_pt (i := 1) Try.underlying5 rfl rfl rfl rfl) ?_ | refine AO.op rfl rfl (opR_load_pt (i := 2) Try.underlying5 rfl rfl rfl rfl) ?_ | refine AO.op rfl rfl (opR_load_pt (i := 3) Try.underlying5 rfl rfl rfl rfl) ?_
              refine AR.run rfl rfl ?_
              refine AO.callp rfl en16 rfl (ref_digit _) ?_
              refine AR.run rfl rfl ?_
              refine AO.ops rfl rfl (opS_assign (av := .v _) rfl) ?_
              refine AR.nil ?_
              show AW _ _ _ _ _ _
              refine AW.seq ?_
              refine AW.region ?_
              show AR _ _ _ _ _ [0, 1, 2, 3, 4, 5, 6] _
              refine AR.run rfl rfl ?_
              first | (refine AO.ops rfl rfl (opS_move (av := slE _ _ _) rfl) ?_) | (refine AO.ops rfl rfl (opS_move (av := .v _) rfl) ?_) | (refine AO.ops rfl rfl (opS_move (av := .vw _ _ _ _) rfl) ?_)
              refine AR.run rfl rfl ?_
              refine AO.ops rfl rfl (opS_move (av := .v _) rfl) ?_
              refine AR.run rfl rfl ?_
              refine AO.ops rfl rfl (opS_add rfl rfl ?h49) ?_
              (case h49 => (omega))
              refine AR.run rfl rfl ?_
              refine AO.ops rfl rfl (opS_indexAddr_lt (m := i + 2) Try.underlying22 (by kernel_rfl) rfl rfl ?h50 ?h51) ?_
              (case h50 => (omega))
              (case h51 => (omega))
              refine AR.run rfl rfl ?_
              first | refine AO.ops rfl rfl (opS_load_cp Try.underlying5 rfl rfl) ?_ | refine AO.op rfl rfl (opR_load_pt (i := 0) Try.underlying5 rfl rfl rfl rfl) ?_ | refine AO.op rfl rfl (opR_load_pt (i := 1) Try.underlying5 rfl rfl rfl rfl) ?_ | refine AO.op rfl rfl (opR_load_pt (i := 2) Try.underlying5 rfl rfl rfl rfl) ?_ | refine AO.op rfl rfl (opR_load_pt (i := 3) Try.underlying5 rfl rfl rfl rfl) ?_
              refine AR.run rfl rfl ?_
              refine AO.callp rfl en16 rfl (ref_digit _) ?_
              refine AR.run rfl rfl ?_
              refine AO.ops rfl rfl (opS_assign (av := .v _) rfl) ?_
              refine AR.nil ?_
              show AW _ _ _ _ _ _
              refine AW.seq ?_
              refine AW.cut (X := Unit) (fun _ => ⟨[(0, slE Enc.byte b tb), (4, slE Enc.byte out (some t)), (5, i64 i), (7, i64 (Qp.dgI b[i + 1])), (8, i64 (Qp.dgI b[i + 2])), (87, B (decide (b[i + 1].toNat = 13 ∧ b[i + 2].toNat = 10)))], [], [.tok t]⟩) (fun _ => True) ?_ ?_
              ·
                refine AW.region ?_
                show AR _ _ _ _ _ [0, 1, 2, 3, 4, 5, 6, 7, 8, 9, 10, 11, 12, 13] _
                refine AR.run rfl rfl ?_
                first | (refine AO.ops rfl rfl (opS_move (av := slE _ _ _) rfl) ?_) | (refine AO.ops rfl rfl (opS_move (av := .v _) rfl) ?_) | (refine AO.ops rfl rfl (opS_move (av := .vw _ _ _ _) rfl) ?_)
                refine AR.run rfl rfl ?_
                refine AO.ops rfl rfl (opS_move (av := .v _) rfl) ?_
                refine AR.run rfl rfl ?_
                refine AO.ops rfl rfl (opS_add rfl rfl ?h53) ?_
                (case h53 => (omega))
                refine AR.run rfl rfl ?_
                refine AO.ops rfl rfl (opS_indexAddr_lt (m := i + 1) Try.underlying22 (by kernel_rfl) rfl rfl ?h54 ?h55) ?_
                (case h54 => (omega))
                (case h55 => (omega))
                refine AR.run rfl rfl ?_
                first | refine AO.ops rfl rfl (opS_load_cp Try.underlying5 rfl rfl) ?_ | refine AO.op rfl rfl (opR_load_pt (i := 0) Try.underlying5 rfl rfl rfl rfl) ?_ | refine AO.op rfl rfl (opR_load_pt (i := 1) Try.underlying5 rfl rfl rfl rfl) ?_ | refine AO.op rfl rfl (opR_load_pt (i := 2) Try.underlying5 rfl rfl rfl rfl) ?_ | refine AO.op rfl rfl (opR_load_pt (i := 3) Try.underlying5 rfl rfl rfl rfl) ?_
                refine AR.run rfl rfl ?_
                refine AO.ops rfl rfl (opS_eqi rfl rfl) ?_
                refine AR.run rfl rfl ?_
                refine AO.ops rfl rfl (opS_move (av := .v _) rfl) ?_
                refine AR.guard rfl rfl rfl rfl rfl (fun g10 => ?_) (fun g10 d hd => ?_) (fun h => by cases h)
                ·
                  have g10p := g10; try simp only [decide_eq_true_eq, decide_eq_false_iff_not, Bool.not_eq_true', Bool.not_eq_false', Bool.not_true, Bool.not_false, Bool.not_eq_eq_eq_not] at g10p
                  first | (refine AO.ops rfl rfl (opS_move (av := slE _ _ _) rfl) ?_) | (refine AO.ops rfl rfl (opS_move (av := .v _) rfl) ?_) | (refine AO.ops rfl rfl (opS_move (av := .vw _ _ _ _) rfl) ?_)
                  refine AR.guard rfl rfl rfl rfl rfl (fun _ => ?_) (fun hx => bool_no g10 hx) (fun h => by cases h)
                  refine AO.ops rfl rfl (opS_move (av := .v _) rfl) ?_
                  refine AR.guard rfl rfl rfl rfl rfl (fun _ => ?_) (fun hx => bool_no g10 hx) (fun h => by cases h)
                  refine AO.ops rfl rfl (opS_add rfl rfl ?h57) ?_
                  (case h57 => (omega))
                  refine AR.guard rfl rfl rfl rfl rfl (fun _ => ?_) (fun hx => bool_no g10 hx) (fun h => by cases h)
                  refine AO.ops rfl rfl (opS_indexAddr_lt (m := i + 2) Try.underlying22 (by kernel_rfl) rfl rfl ?h58 ?h59) ?_
                  (case h58 => (omega))
                  (case h59 => (omega))
                  refine AR.guard rfl rfl rfl rfl rfl (fun _ => ?_) (fun hx => bool_no g10 hx) (fun h => by cases h)
                  first | refine AO.ops rfl rfl (opS_load_cp Try.underlying5 rfl rfl) ?_ | refine AO.op rfl rfl (opR_load_pt (i := 0) Try.underlying5 rfl rfl rfl rfl) ?_ | refine AO.op rfl rfl (opR_load_pt (i := 1) Try.underlying5 rfl rfl rfl rfl) ?_ | refine AO.op rfl rfl (opR_load_pt (i := 2) Try.underlying5 rfl rfl rfl rfl) ?_ | refine AO.op rfl rfl (opR_load_pt (i := 3) Try.underlying5 rfl rfl rfl rfl) ?_
                  refine AR.guard rfl rfl rfl rfl rfl (fun _ => ?_) (fun hx => bool_no g10 hx) (fun h => by cases h)
                  refine AO.ops rfl rfl (opS_eqi rfl rfl) ?_
                  refine AR.run rfl rfl ?_
                  refine AO.ops rfl rfl (opS_pick_t (av := .v _) rfl g10 rfl) ?_
                  refine AR.nil ?_
                  -- END 11 (cut17)
                  refine ⟨(), ?_, ?_⟩
                  · trivial
                  · refine WK.env (Env.le.cons ?_ (Env.le.cons ?_ (Env.le.cons ?_ (Env.le.cons ?_ (Env.le.cons ?_ (Env.le.cons ?_ (Env.le.nil _))))))) ?_
                    all_goals first | exact Sub.refl _ | exact Sub.nil _ | ((repeat (first | exact Sub.refl _ | exact Sub.nil _ | refine Sub.cons _ ?_ | refine Sub.skip _ ?_)); done) | exact Wv.refl _ | exact Wv.any _ | exact Wv.tok _ _ _ | exact Wv.nil _ | (refine Wv.of_eq ?_; first | rfl | exact i64_congr (by omega) | (refine B_congr ?_; rw [Bool.eq_iff_iff]; (first | rw [Qp.nxt_in b (i + 1) (by omega)] | rw [Qp.nxt_out b (i + 1) (by omega)] | skip); simp; try omega))
                ·
                  cases hd; refine ⟨rfl, ?_⟩
                  have g10p := g10; try simp only [decide_eq_true_eq, decide_eq_false_iff_not, Bool.not_eq_true', Bool.not_eq_false', Bool.not_true, Bool.not_false, Bool.not_eq_eq_eq_not] at g10p
                  refine AR.guard rfl rfl rfl rfl rfl (fun hx => bool_no hx g10) (fun _ d hd => ?_) (fun h => by cases h)
                  cases hd; refine ⟨rfl, ?_⟩
                  refine AR.guard rfl rfl rfl rfl rfl (fun hx => bool_no hx g10) (fun _ d hd => ?_) (fun h => by cases h)
                  cases hd; refine ⟨rfl, ?_⟩
                  refine AR.guard rfl rfl rfl rfl rfl (fun hx => bool_no hx g10) (fun _ d hd => ?_) (fun h => by cases h)
                  cases hd; refine ⟨rfl, ?_⟩
                  refine AR.guard rfl rfl rfl rfl rfl (fun hx => bool_no hx g10) (fun _ d hd => ?_) (fun h => by cases h)
                  cases hd; refine ⟨rfl, ?_⟩
                  refine AR.guard rfl rfl rfl rfl rfl (fun hx => bool_no hx g10) (fun _ d hd => ?_) (fun h => by cases h)
                  cases hd; refine ⟨rfl, ?_⟩
                  refine AR.run rfl rfl ?_
                  refine AO.ops rfl rfl (opS_pick_f (av := .v _) rfl g10 rfl) ?_
                  refine AR.nil ?_
                  -- END 12 (cut17)
                  refine ⟨(), ?_, ?_⟩
                  · trivial
                  · refine WK.env (Env.le.cons ?_ (Env.le.cons ?_ (Env.le.cons ?_ (Env.le.cons ?_ (Env.le.cons ?_ (Env.le.cons ?_ (Env.le.nil _))))))) ?_
                    all_goals first | exact Sub.refl _ | exact Sub.nil _ | ((repeat (first | exact Sub.refl _ | exact Sub.nil _ | refine Sub.cons _ ?_ | refine Sub.skip _ ?_)); done) | exact Wv.refl _ | exact Wv.any _ | exact Wv.tok _ _ _ | exact Wv.nil _ | (refine Wv.of_eq ?_; first | rfl | exact i64_congr (by omega) | (refine B_congr ?_; rw [Bool.eq_iff_iff]; (first | rw [Qp.nxt_in b (i + 1) (by omega)] | rw [Qp.nxt_out b (i + 1) (by omega)] | skip); simp; try omega))
              · rintro _ _
                show AW _ _ _ _ _ _
                refine AW.cond rfl (fun c11 => ?_) (fun c11 => ?_)
                ·
                  have c11p := c11; try simp only [decide_eq_true_eq, decide_eq_false_iff_not, Bool.not_eq_true', Bool.not_eq_false', Bool.not_true, Bool.not_false, Bool.not_eq_eq_eq_not] at c11p
                  have htk := Qp.tokd_soft b i hi2 (by omega) c11p
                  refine AW.seq ?_
                  refine AW.region ?_
                  show AR _ _ _ _ _ [0, 1, 2] _
                  refine AR.run rfl rfl ?_
                  refine AO.ops rfl rfl (opS_move (av := .v _) rfl) ?_
                  refine AR.run rfl rfl ?_
                  refine AO.ops rfl rfl (opS_add rfl rfl ?h61) ?_
                  (case h61 => (omega))
                  refine AR.run rfl rfl ?_
                  refine AO.ops rfl rfl (opS_assign (av := .v _) rfl) ?_
                  refine AR.nil ?_
                  show AW _ _ _ _ _ _
                  refine AW.exit ?_
                  show AW _ _ _ _ _ _
                  refine AW.region ?_
                  show AR _ _ _ _ _ [0, 1, 2] _
                  refine AR.run rfl rfl ?_
                  refine AO.ops rfl rfl (opS_move (av := .v _) rfl) ?_
                  refine AR.run rfl rfl ?_
                  refine AO.ops rfl rfl (opS_add rfl rfl ?h63) ?_
                  (case h63 => (omega))
                  refine AR.run rfl rfl ?_
                  refine AO.ops rfl rfl (opS_assign (av := .v _) rfl) ?_
                  refine AR.nil ?_
                  -- END 13 (loop1)
                  refine ⟨(i + 3, out, t), ?_, ?_, ?_⟩
                  · refine ⟨by omega, by (try simp); omega, ?_⟩
                    have := Qp.decode_ond (by omega) h3 htk
                    simpa using this
                  · (try simp only []); omega
                  · refine WK.env (Env.le.cons ?_ (Env.le.cons ?_ (Env.le.cons ?_ (Env.le.nil _)))) ?_
                    all_goals first | exact Sub.refl _ | exact Sub.nil _ | ((repeat (first | exact Sub.refl _ | exact Sub.nil _ | refine Sub.cons _ ?_ | refine Sub.skip _ ?_)); done) | exact Wv.refl _ | exact Wv.any _ | exact Wv.tok _ _ _ | exact Wv.nil _ | (refine Wv.of_eq ?_; first | rfl | exact i64_congr (by omega) | (simp))
                ·
                  have c11p := c11; try simp only [decide_eq_true_eq, decide_eq_false_iff_not, Bool.not_eq_true', Bool.not_eq_false', Bool.not_true, Bool.not_false, Bool.not_eq_eq_eq_not] at c11p
                  refine AW.skip ?_
                  show AW _ _ _ _ _ _
                  refine AW.seq ?_
                  refine AW.cut (X := Unit) (fun _ => ⟨[(0, slE Enc.byte b tb), (4, slE Enc.byte out (some t)), (5, i64 i), (7, i64 (Qp.dgI b[i + 1])), (8, i64 (Qp.dgI b[i + 2])), (95, B (decide (Qp.dgI b[i + 1] < 0 ∨ Qp.dgI b[i + 2] < 0)))], [], [.tok t]⟩) (fun _ => True) ?_ ?_
                  ·
                    refine AW.region ?_
                    show AR _ _ _ _ _ [0, 1, 2, 3, 4, 5] _
                    refine AR.run rfl rfl ?_
                    refine AO.ops rfl rfl (opS_move (av := .v _) rfl) ?_
                    refine AR.run rfl rfl ?_
                    refine AO.ops rfl rfl (opS_lt rfl rfl) ?_
                    refine AR.run rfl rfl ?_
                    refine AO.ops rfl rfl (opS_move (av := .v _) rfl) ?_
                    refine AR.guard rfl rfl rfl rfl rfl (fun g12 => ?_) (fun g12 d hd => ?_) (fun h => by cases h)
                    ·
                      have g12p := g12; try simp only [decide_eq_true_eq, decide_eq_false_iff_not, Bool.not_eq_true', Bool.not_eq_false', Bool.not_true, Bool.not_false, Bool.not_eq_eq_eq_not] at g12p
                      refine AO.ops rfl rfl (opS_move (av := .v _) rfl) ?_
                      refine AR.guard rfl rfl rfl rfl rfl (fun _ => ?_) (fun hx => bool_no hx g12) (fun h => by cases h)
                      refine AO.ops rfl rfl (opS_lt rfl rfl) ?_
                      refine AR.run rfl rfl ?_
                      refine AO.ops rfl rfl (opS_pick_f (av := .v _) rfl g12 rfl) ?_
                      refine AR.nil ?_
                      -- END 14 (cut19)
                      refine ⟨(), ?_, ?_⟩
                      · trivial
                      · refine WK.env (Env.le.cons ?_ (Env.le.cons ?_ (Env.le.cons ?_ (Env.le.cons ?_ (Env.le.cons ?_ (Env.le.cons ?_ (Env.le.nil _))))))) ?_
                        all_goals first | exact Sub.refl _ | exact Sub.nil _ | ((repeat (first | exact Sub.refl _ | exact Sub.nil _ | refine Sub.cons _ ?_ | refine Sub.skip _ ?_)); done) | exact Wv.refl _ | exact Wv.any _ | exact Wv.tok _ _ _ | exact Wv.nil _ | (refine Wv.of_eq ?_; first | rfl | exact i64_congr (by omega) | (refine B_congr ?_; rw [Bool.eq_iff_iff]; (first | rw [Qp.nxt_in b (i + 1) (by omega)] | rw [Qp.nxt_out b (i + 1) (by omega)] | skip); simp; try omega))
                    ·
                      cases hd; refine ⟨rfl, ?_⟩
                      have g12p := g12; try simp only [decide_eq_true_eq, decide_eq_false_iff_not, Bool.not_eq_true', Bool.not_eq_false', Bool.not_true, Bool.not_false, Bool.not_eq_eq_eq_not] at g12p
                      refine AR.guard rfl rfl rfl rfl rfl (fun hx => bool_no g12 hx) (fun _ d hd => ?_) (fun h => by cases h)
                      cases hd; refine ⟨rfl, ?_⟩
                      refine AR.run rfl rfl ?_
                      refine AO.ops rfl rfl (opS_pick_t (av := .v _) rfl g12 rfl) ?_
                      refine AR.nil ?_
                      -- END 15 (cut19)
                      refine ⟨(), ?_, ?_⟩
                      · trivial
                      · refine WK.env (Env.le.cons ?_ (Env.le.cons ?_ (Env.le.cons ?_ (Env.le.cons ?_ (Env.le.cons ?_ (Env.le.cons ?_ (Env.le.nil _))))))) ?_
                        all_goals first | exact Sub.refl _ | exact Sub.nil _ | ((repeat (first | exact Sub.refl _ | exact Sub.nil _ | refine Sub.cons _ ?_ | refine Sub.skip _ ?_)); done) | exact Wv.refl _ | exact Wv.any _ | exact Wv.tok _ _ _ | exact Wv.nil _ | (refine Wv.of_eq ?_; first | rfl | exact i64_congr (by omega) | (refine B_congr ?_; rw [Bool.eq_iff_iff]; (first | rw [Qp.nxt_in b (i + 1) (by omega)] | rw [Qp.nxt_out b (i + 1) (by omega)] | skip); simp; try omega))
                  · rintro _ _
                    show AW _ _ _ _ _ _
                    refine AW.cond rfl (fun c13 => ?_) (fun c13 => ?_)
                    ·
                      have c13p := c13; try simp only [decide_eq_true_eq, decide_eq_false_iff_not, Bool.not_eq_true', Bool.not_eq_false', Bool.not_true, Bool.not_false, Bool.not_eq_eq_eq_not] at c13p
                      have htk := Qp.tokd_nohex b i hi2 (by omega) c11p (by rw [dgI_neg, dgI_neg] at c13p; exact c13p)
                      refine AW.seq ?_
                      refine AW.region ?_
                      show AR _ _ _ _ _ [0, 1] _
                      refine AR.run rfl rfl ?_
                      refine AO.ops rfl rfl (opS_assign (av := .v _) rfl) ?_
                      refine AR.run rfl rfl ?_
                      refine AO.ops rfl rfl (opS_assign (av := .v _) rfl) ?_
                      refine AR.nil ?_
                      show AW _ _ _ _ _ _
                      refine AW.ret ?_
                      -- END 16 (ret)
                      show RetPost _ _ _ _ .ret _
                      rw [Qp.decode_noned (by omega) h3 htk]
                      (refine ⟨rfl, _, _, ResV.twoW rfl ?_ ?_, ?_, ⟨rfl, rfl⟩⟩; all_goals first | exact Sub.refl _ | exact Sub.nil _ | ((repeat (first | exact Sub.refl _ | exact Sub.nil _ | refine Sub.cons _ ?_ | refine Sub.skip _ ?_)); done) | exact Wv.refl _ | exact Wv.tok _ _ _ | exact Wv.nil _)
                    ·
                      have c13p := c13; try simp only [decide_eq_true_eq, decide_eq_false_iff_not, Bool.not_eq_true', Bool.not_eq_false', Bool.not_true, Bool.not_false, Bool.not_eq_eq_eq_not] at c13p
                      have hx : (Qp.dig b[i + 1]).isSome = true ∧ (Qp.dig b[i + 2]).isSome = true := by rw [dgI_neg, dgI_neg] at c13p; simpa [← Option.isSome_iff_ne_none] using c13p
                      have htk := Qp.tokd_hex b i hi2 (by omega) c11p hx.1 hx.2
                      refine AW.skip ?_
                      show AW _ _ _ _ _ _
                      refine AW.seq ?_
                      refine AW.region ?_
                      show AR _ _ _ _ _ [0, 1, 2, 3, 4, 5, 6, 7, 8] _
                      refine AR.run rfl rfl ?_
                      first | (refine AO.ops rfl rfl (opS_move (av := slE _ _ _) rfl) ?_) | (refine AO.ops rfl rfl (opS_move (av := .v _) rfl) ?_) | (refine AO.ops rfl rfl (opS_move (av := .vw _ _ _ _) rfl) ?_)
                      refine AR.run rfl rfl ?_
                      refine AO.ops rfl rfl (opS_move (av := .v _) rfl) ?_
                      refine AR.run rfl rfl ?_
                      refine AO.ops rfl rfl (opS_mul rfl rfl ?h65) ?_
                      (case h65 => (omega))
                      refine AR.run rfl rfl ?_
                      refine AO.ops rfl rfl (opS_move (av := .v _) rfl) ?_
                      refine AR.run rfl rfl ?_
                      refine AO.ops rfl rfl (opS_add rfl rfl ?h67) ?_
                      (case h67 => (omega))
                      refine AR.run rfl rfl ?_
                      refine AO.ops rfl rfl (OpS.eq (av' := u8 (UInt8.ofNat (16 * (Qp.dig b[i + 1]).getD 0 + (Qp.dig b[i + 2]).getD 0))) (opS_conv_int (k := .u8) (by kernel_rfl) (by kernel_rfl) rfl) ?h68) ?_
                      (case h68 => (exact hexU _ _ hx.1 hx.2))
                      refine AR.run rfl rfl ?_
                      refine AO.op rfl rfl (opR_buildE (E := Enc.byte) (bytes := 1) (xs := [.tmp 101]) (l := [_]) Try.underlying22 (by kernel_rfl) rfl rfl (by decide) rfl rfl) ?_
                      refine AR.run rfl rfl ?_
                      first | (refine AO.opx rfl rfl (opX_append (bytes := 1) 0 Try.underlying22 Try.underlying22 rfl (by kernel_rfl) rfl rfl rfl ?h71 ?h72) ?_; (case h71 => (first | omega | (simp; done) | (simp; omega))); (case h72 => (first | omega | (simp; done) | (simp; omega)))) | (refine AO.opx rfl rfl (opX_append (bytes := 1) 1 Try.underlying22 Try.underlying22 rfl (by kernel_rfl) rfl rfl rfl ?h73 ?h74) ?_; (case h73 => (first | omega | (simp; done) | (simp; omega))); (case h74 => (first | omega | (simp; done) | (simp; omega)))) | (refine AO.opx rfl rfl (opX_append (bytes := 1) 2 Try.underlying22 Try.underlying22 rfl (by kernel_rfl) rfl rfl rfl ?h75 ?h76) ?_; (case h75 => (first | omega | (simp; done) | (simp; omega))); (case h76 => (first | omega | (simp; done) | (simp; omega)))) | (refine AO.opx rfl rfl (opX_append (bytes := 1) 3 Try.underlying22 Try.underlying22 rfl (by kernel_rfl) rfl rfl rfl ?h77 ?h78) ?_; (case h77 => (first | omega | (simp; done) | (simp; omega))); (case h78 => (first | omega | (simp; done) | (simp; omega)))) | (refine AO.opx rfl rfl (opX_append (bytes := 1) 4 Try.underlying22 Try.underlying22 rfl (by kernel_rfl) rfl rfl rfl ?h79 ?h80) ?_; (case h79 => (first | omega | (simp; done) | (simp; omega))); (case h80 => (first | omega | (simp; done) | (simp; omega)))) | (refine AO.opx rfl rfl (opX_append_nil (bytes := 1) Try.underlying22 Try.underlying22 rfl (by kernel_rfl) rfl rfl ?h81 ?h82) ?_; (case h81 => (first | omega | (simp; done) | (simp; omega))); (case h82 => (first | omega | (simp; done) | (simp; omega))))
                      rintro _ _ ⟨t103, rfl, rfl⟩
                      refine AR.run rfl rfl ?_
                      first | (refine AO.ops rfl rfl (opS_assign (av := slE _ _ _) rfl) ?_) | (refine AO.ops rfl rfl (opS_assign (av := .v _) rfl) ?_) | (refine AO.ops rfl rfl (opS_assign (av := .vw _ _ _ _) rfl) ?_)
                      refine AR.nil ?_
                      show AW _ _ _ _ _ _
                      refine AW.region ?_
                      show AR _ _ _ _ _ [0, 1, 2] _
                      refine AR.run rfl rfl ?_
                      refine AO.ops rfl rfl (opS_move (av := .v _) rfl) ?_
                      refine AR.run rfl rfl ?_
                      refine AO.ops rfl rfl (opS_add rfl rfl ?h84) ?_
                      (case h84 => (omega))
                      refine AR.run rfl rfl ?_
                      refine AO.ops rfl rfl (opS_assign (av := .v _) rfl) ?_
                      refine AR.nil ?_
                      show AW _ _ _ _ _ _
                      refine AW.region ?_
                      show AR _ _ _ _ _ [0, 1, 2] _
                      refine AR.run rfl rfl ?_
                      refine AO.ops rfl rfl (opS_move (av := .v _) rfl) ?_
                      refine AR.run rfl rfl ?_
                      refine AO.ops rfl rfl (opS_add rfl rfl ?h86) ?_
                      (case h86 => (omega))
                      refine AR.run rfl rfl ?_
                      refine AO.ops rfl rfl (opS_assign (av := .v _) rfl) ?_
                      refine AR.nil ?_
                      -- END 17 (loop1)
                      refine ⟨(i + 3, out ++ [UInt8.ofNat (16 * (Qp.dig b[i + 1]).getD 0 + (Qp.dig b[i + 2]).getD 0)], t103), ?_, ?_, ?_⟩
                      · refine ⟨by omega, by (try simp); omega, ?_⟩
                        have := Qp.decode_ond (by omega) h3 htk
                        simpa using this
                      · (try simp only []); omega
                      · refine WK.env (Env.le.cons ?_ (Env.le.cons ?_ (Env.le.cons ?_ (Env.le.nil _)))) ?_
                        all_goals first | exact Sub.refl _ | exact Sub.nil _ | ((repeat (first | exact Sub.refl _ | exact Sub.nil _ | refine Sub.cons _ ?_ | refine Sub.skip _ ?_)); done) | exact Wv.refl _ | exact Wv.any _ | exact Wv.tok _ _ _ | exact Wv.nil _ | (refine Wv.of_eq ?_; first | rfl | exact i64_congr (by omega) | (simp))
    ·
      have c1p := c1; try simp only [decide_eq_true_eq, decide_eq_false_iff_not, Bool.not_eq_true', Bool.not_eq_false', Bool.not_true, Bool.not_false, Bool.not_eq_eq_eq_not] at c1p
      refine AW.exit ?_
      show AW _ _ _ _ _ _
      refine AW.seq ?_
      refine AW.region ?_
      show AR _ _ _ _ _ [0, 1, 2] _
      refine AR.run rfl rfl ?_
      first | (refine AO.ops rfl rfl (opS_move (av := slE _ _ _) rfl) ?_) | (refine AO.ops rfl rfl (opS_move (av := .v _) rfl) ?_) | (refine AO.ops rfl rfl (opS_move (av := .vw _ _ _ _) rfl) ?_)
      refine AR.run rfl rfl ?_
      first | (refine AO.ops rfl rfl (opS_assign (av := slE _ _ _) rfl) ?_) | (refine AO.ops rfl rfl (opS_assign (av := .v _) rfl) ?_) | (refine AO.ops rfl rfl (opS_assign (av := .vw _ _ _ _) rfl) ?_)
      refine AR.run rfl rfl ?_
      refine AO.ops rfl rfl (opS_assign (av := .v _) rfl) ?_
      refine AR.nil ?_
      show AW _ _ _ _ _ _
      refine AW.ret ?_
      -- END 18 (ret)
      show RetPost _ _ _ _ .ret _
      have hr0 : b.drop i = [] := List.drop_eq_nil_of_le (by omega)
      rw [hr0, Qp.decode_nil] at h3
      simp at h3
      rw [h3]
      (refine ⟨rfl, _, _, ResV.twoW rfl ?_ ?_, ?_, ⟨rfl, rfl⟩⟩; all_goals first | exact Sub.refl _ | exact Sub.nil _ | ((repeat (first | exact Sub.refl _ | exact Sub.nil _ | refine Sub.cons _ ?_ | refine Sub.skip _ ?_)); done) | exact Wv.refl _ | exact Wv.tok _ _ _ | exact Wv.nil _)
end Go.Proofs.Ytgdelfhbelfefaa
