/-
  What strings.Join computes, by content.
-/
import Derived.Test.YtjhlnhipjomdeaaGreatDoorP11Build
import Derived.Test.YtjhlnhipjomdeaaGreatDoorStrPure
set_option linter.unusedVariables false
set_option linter.unusedSimpArgs false
namespace Go.Proofs.YtjhlnhipjomdeaaGreatDoor
open Go.RowKit Go.Av

theorem en27 : ∀ (args : Array Value) (w : World), (callFunc 27 args).run Tryz.prog w = .ok (.enter 27 args) w := fun _ _ => by kernel_rfl

/-! strings.Join -/
set_option maxRecDepth 100000 in
set_option maxHeartbeats 1000000 in
theorem strings_Join (l : List (List UInt8)) (sep : List UInt8) (tl : Option Nat) (hb : sep.length * l.length + Str.total l ≤ 1000000000) (hl : l.length ≤ 1000000000) :
    ACalls Tryz.prog 27 [slE Enc.str l tl, S sep] [] (Ret (S (Str.join sep l)) []) := by
  refine ACalls.of_body Tryz.func27 rfl rfl ?_
  show AW _ _ 75 _ _ _
  refine AW.seq ?_
  refine AW.region ?_
  show AR _ _ _ _ _ [0] _
  refine AR.run rfl rfl ?_
  refine AO.ops rfl rfl (opS_assign (av := .v _) rfl) ?_
  refine AR.nil ?_
  show AW _ _ _ _ _ _
  refine AW.seq ?_
  refine AW.seq ?_
  refine AW.region ?_
  show AR _ _ _ _ _ [0, 1] _
  refine AR.run rfl rfl ?_
  first | (refine AO.ops rfl rfl (opS_move (av := slE _ _ _) rfl) ?_) | (refine AO.ops rfl rfl (opS_move (av := .v _) rfl) ?_) | (refine AO.ops rfl rfl (opS_move (av := .vw _ _ _ _) rfl) ?_)
  refine AR.run rfl rfl ?_
  first | (refine AO.ops rfl rfl (opS_len_sl Tryz.underlying39 rfl) ?_) | (refine AO.ops rfl rfl (opS_len_nil Tryz.underlying39 rfl) ?_)
  refine AR.nil ?_
  show AW _ _ _ _ _ _
  refine AW.block ?_
  refine AW.seq ?_
  refine AW.region ?_
  show AR _ _ _ _ _ [0, 1] _
  refine AR.run rfl rfl ?_
  refine AO.ops rfl rfl (opS_eqi rfl rfl) ?_
  refine AR.run rfl rfl ?_
  refine AO.ops rfl rfl (opS_assign (av := .v _) rfl) ?_
  refine AR.nil ?_
  show AW _ _ _ _ _ _
  refine AW.cond rfl (fun c1 => ?_) (fun c1 => ?_)
  ·
    have c1p := c1; try simp only [decide_eq_true_eq, decide_eq_false_iff_not, Bool.not_eq_true', Bool.not_eq_false', Bool.not_true, Bool.not_false, Bool.not_eq_eq_eq_not] at c1p
    refine AW.seq ?_
    refine AW.region ?_
    show AR _ _ _ _ _ [0] _
    refine AR.run rfl rfl ?_
    refine AO.ops rfl rfl (opS_assign (av := .v _) rfl) ?_
    refine AR.nil ?_
    show AW _ _ _ _ _ _
    refine AW.ret ?_
    -- END 1 (ret)
    show RetPost _ _ _ _ .ret _
    have h0 : l = [] := List.length_eq_zero_iff.1 (by omega)
    subst h0
    (refine ⟨rfl, _, _, ResV.oneW rfl ?_, ?_, ⟨rfl, rfl⟩⟩; all_goals first | exact Sub.refl _ | exact Sub.nil _ | ((repeat (first | exact Sub.refl _ | exact Sub.nil _ | refine Sub.cons _ ?_ | refine Sub.skip _ ?_)); done) | exact Wv.refl _ | exact Wv.tok _ _ _ | exact Wv.nil _)
  ·
    have c1p := c1; try simp only [decide_eq_true_eq, decide_eq_false_iff_not, Bool.not_eq_true', Bool.not_eq_false', Bool.not_true, Bool.not_false, Bool.not_eq_eq_eq_not] at c1p
    refine AW.seq ?_
    refine AW.region ?_
    show AR _ _ _ _ _ [0, 1] _
    refine AR.run rfl rfl ?_
    refine AO.ops rfl rfl (opS_eqi rfl rfl) ?_
    refine AR.run rfl rfl ?_
    refine AO.ops rfl rfl (opS_assign (av := .v _) rfl) ?_
    refine AR.nil ?_
    show AW _ _ _ _ _ _
    refine AW.cond rfl (fun c2 => ?_) (fun c2 => ?_)
    ·
      have c2p := c2; try simp only [decide_eq_true_eq, decide_eq_false_iff_not, Bool.not_eq_true', Bool.not_eq_false', Bool.not_true, Bool.not_false, Bool.not_eq_eq_eq_not] at c2p
      refine AW.seq ?_
      refine AW.region ?_
      show AR _ _ _ _ _ [0, 1, 2, 3] _
      refine AR.run rfl rfl ?_
      first | (refine AO.ops rfl rfl (opS_move (av := slE _ _ _) rfl) ?_) | (refine AO.ops rfl rfl (opS_move (av := .v _) rfl) ?_) | (refine AO.ops rfl rfl (opS_move (av := .vw _ _ _ _) rfl) ?_)
      refine AR.run rfl rfl ?_
      refine AO.ops rfl rfl (opS_indexAddr_lt (m := 0) Tryz.underlying39 (by kernel_rfl) rfl rfl ?h1 ?h2) ?_
      (case h1 => (omega))
      (case h2 => (omega))
      refine AR.run rfl rfl ?_
      first | refine AO.ops rfl rfl (opS_load_cp Tryz.underlying9 rfl rfl) ?_ | refine AO.op rfl rfl (opR_load_pt (i := 0) Tryz.underlying9 rfl rfl rfl rfl) ?_ | refine AO.op rfl rfl (opR_load_pt (i := 1) Tryz.underlying9 rfl rfl rfl rfl) ?_ | refine AO.op rfl rfl (opR_load_pt (i := 2) Tryz.underlying9 rfl rfl rfl rfl) ?_ | refine AO.op rfl rfl (opR_load_pt (i := 3) Tryz.underlying9 rfl rfl rfl rfl) ?_
      refine AR.run rfl rfl ?_
      refine AO.ops rfl rfl (opS_assign (av := .v _) rfl) ?_
      refine AR.nil ?_
      show AW _ _ _ _ _ _
      refine AW.ret ?_
      -- END 2 (ret)
      show RetPost _ _ _ _ .ret _
      rw [Str.join_one sep l (by omega) (by omega)]
      (refine ⟨rfl, _, _, ResV.oneW rfl ?_, ?_, ⟨rfl, rfl⟩⟩; all_goals first | exact Sub.refl _ | exact Sub.nil _ | ((repeat (first | exact Sub.refl _ | exact Sub.nil _ | refine Sub.cons _ ?_ | refine Sub.skip _ ?_)); done) | exact Wv.refl _ | exact Wv.tok _ _ _ | exact Wv.nil _)
    ·
      have c2p := c2; try simp only [decide_eq_true_eq, decide_eq_false_iff_not, Bool.not_eq_true', Bool.not_eq_false', Bool.not_true, Bool.not_false, Bool.not_eq_eq_eq_not] at c2p
      have hl2 : 2 ≤ l.length := by omega
      have hm := Str.mul_bounds sep.length l.length 1000000000 (by omega) (by omega)
      refine AW.skip ?_
      show AW _ _ _ _ _ _
      refine AW.seq ?_
      refine AW.region ?_
      show AR _ _ _ _ _ [0] _
      refine AR.run rfl rfl ?_
      refine AO.ops rfl rfl (opS_assign (av := .v _) rfl) ?_
      refine AR.nil ?_
      show AW _ _ _ _ _ _
      refine AW.cut (X := Nat) (fun n0 => ⟨[(0, slE Enc.str l tl), (1, S sep), (5, i64 n0)], [], []⟩) (fun n0 => n0 ≤ sep.length * l.length) ?_ ?_
      ·
        refine AW.seq ?_
        refine AW.region ?_
        show AR _ _ _ _ _ [0, 1, 2] _
        refine AR.run rfl rfl ?_
        refine AO.ops rfl rfl (opS_move (av := .v _) rfl) ?_
        refine AR.run rfl rfl ?_
        refine AO.ops rfl rfl (opS_len_str Tryz.underlying9 rfl) ?_
        refine AR.run rfl rfl ?_
        refine AO.ops rfl rfl (opS_gt rfl rfl) ?_
        refine AR.nil ?_
        show AW _ _ _ _ _ _
        refine AW.cond rfl (fun c3 => ?_) (fun c3 => ?_)
        ·
          have c3p := c3; try simp only [decide_eq_true_eq, decide_eq_false_iff_not, Bool.not_eq_true', Bool.not_eq_false', Bool.not_true, Bool.not_false, Bool.not_eq_eq_eq_not] at c3p
          refine AW.seq ?_
          refine AW.seq ?_
          refine AW.region ?_
          show AR _ _ _ _ _ [0, 1, 2, 3, 4, 5, 6] _
          refine AR.run rfl rfl ?_
          refine AO.ops rfl rfl (opS_move (av := .v _) rfl) ?_
          refine AR.run rfl rfl ?_
          refine AO.ops rfl rfl (opS_len_str Tryz.underlying9 rfl) ?_
          refine AR.run rfl rfl ?_
          first | (refine AO.ops rfl rfl (opS_move (av := slE _ _ _) rfl) ?_) | (refine AO.ops rfl rfl (opS_move (av := .v _) rfl) ?_) | (refine AO.ops rfl rfl (opS_move (av := .vw _ _ _ _) rfl) ?_)
          refine AR.run rfl rfl ?_
          first | (refine AO.ops rfl rfl (opS_len_sl Tryz.underlying39 rfl) ?_) | (refine AO.ops rfl rfl (opS_len_nil Tryz.underlying39 rfl) ?_)
          refine AR.run rfl rfl ?_
          refine AO.ops rfl rfl (opS_sub rfl rfl ?h4) ?_
          (case h4 => (omega))
          refine AR.run rfl rfl ?_
          refine AO.ops rfl rfl (opS_quo rfl rfl ?h6) ?_
          (case h6 => (omega))
          refine AR.run rfl rfl ?_
          refine AO.ops rfl rfl (opS_ge rfl rfl) ?_
          refine AR.nil ?_
          show AW _ _ _ _ _ _
          refine AW.cond rfl (fun c4 => ?_) (fun c4 => ?_)
          ·
            have c4p := c4; try simp only [decide_eq_true_eq, decide_eq_false_iff_not, Bool.not_eq_true', Bool.not_eq_false', Bool.not_true, Bool.not_false, Bool.not_eq_eq_eq_not] at c4p
            exact absurd c4p (Str.quo_great _ _ 0 (by omega) (by omega) hl)
          ·
            have c4p := c4; try simp only [decide_eq_true_eq, decide_eq_false_iff_not, Bool.not_eq_true', Bool.not_eq_false', Bool.not_true, Bool.not_false, Bool.not_eq_eq_eq_not] at c4p
            refine AW.skip ?_
            show AW _ _ _ _ _ _
            refine AW.region ?_
            show AR _ _ _ _ _ [0, 1, 2, 3, 4, 5, 6, 7, 8] _
            refine AR.run rfl rfl ?_
            refine AO.ops rfl rfl (opS_move (av := .v _) rfl) ?_
            refine AR.run rfl rfl ?_
            refine AO.ops rfl rfl (opS_move (av := .v _) rfl) ?_
            refine AR.run rfl rfl ?_
            refine AO.ops rfl rfl (opS_len_str Tryz.underlying9 rfl) ?_
            refine AR.run rfl rfl ?_
            first | (refine AO.ops rfl rfl (opS_move (av := slE _ _ _) rfl) ?_) | (refine AO.ops rfl rfl (opS_move (av := .v _) rfl) ?_) | (refine AO.ops rfl rfl (opS_move (av := .vw _ _ _ _) rfl) ?_)
            refine AR.run rfl rfl ?_
            first | (refine AO.ops rfl rfl (opS_len_sl Tryz.underlying39 rfl) ?_) | (refine AO.ops rfl rfl (opS_len_nil Tryz.underlying39 rfl) ?_)
            refine AR.run rfl rfl ?_
            refine AO.ops rfl rfl (opS_sub rfl rfl ?h8) ?_
            (case h8 => (omega))
            refine AR.run rfl rfl ?_
            refine AO.ops rfl rfl (opS_mul rfl rfl ?h10) ?_
            (case h10 => (omega))
            refine AR.run rfl rfl ?_
            refine AO.ops rfl rfl (opS_add rfl rfl ?h12) ?_
            (case h12 => (omega))
            refine AR.run rfl rfl ?_
            refine AO.ops rfl rfl (opS_assign (av := .v _) rfl) ?_
            refine AR.nil ?_
            -- END 3 (cut('p', 7))
            refine ⟨(sep.length * (l.length - 1)), ?_, ?_⟩
            · exact Nat.mul_le_mul_left _ (by omega)
            · refine WK.env (Env.le.cons ?_ (Env.le.cons ?_ (Env.le.cons ?_ (Env.le.nil _)))) ?_
              all_goals first | exact Sub.refl _ | exact Sub.nil _ | ((repeat (first | exact Sub.refl _ | exact Sub.nil _ | refine Sub.cons _ ?_ | refine Sub.skip _ ?_)); done) | exact Wv.refl _ | exact Wv.any _ | exact Wv.tok _ _ _ | exact Wv.nil _ | (refine Wv.of_eq ?_; first | rfl | exact i64_congr (by omega) | (exact i64_congr (Str.mul_cast _ _ (by omega))))
        ·
          have c3p := c3; try simp only [decide_eq_true_eq, decide_eq_false_iff_not, Bool.not_eq_true', Bool.not_eq_false', Bool.not_true, Bool.not_false, Bool.not_eq_eq_eq_not] at c3p
          refine AW.skip ?_
          -- END 4 (cut('p', 7))
          refine ⟨0, ?_, ?_⟩
          · exact Nat.zero_le _
          · refine WK.env (Env.le.cons ?_ (Env.le.cons ?_ (Env.le.cons ?_ (Env.le.nil _)))) ?_
            all_goals first | exact Sub.refl _ | exact Sub.nil _ | ((repeat (first | exact Sub.refl _ | exact Sub.nil _ | refine Sub.cons _ ?_ | refine Sub.skip _ ?_)); done) | exact Wv.refl _ | exact Wv.any _ | exact Wv.tok _ _ _ | exact Wv.nil _ | (refine Wv.of_eq ?_; first | rfl | exact i64_congr (by omega) | (simp))
      · rintro n0 hn0
        show AW _ _ _ _ _ _
        refine AW.seq ?_
        refine AW.seq ?_
        refine AW.region ?_
        show AR _ _ _ _ _ [0, 1, 2] _
        refine AR.run rfl rfl ?_
        first | (refine AO.ops rfl rfl (opS_move (av := slE _ _ _) rfl) ?_) | (refine AO.ops rfl rfl (opS_move (av := .v _) rfl) ?_) | (refine AO.ops rfl rfl (opS_move (av := .vw _ _ _ _) rfl) ?_)
        refine AR.run rfl rfl ?_
        first | (refine AO.ops rfl rfl (opS_len_sl Tryz.underlying39 rfl) ?_) | (refine AO.ops rfl rfl (opS_len_nil Tryz.underlying39 rfl) ?_)
        refine AR.run rfl rfl ?_
        refine AO.ops rfl rfl (opS_move (av := .v _) rfl) ?_
        refine AR.nil ?_
        show AW _ _ _ _ _ _
        refine AW.block ?_
        refine AW.loop (X := Nat × Nat) (fun (i, n) => ⟨[(0, slE Enc.str l tl), (1, S sep), (5, i64 n), (39, slE Enc.str l tl), (40, i64 l.length), (41, i64 i)], [], []⟩) (fun (i, n) => i ≤ l.length ∧ n + Str.total (l.drop i) ≤ 1000000000) (fun (i, n) => l.length - i) (0, n0) ?_ ?_ ?_
        · exact ⟨by omega, by simp; omega⟩
        · refine WK.env (Env.le.cons ?_ (Env.le.cons ?_ (Env.le.cons ?_ (Env.le.cons ?_ (Env.le.cons ?_ (Env.le.cons ?_ (Env.le.nil _))))))) ?_
          all_goals first | exact Sub.refl _ | exact Sub.nil _ | ((repeat (first | exact Sub.refl _ | exact Sub.nil _ | refine Sub.cons _ ?_ | refine Sub.skip _ ?_)); done) | exact Wv.refl _ | exact Wv.any _ | exact Wv.tok _ _ _ | exact Wv.nil _ | (refine Wv.of_eq ?_; first | rfl | exact i64_congr (by omega) | (simp))
        · rintro ⟨i, n⟩ ⟨h1, h2⟩
          show AW _ _ _ _ _ _
          refine AW.seq ?_
          refine AW.region ?_
          show AR _ _ _ _ _ [0] _
          refine AR.run rfl rfl ?_
          refine AO.ops rfl rfl (opS_lt rfl rfl) ?_
          refine AR.nil ?_
          show AW _ _ _ _ _ _
          refine AW.seq ?_
          refine AW.cond rfl (fun c5 => ?_) (fun c5 => ?_)
          ·
            have c5p := c5; try simp only [decide_eq_true_eq, decide_eq_false_iff_not, Bool.not_eq_true', Bool.not_eq_false', Bool.not_true, Bool.not_false, Bool.not_eq_eq_eq_not] at c5p
            refine AW.skip ?_
            show AW _ _ _ _ _ _
            refine AW.seq ?_
            refine AW.block ?_
            refine AW.seq ?_
            refine AW.region ?_
            show AR _ _ _ _ _ [0, 1, 2] _
            refine AR.run rfl rfl ?_
            refine AO.ops rfl rfl (opS_indexAddr_lt Tryz.underlying39 (by kernel_rfl) rfl rfl rfl ?h13) ?_
            (case h13 => (omega))
            refine AR.run rfl rfl ?_
            first | refine AO.ops rfl rfl (opS_load_cp Tryz.underlying9 rfl rfl) ?_ | refine AO.op rfl rfl (opR_load_pt (i := 0) Tryz.underlying9 rfl rfl rfl rfl) ?_ | refine AO.op rfl rfl (opR_load_pt (i := 1) Tryz.underlying9 rfl rfl rfl rfl) ?_ | refine AO.op rfl rfl (opR_load_pt (i := 2) Tryz.underlying9 rfl rfl rfl rfl) ?_ | refine AO.op rfl rfl (opR_load_pt (i := 3) Tryz.underlying9 rfl rfl rfl rfl) ?_
            refine AR.run rfl rfl ?_
            refine AO.ops rfl rfl (opS_assign (av := .v _) rfl) ?_
            refine AR.nil ?_
            show AW _ _ _ _ _ _
            refine AW.seq ?_
            refine AW.seq ?_
            refine AW.region ?_
            show AR _ _ _ _ _ [0, 1, 2, 3, 4] _
            refine AR.run rfl rfl ?_
            refine AO.ops rfl rfl (opS_move (av := .v _) rfl) ?_
            refine AR.run rfl rfl ?_
            refine AO.ops rfl rfl (opS_len_str Tryz.underlying9 rfl) ?_
            refine AR.run rfl rfl ?_
            refine AO.ops rfl rfl (opS_move (av := .v _) rfl) ?_
            refine AR.run rfl rfl ?_
            refine AO.ops rfl rfl (opS_sub rfl rfl ?h15) ?_
            (case h15 => (omega))
            refine AR.run rfl rfl ?_
            refine AO.ops rfl rfl (opS_gt rfl rfl) ?_
            refine AR.nil ?_
            show AW _ _ _ _ _ _
            refine AW.cond rfl (fun c6 => ?_) (fun c6 => ?_)
            ·
              have c6p := c6; try simp only [decide_eq_true_eq, decide_eq_false_iff_not, Bool.not_eq_true', Bool.not_eq_false', Bool.not_true, Bool.not_false, Bool.not_eq_eq_eq_not] at c6p
              exfalso; have := Str.total_drop l i (by omega); omega
            ·
              have c6p := c6; try simp only [decide_eq_true_eq, decide_eq_false_iff_not, Bool.not_eq_true', Bool.not_eq_false', Bool.not_true, Bool.not_false, Bool.not_eq_eq_eq_not] at c6p
              refine AW.skip ?_
              show AW _ _ _ _ _ _
              refine AW.region ?_
              show AR _ _ _ _ _ [0, 1, 2, 3, 4] _
              refine AR.run rfl rfl ?_
              refine AO.ops rfl rfl (opS_move (av := .v _) rfl) ?_
              refine AR.run rfl rfl ?_
              refine AO.ops rfl rfl (opS_move (av := .v _) rfl) ?_
              refine AR.run rfl rfl ?_
              refine AO.ops rfl rfl (opS_len_str Tryz.underlying9 rfl) ?_
              refine AR.run rfl rfl ?_
              refine AO.ops rfl rfl (opS_add rfl rfl ?h17) ?_
              (case h17 => (omega))
              refine AR.run rfl rfl ?_
              refine AO.ops rfl rfl (opS_assign (av := .v _) rfl) ?_
              refine AR.nil ?_
              show AW _ _ _ _ _ _
              refine AW.region ?_
              show AR _ _ _ _ _ [0, 1] _
              refine AR.run rfl rfl ?_
              refine AO.ops rfl rfl (opS_add rfl rfl ?h19) ?_
              (case h19 => (omega))
              refine AR.run rfl rfl ?_
              refine AO.ops rfl rfl (opS_move (av := .v _) rfl) ?_
              refine AR.nil ?_
              -- END 5 (loop1)
              refine ⟨(i + 1, n + l[i].length), ?_, ?_, ?_⟩
              · exact ⟨by omega, by have := Str.total_drop l i (by omega); omega⟩
              · (try simp only []); omega
              · refine WK.env (Env.le.cons ?_ (Env.le.cons ?_ (Env.le.cons ?_ (Env.le.cons ?_ (Env.le.cons ?_ (Env.le.cons ?_ (Env.le.nil _))))))) ?_
                all_goals first | exact Sub.refl _ | exact Sub.nil _ | ((repeat (first | exact Sub.refl _ | exact Sub.nil _ | refine Sub.cons _ ?_ | refine Sub.skip _ ?_)); done) | exact Wv.refl _ | exact Wv.any _ | exact Wv.tok _ _ _ | exact Wv.nil _ | (refine Wv.of_eq ?_; first | rfl | exact i64_congr (by omega) | (simp))
          ·
            have c5p := c5; try simp only [decide_eq_true_eq, decide_eq_false_iff_not, Bool.not_eq_true', Bool.not_eq_false', Bool.not_true, Bool.not_false, Bool.not_eq_eq_eq_not] at c5p
            refine AW.exit ?_
            show AW _ _ _ _ _ _
            refine AW.seq ?_
            refine AW.region ?_
            show AR _ _ _ _ _ [0] _
            refine AR.run rfl rfl ?_
            refine AO.opx rfl rfl (opX_allocT (zs := [.pointer none, .slice none 0 0]) (by kernel_rfl)) ?_
            rintro _ _ ⟨o8, rfl, rfl⟩
            refine AR.nil ?_
            show AW _ _ _ _ _ _
            refine AW.seq ?_
            refine AW.region ?_
            show AR _ _ _ _ _ [0, 1] _
            refine AR.run rfl rfl ?_
            refine AO.ops rfl rfl (opS_move (av := .v _) rfl) ?_
            refine AR.run rfl rfl ?_
            refine AO.call [] rfl en36 rfl (Builder_Grow0 o8 (.v (.pointer none)) (.inl rfl) n (by omega)) ?p1 ?k1 ?q1
            (case p1 => (exact List.Perm.refl _))
            (case q1 => (rintro c A' ⟨h, _⟩; cases h))
            rintro av A' ⟨h, t57, rfl⟩; cases h
            refine AR.nil ?_
            show AW _ _ _ _ _ _
            refine AW.seq ?_
            refine AW.region ?_
            show AR _ _ _ _ _ [0, 1, 2, 3] _
            refine AR.run rfl rfl ?_
            first | (refine AO.ops rfl rfl (opS_move (av := slE _ _ _) rfl) ?_) | (refine AO.ops rfl rfl (opS_move (av := .v _) rfl) ?_) | (refine AO.ops rfl rfl (opS_move (av := .vw _ _ _ _) rfl) ?_)
            refine AR.run rfl rfl ?_
            refine AO.ops rfl rfl (opS_indexAddr_lt (m := 0) Tryz.underlying39 (by kernel_rfl) rfl rfl ?h20 ?h21) ?_
            (case h20 => (omega))
            (case h21 => (omega))
            refine AR.run rfl rfl ?_
            first | refine AO.ops rfl rfl (opS_load_cp Tryz.underlying9 rfl rfl) ?_ | refine AO.op rfl rfl (opR_load_pt (i := 0) Tryz.underlying9 rfl rfl rfl rfl) ?_ | refine AO.op rfl rfl (opR_load_pt (i := 1) Tryz.underlying9 rfl rfl rfl rfl) ?_ | refine AO.op rfl rfl (opR_load_pt (i := 2) Tryz.underlying9 rfl rfl rfl rfl) ?_ | refine AO.op rfl rfl (opR_load_pt (i := 3) Tryz.underlying9 rfl rfl rfl rfl) ?_
            refine AR.run rfl rfl ?_
            refine AO.call [] rfl en29 rfl (Builder_WriteString0 o8 _ (.inr rfl) [] l[0] t57 (by have := Str.total_drop l 0 (by omega); simp at this ⊢; omega)) ?p2 ?k2 ?q2
            (case p2 => (exact List.Perm.trans (List.Perm.swap _ _ _) ((List.Perm.swap _ _ _).cons _)))
            (case q2 => (rintro c A' ⟨h, _⟩; cases h))
            rintro av A' ⟨h, t61, rfl⟩; cases h
            refine AR.nil ?_
            show AW _ _ _ _ _ _
            refine AW.seq ?_
            refine AW.seq ?_
            refine AW.region ?_
            show AR _ _ _ _ _ [0, 1, 2, 3] _
            refine AR.run rfl rfl ?_
            first | (refine AO.ops rfl rfl (opS_move (av := slE _ _ _) rfl) ?_) | (refine AO.ops rfl rfl (opS_move (av := .v _) rfl) ?_) | (refine AO.ops rfl rfl (opS_move (av := .vw _ _ _ _) rfl) ?_)
            refine AR.run rfl rfl ?_
            refine AO.ops rfl rfl (opS_slice_sl_from (lo := 1) Tryz.underlying39 (by kernel_rfl) rfl rfl ?h23 ?h24) ?_
            (case h23 => (omega))
            (case h24 => (first | omega | (simp; done) | (simp; omega)))
            refine AR.run rfl rfl ?_
            first | (refine AO.ops rfl rfl (opS_len_sl Tryz.underlying39 rfl) ?_) | (refine AO.ops rfl rfl (opS_len_nil Tryz.underlying39 rfl) ?_)
            refine AR.run rfl rfl ?_
            refine AO.ops rfl rfl (opS_move (av := .v _) rfl) ?_
            refine AR.nil ?_
            show AW _ _ _ _ _ _
            refine AW.block ?_
            refine AW.loop (X := Nat × List UInt8 × Nat) (fun (i, out, t) => ⟨[(0, slE Enc.str l tl), (1, S sep), (8, .pt o8 0), (63, slE Enc.str (l.drop 1) none), (64, i64 ((l.drop 1).length : Nat)), (65, i64 i)], [], [.obj o8 [.pt o8 0, slE Enc.byte out (some t)], .ty o8 44, .tok t 5]⟩) (fun (i, out, t) => i ≤ l.length - 1 ∧ out ++ Str.rest sep (l.drop (i + 1)) = Str.join sep l) (fun (i, out, t) => l.length - i) (0, l[0], t61) ?_ ?_ ?_
            · exact ⟨by omega, (Str.join_at sep l (by omega)).symm⟩
            · refine WK.env (Env.le.cons ?_ (Env.le.cons ?_ (Env.le.cons ?_ (Env.le.cons ?_ (Env.le.cons ?_ (Env.le.cons ?_ (Env.le.nil _))))))) ?_
              all_goals first | exact Sub.refl _ | exact Sub.nil _ | ((repeat (first | exact Sub.refl _ | exact Sub.nil _ | refine Sub.cons _ ?_ | refine Sub.skip _ ?_)); done) | exact Wv.refl _ | exact Wv.any _ | exact Wv.tok _ _ _ | exact Wv.nil _ | (refine Wv.of_eq ?_; first | rfl | exact i64_congr (by omega) | (simp))
            · rintro ⟨i, out, t⟩ ⟨h1, h2⟩
              show AW _ _ _ _ _ _
              refine AW.seq ?_
              refine AW.region ?_
              show AR _ _ _ _ _ [0] _
              refine AR.run rfl rfl ?_
              refine AO.ops rfl rfl (opS_lt rfl rfl) ?_
              refine AR.nil ?_
              show AW _ _ _ _ _ _
              refine AW.seq ?_
              refine AW.cond rfl (fun c7 => ?_) (fun c7 => ?_)
              ·
                have c7p := c7; try simp only [decide_eq_true_eq, decide_eq_false_iff_not, Bool.not_eq_true', Bool.not_eq_false', Bool.not_true, Bool.not_false, Bool.not_eq_eq_eq_not] at c7p
                have hd : (l.drop 1).length = l.length - 1 := by simp
                have hi : i < (l.drop 1).length := by omega
                have hroom := Str.room sep out l (i + 1) (by omega) h2 hb
                refine AW.skip ?_
                show AW _ _ _ _ _ _
                refine AW.seq ?_
                refine AW.block ?_
                refine AW.seq ?_
                refine AW.region ?_
                show AR _ _ _ _ _ [0, 1, 2] _
                refine AR.run rfl rfl ?_
                refine AO.ops rfl rfl (opS_indexAddr_lt Tryz.underlying39 (by kernel_rfl) rfl rfl rfl ?h25) ?_
                (case h25 => (omega))
                refine AR.run rfl rfl ?_
                first | refine AO.ops rfl rfl (opS_load_cp Tryz.underlying9 rfl rfl) ?_ | refine AO.op rfl rfl (opR_load_pt (i := 0) Tryz.underlying9 rfl rfl rfl rfl) ?_ | refine AO.op rfl rfl (opR_load_pt (i := 1) Tryz.underlying9 rfl rfl rfl rfl) ?_ | refine AO.op rfl rfl (opR_load_pt (i := 2) Tryz.underlying9 rfl rfl rfl rfl) ?_ | refine AO.op rfl rfl (opR_load_pt (i := 3) Tryz.underlying9 rfl rfl rfl rfl) ?_
                refine AR.run rfl rfl ?_
                refine AO.ops rfl rfl (opS_assign (av := .v _) rfl) ?_
                refine AR.nil ?_
                show AW _ _ _ _ _ _
                refine AW.seq ?_
                refine AW.region ?_
                show AR _ _ _ _ _ [0, 1] _
                refine AR.run rfl rfl ?_
                refine AO.ops rfl rfl (opS_move (av := .v _) rfl) ?_
                refine AR.run rfl rfl ?_
                refine AO.call [] rfl en29 rfl (Builder_WriteString0 o8 _ (.inr rfl) out sep t (by omega)) ?p3 ?k3 ?q3
                (case p3 => (exact List.Perm.refl _))
                (case q3 => (rintro c A' ⟨h, _⟩; cases h))
                rintro av A' ⟨h, t70, rfl⟩; cases h
                refine AR.nil ?_
                show AW _ _ _ _ _ _
                refine AW.region ?_
                show AR _ _ _ _ _ [0, 1] _
                refine AR.run rfl rfl ?_
                refine AO.ops rfl rfl (opS_move (av := .v _) rfl) ?_
                refine AR.run rfl rfl ?_
                refine AO.call [] rfl en29 rfl (Builder_WriteString0 o8 _ (.inr rfl) (out ++ sep) (l.drop 1)[i] t70 (by simp [List.getElem_drop, Nat.add_comm 1 i] at *; omega)) ?p4 ?k4 ?q4
                (case p4 => (exact List.Perm.refl _))
                (case q4 => (rintro c A' ⟨h, _⟩; cases h))
                rintro av A' ⟨h, t72, rfl⟩; cases h
                refine AR.nil ?_
                show AW _ _ _ _ _ _
                refine AW.region ?_
                show AR _ _ _ _ _ [0, 1] _
                refine AR.run rfl rfl ?_
                refine AO.ops rfl rfl (opS_add rfl rfl ?h27) ?_
                (case h27 => (omega))
                refine AR.run rfl rfl ?_
                refine AO.ops rfl rfl (opS_move (av := .v _) rfl) ?_
                refine AR.nil ?_
                -- END 6 (loop2)
                refine ⟨(i + 1, out ++ sep ++ (l.drop 1)[i], t72), ?_, ?_, ?_⟩
                · refine ⟨by omega, ?_⟩
                  rw [← h2, Str.rest_drop sep l (i + 1) (by omega)]
                  simp [List.getElem_drop, Nat.add_comm]
                · (try simp only []); omega
                · refine WK.env (Env.le.cons ?_ (Env.le.cons ?_ (Env.le.cons ?_ (Env.le.cons ?_ (Env.le.cons ?_ (Env.le.cons ?_ (Env.le.nil _))))))) ?_
                  all_goals first | exact Sub.refl _ | exact Sub.nil _ | ((repeat (first | exact Sub.refl _ | exact Sub.nil _ | refine Sub.cons _ ?_ | refine Sub.skip _ ?_)); done) | exact Wv.refl _ | exact Wv.any _ | exact Wv.tok _ _ _ | exact Wv.nil _ | (refine Wv.of_eq ?_; first | rfl | exact i64_congr (by omega) | (simp))
              ·
                have c7p := c7; try simp only [decide_eq_true_eq, decide_eq_false_iff_not, Bool.not_eq_true', Bool.not_eq_false', Bool.not_true, Bool.not_false, Bool.not_eq_eq_eq_not] at c7p
                have hd : (l.drop 1).length = l.length - 1 := by simp
                have hroom := Str.out_room sep out _ l h2 hb
                refine AW.exit ?_
                show AW _ _ _ _ _ _
                refine AW.seq ?_
                refine AW.region ?_
                show AR _ _ _ _ _ [0, 1] _
                refine AR.run rfl rfl ?_
                refine AO.call [.ty o8 44] rfl en30 rfl (Builder_String0 o8 (.pt o8 0) out t (by omega)) ?p5 ?k5 ?q5
                (case p5 => (exact (List.Perm.swap _ _ _).cons _))
                (case q5 => (rintro c A' ⟨h, _⟩; cases h))
                rintro av A' ⟨h, rfl⟩; cases h
                refine AR.run rfl rfl ?_
                refine AO.ops rfl rfl (opS_assign (av := .v _) rfl) ?_
                refine AR.nil ?_
                show AW _ _ _ _ _ _
                refine AW.ret ?_
                -- END 7 (ret)
                show RetPost _ _ _ _ .ret _
                rw [Str.rest_end sep l (i + 1) (by omega), List.append_nil] at h2
                rw [← h2]
                (refine ⟨rfl, _, _, ResV.oneW rfl ?_, ?_, ⟨rfl, rfl⟩⟩; all_goals first | exact Sub.refl _ | exact Sub.nil _ | ((repeat (first | exact Sub.refl _ | exact Sub.nil _ | refine Sub.cons _ ?_ | refine Sub.skip _ ?_)); done) | exact Wv.refl _ | exact Wv.tok _ _ _ | exact Wv.nil _)
end Go.Proofs.YtjhlnhipjomdeaaGreatDoor
