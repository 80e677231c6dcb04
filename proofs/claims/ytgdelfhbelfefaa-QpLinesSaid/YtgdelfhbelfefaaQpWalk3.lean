/-
  What the document's own functions compute, by content.
-/
import Derived.Test.YtgdelfhbelfefaaQpWalk2
import Derived.Test.YtgdelfhbelfefaaAvMost
set_option linter.unusedVariables false
set_option linter.unusedSimpArgs false
namespace Go.Proofs.Ytgdelfhbelfefaa
open Go.RowKit Go.Av

theorem dgI_bounds (c : UInt8) : -1 ≤ Qp.dgI c ∧ Qp.dgI c ≤ 15 := by
  unfold Qp.dgI
  cases h : Qp.dig c with
  | none => simp
  | some i =>
    have := dig_lt c.toNat c.toNat_lt i (by rw [UInt8.ofNat_toNat]; exact h)
    simp only; omega
theorem dgI_neg (c : UInt8) : Qp.dgI c < 0 ↔ (Qp.dig c).isSome = false := by
  unfold Qp.dgI
  cases h : Qp.dig c with
  | none => simp
  | some i => simp only [Option.isSome_some]; constructor <;> intro h <;> first | omega | cases h
theorem sub48 : ∀ n : Nat, n < 256 → 48 ≤ n → IntKind.i64.wrap (IntKind.u8.wrap ((n : Int) - 48)) = ((n - 48 : Nat) : Int) := by decide +kernel
theorem sub65 : ∀ n : Nat, n < 256 → 65 ≤ n → IntKind.i64.wrap (IntKind.u8.wrap ((n : Int) - 65)) = ((n - 65 : Nat) : Int) := by decide +kernel
theorem sub97 : ∀ n : Nat, n < 256 → 97 ≤ n → IntKind.i64.wrap (IntKind.u8.wrap ((n : Int) - 97)) = ((n - 97 : Nat) : Int) := by decide +kernel
theorem dg1 (c : UInt8) (h : 48 ≤ (c.toNat : Int) ∧ (c.toNat : Int) ≤ 57) : Qp.dgI c = ((c.toNat - 48 : Nat) : Int) := by
  unfold Qp.dgI Qp.dig; rw [if_pos (by omega)]
theorem dg2 (c : UInt8) (h : 65 ≤ (c.toNat : Int) ∧ (c.toNat : Int) ≤ 70) : Qp.dgI c = ((c.toNat - 55 : Nat) : Int) := by
  unfold Qp.dgI Qp.dig; rw [if_neg (by omega), if_pos (by omega)]
theorem dg3 (c : UInt8) (h : 97 ≤ (c.toNat : Int) ∧ (c.toNat : Int) ≤ 102) : Qp.dgI c = ((c.toNat - 87 : Nat) : Int) := by
  unfold Qp.dgI Qp.dig; rw [if_neg (by omega), if_neg (by omega), if_pos (by omega)]
theorem dg4 (c : UInt8) (h1 : ¬(48 ≤ (c.toNat : Int) ∧ (c.toNat : Int) ≤ 57)) (h2 : ¬(65 ≤ (c.toNat : Int) ∧ (c.toNat : Int) ≤ 70)) (h3 : ¬(97 ≤ (c.toNat : Int) ∧ (c.toNat : Int) ≤ 102)) : Qp.dgI c = -1 := by
  unfold Qp.dgI Qp.dig; rw [if_neg (by omega), if_neg (by omega), if_neg (by omega)]
theorem hexU (c d : UInt8) (hc : (Qp.dig c).isSome = true) (hd : (Qp.dig d).isSome = true) : AV.v (.int .u8 (IntKind.u8.wrap (16 * Qp.dgI c + Qp.dgI d))) = u8 (UInt8.ofNat (16 * (Qp.dig c).getD 0 + (Qp.dig d).getD 0)) := by
  have h1 := dig_getD c
  have h2 := dig_getD d
  unfold Qp.dgI
  cases h : Qp.dig c with
  | none => rw [h] at hc; cases hc
  | some i =>
    cases h' : Qp.dig d with
    | none => rw [h'] at hd; cases hd
    | some j =>
      rw [h] at h1; rw [h'] at h2
      simp only [Option.getD_some] at h1 h2 ⊢
      have e : ((UInt8.ofNat (16 * i + j)).toNat : Int) = 16 * i + j := by simp; omega
      show AV.v (.int .u8 _) = .v (.int .u8 _)
      rw [e, IntWalk.u8_in _ (by omega)]

theorem en16 : ∀ (args : Array Value) (w : World), (callFunc 16 args).run Try.prog w = .ok (.enter 16 args) w := fun _ _ => by kernel_rfl
theorem en11 : ∀ (args : Array Value) (w : World), (callFunc 11 args).run Try.prog w = .ok (.enter 11 args) w := fun _ _ => by kernel_rfl
theorem en19 : ∀ (args : Array Value) (w : World), (callFunc 19 args).run Try.prog w = .ok (.enter 19 args) w := fun _ _ => by kernel_rfl
theorem en20 : ∀ (args : Array Value) (w : World), (callFunc 20 args).run Try.prog w = .ok (.enter 20 args) w := fun _ _ => by kernel_rfl
theorem en13 : ∀ (args : Array Value) (w : World), (callFunc 13 args).run Try.prog w = .ok (.enter 13 args) w := fun _ _ => by kernel_rfl

/-! mailcoachref12.digit -/
set_option maxRecDepth 100000 in
set_option maxHeartbeats 1000000 in
theorem ref_digit (c : UInt8) :
    ACalls Try.prog 16 [u8 c] [] (Ret (i64 (Qp.dgI c)) []) := by
  refine ACalls.of_body Try.func16 rfl rfl ?_
  show AW _ _ 32 _ _ _
  refine AW.seq ?_
  refine AW.region ?_
  show AR _ _ _ _ _ [0] _
  refine AR.run rfl rfl ?_
  refine AO.ops rfl rfl (opS_assign (av := .v _) rfl) ?_
  refine AR.nil ?_
  show AW _ _ _ _ _ _
  refine AW.seq ?_
  refine AW.cut (X := Unit) (fun _ => ⟨[(0, u8 c), (8, B (decide (48 ≤ (c.toNat : Int) ∧ (c.toNat : Int) ≤ 57)))], [], []⟩) (fun _ => True) ?_ ?_
  ·
    refine AW.region ?_
    show AR _ _ _ _ _ [0, 1, 2, 3, 4, 5] _
    refine AR.run rfl rfl ?_
    refine AO.ops rfl rfl (opS_move (av := .v _) rfl) ?_
    refine AR.run rfl rfl ?_
    refine AO.ops rfl rfl (opS_ge rfl rfl) ?_
    refine AR.run rfl rfl ?_
    refine AO.ops rfl rfl (opS_move (av := .v _) rfl) ?_
    refine AR.guard rfl rfl rfl rfl rfl (fun g1 => ?_) (fun g1 d hd => ?_) (fun h => by cases h)
    ·
      have g1p := g1; try simp only [decide_eq_true_eq, decide_eq_false_iff_not, Bool.not_eq_true', Bool.not_eq_false', Bool.not_true, Bool.not_false, Bool.not_eq_eq_eq_not] at g1p
      refine AO.ops rfl rfl (opS_move (av := .v _) rfl) ?_
      refine AR.guard rfl rfl rfl rfl rfl (fun _ => ?_) (fun hx => bool_no g1 hx) (fun h => by cases h)
      refine AO.ops rfl rfl (opS_le rfl rfl) ?_
      refine AR.run rfl rfl ?_
      refine AO.ops rfl rfl (opS_pick_t (av := .v _) rfl g1 rfl) ?_
      refine AR.nil ?_
      -- END 1 (cut1)
      refine ⟨(), ?_, ?_⟩
      · trivial
      · refine WK.env (Env.le.cons ?_ (Env.le.cons ?_ (Env.le.nil _))) ?_
        all_goals first | exact Sub.refl _ | exact Sub.nil _ | ((repeat (first | exact Sub.refl _ | exact Sub.nil _ | refine Sub.cons _ ?_ | refine Sub.skip _ ?_)); done) | exact Wv.refl _ | exact Wv.any _ | exact Wv.tok _ _ _ | exact Wv.nil _ | (refine Wv.of_eq ?_; first | rfl | exact i64_congr (by omega) | (refine B_congr ?_; rw [Bool.eq_iff_iff]; simp; omega))
    ·
      cases hd; refine ⟨rfl, ?_⟩
      have g1p := g1; try simp only [decide_eq_true_eq, decide_eq_false_iff_not, Bool.not_eq_true', Bool.not_eq_false', Bool.not_true, Bool.not_false, Bool.not_eq_eq_eq_not] at g1p
      refine AR.guard rfl rfl rfl rfl rfl (fun hx => bool_no hx g1) (fun _ d hd => ?_) (fun h => by cases h)
      cases hd; refine ⟨rfl, ?_⟩
      refine AR.run rfl rfl ?_
      refine AO.ops rfl rfl (opS_pick_f (av := .v _) rfl g1 rfl) ?_
      refine AR.nil ?_
      -- END 2 (cut1)
      refine ⟨(), ?_, ?_⟩
      · trivial
      · refine WK.env (Env.le.cons ?_ (Env.le.cons ?_ (Env.le.nil _))) ?_
        all_goals first | exact Sub.refl _ | exact Sub.nil _ | ((repeat (first | exact Sub.refl _ | exact Sub.nil _ | refine Sub.cons _ ?_ | refine Sub.skip _ ?_)); done) | exact Wv.refl _ | exact Wv.any _ | exact Wv.tok _ _ _ | exact Wv.nil _ | (refine Wv.of_eq ?_; first | rfl | exact i64_congr (by omega) | (refine B_congr ?_; rw [Bool.eq_iff_iff]; simp; omega))
  · rintro _ _
    show AW _ _ _ _ _ _
    refine AW.cond rfl (fun c2 => ?_) (fun c2 => ?_)
    ·
      have c2p := c2; try simp only [decide_eq_true_eq, decide_eq_false_iff_not, Bool.not_eq_true', Bool.not_eq_false', Bool.not_true, Bool.not_false, Bool.not_eq_eq_eq_not] at c2p
      refine AW.seq ?_
      refine AW.region ?_
      show AR _ _ _ _ _ [0, 1, 2, 3] _
      refine AR.run rfl rfl ?_
      refine AO.ops rfl rfl (opS_move (av := .v _) rfl) ?_
      refine AR.run rfl rfl ?_
      refine AO.ops rfl rfl (opS_subw rfl rfl) ?_
      refine AR.run rfl rfl ?_
      refine AO.ops rfl rfl (OpS.eq (av' := i64 ((c.toNat - 48 : Nat) : Int)) (opS_conv_int rfl rfl rfl) ?h1) ?_
      (case h1 => (exact i64_congr (sub48 _ c.toNat_lt (by omega))))
      refine AR.run rfl rfl ?_
      refine AO.ops rfl rfl (opS_assign (av := .v _) rfl) ?_
      refine AR.nil ?_
      show AW _ _ _ _ _ _
      refine AW.ret ?_
      -- END 3 (ret)
      show RetPost _ _ _ _ .ret _
      rw [dg1 c c2p]
      (refine ⟨rfl, _, _, ResV.oneW rfl ?_, ?_, ⟨rfl, rfl⟩⟩; all_goals first | exact Sub.refl _ | exact Sub.nil _ | ((repeat (first | exact Sub.refl _ | exact Sub.nil _ | refine Sub.cons _ ?_ | refine Sub.skip _ ?_)); done) | exact Wv.refl _ | exact Wv.tok _ _ _ | exact Wv.nil _)
    ·
      have c2p := c2; try simp only [decide_eq_true_eq, decide_eq_false_iff_not, Bool.not_eq_true', Bool.not_eq_false', Bool.not_true, Bool.not_false, Bool.not_eq_eq_eq_not] at c2p
      refine AW.skip ?_
      show AW _ _ _ _ _ _
      refine AW.seq ?_
      refine AW.cut (X := Unit) (fun _ => ⟨[(0, u8 c), (17, B (decide (65 ≤ (c.toNat : Int) ∧ (c.toNat : Int) ≤ 70)))], [], []⟩) (fun _ => True) ?_ ?_
      ·
        refine AW.region ?_
        show AR _ _ _ _ _ [0, 1, 2, 3, 4, 5] _
        refine AR.run rfl rfl ?_
        refine AO.ops rfl rfl (opS_move (av := .v _) rfl) ?_
        refine AR.run rfl rfl ?_
        refine AO.ops rfl rfl (opS_ge rfl rfl) ?_
        refine AR.run rfl rfl ?_
        refine AO.ops rfl rfl (opS_move (av := .v _) rfl) ?_
        refine AR.guard rfl rfl rfl rfl rfl (fun g3 => ?_) (fun g3 d hd => ?_) (fun h => by cases h)
        ·
          have g3p := g3; try simp only [decide_eq_true_eq, decide_eq_false_iff_not, Bool.not_eq_true', Bool.not_eq_false', Bool.not_true, Bool.not_false, Bool.not_eq_eq_eq_not] at g3p
          refine AO.ops rfl rfl (opS_move (av := .v _) rfl) ?_
          refine AR.guard rfl rfl rfl rfl rfl (fun _ => ?_) (fun hx => bool_no g3 hx) (fun h => by cases h)
          refine AO.ops rfl rfl (opS_le rfl rfl) ?_
          refine AR.run rfl rfl ?_
          refine AO.ops rfl rfl (opS_pick_t (av := .v _) rfl g3 rfl) ?_
          refine AR.nil ?_
          -- END 4 (cut3)
          refine ⟨(), ?_, ?_⟩
          · trivial
          · refine WK.env (Env.le.cons ?_ (Env.le.cons ?_ (Env.le.nil _))) ?_
            all_goals first | exact Sub.refl _ | exact Sub.nil _ | ((repeat (first | exact Sub.refl _ | exact Sub.nil _ | refine Sub.cons _ ?_ | refine Sub.skip _ ?_)); done) | exact Wv.refl _ | exact Wv.any _ | exact Wv.tok _ _ _ | exact Wv.nil _ | (refine Wv.of_eq ?_; first | rfl | exact i64_congr (by omega) | (refine B_congr ?_; rw [Bool.eq_iff_iff]; simp; omega))
        ·
          cases hd; refine ⟨rfl, ?_⟩
          have g3p := g3; try simp only [decide_eq_true_eq, decide_eq_false_iff_not, Bool.not_eq_true', Bool.not_eq_false', Bool.not_true, Bool.not_false, Bool.not_eq_eq_eq_not] at g3p
          refine AR.guard rfl rfl rfl rfl rfl (fun hx => bool_no hx g3) (fun _ d hd => ?_) (fun h => by cases h)
          cases hd; refine ⟨rfl, ?_⟩
          refine AR.run rfl rfl ?_
          refine AO.ops rfl rfl (opS_pick_f (av := .v _) rfl g3 rfl) ?_
          refine AR.nil ?_
          -- END 5 (cut3)
          refine ⟨(), ?_, ?_⟩
          · trivial
          · refine WK.env (Env.le.cons ?_ (Env.le.cons ?_ (Env.le.nil _))) ?_
            all_goals first | exact Sub.refl _ | exact Sub.nil _ | ((repeat (first | exact Sub.refl _ | exact Sub.nil _ | refine Sub.cons _ ?_ | refine Sub.skip _ ?_)); done) | exact Wv.refl _ | exact Wv.any _ | exact Wv.tok _ _ _ | exact Wv.nil _ | (refine Wv.of_eq ?_; first | rfl | exact i64_congr (by omega) | (refine B_congr ?_; rw [Bool.eq_iff_iff]; simp; omega))
      · rintro _ _
        show AW _ _ _ _ _ _
        refine AW.cond rfl (fun c4 => ?_) (fun c4 => ?_)
        ·
          have c4p := c4; try simp only [decide_eq_true_eq, decide_eq_false_iff_not, Bool.not_eq_true', Bool.not_eq_false', Bool.not_true, Bool.not_false, Bool.not_eq_eq_eq_not] at c4p
          refine AW.seq ?_
          refine AW.region ?_
          show AR _ _ _ _ _ [0, 1, 2, 3, 4] _
          refine AR.run rfl rfl ?_
          refine AO.ops rfl rfl (opS_move (av := .v _) rfl) ?_
          refine AR.run rfl rfl ?_
          refine AO.ops rfl rfl (opS_subw rfl rfl) ?_
          refine AR.run rfl rfl ?_
          refine AO.ops rfl rfl (OpS.eq (av' := i64 ((c.toNat - 65 : Nat) : Int)) (opS_conv_int rfl rfl rfl) ?h2) ?_
          (case h2 => (exact i64_congr (sub65 _ c.toNat_lt (by omega))))
          refine AR.run rfl rfl ?_
          refine AO.ops rfl rfl (opS_add rfl rfl ?h4) ?_
          (case h4 => (omega))
          refine AR.run rfl rfl ?_
          refine AO.ops rfl rfl (opS_assign (av := .v _) rfl) ?_
          refine AR.nil ?_
          show AW _ _ _ _ _ _
          refine AW.ret ?_
          -- END 6 (ret)
          show RetPost _ _ _ _ .ret _
          rw [dg2 c c4p, show ((c.toNat - 55 : Nat) : Int) = ((c.toNat - 65 : Nat) : Int) + 10 by omega]
          (refine ⟨rfl, _, _, ResV.oneW rfl ?_, ?_, ⟨rfl, rfl⟩⟩; all_goals first | exact Sub.refl _ | exact Sub.nil _ | ((repeat (first | exact Sub.refl _ | exact Sub.nil _ | refine Sub.cons _ ?_ | refine Sub.skip _ ?_)); done) | exact Wv.refl _ | exact Wv.tok _ _ _ | exact Wv.nil _)
        ·
          have c4p := c4; try simp only [decide_eq_true_eq, decide_eq_false_iff_not, Bool.not_eq_true', Bool.not_eq_false', Bool.not_true, Bool.not_false, Bool.not_eq_eq_eq_not] at c4p
          refine AW.skip ?_
          show AW _ _ _ _ _ _
          refine AW.seq ?_
          refine AW.cut (X := Unit) (fun _ => ⟨[(0, u8 c), (27, B (decide (97 ≤ (c.toNat : Int) ∧ (c.toNat : Int) ≤ 102)))], [], []⟩) (fun _ => True) ?_ ?_
          ·
            refine AW.region ?_
            show AR _ _ _ _ _ [0, 1, 2, 3, 4, 5] _
            refine AR.run rfl rfl ?_
            refine AO.ops rfl rfl (opS_move (av := .v _) rfl) ?_
            refine AR.run rfl rfl ?_
            refine AO.ops rfl rfl (opS_ge rfl rfl) ?_
            refine AR.run rfl rfl ?_
            refine AO.ops rfl rfl (opS_move (av := .v _) rfl) ?_
            refine AR.guard rfl rfl rfl rfl rfl (fun g5 => ?_) (fun g5 d hd => ?_) (fun h => by cases h)
            ·
              have g5p := g5; try simp only [decide_eq_true_eq, decide_eq_false_iff_not, Bool.not_eq_true', Bool.not_eq_false', Bool.not_true, Bool.not_false, Bool.not_eq_eq_eq_not] at g5p
              refine AO.ops rfl rfl (opS_move (av := .v _) rfl) ?_
              refine AR.guard rfl rfl rfl rfl rfl (fun _ => ?_) (fun hx => bool_no g5 hx) (fun h => by cases h)
              refine AO.ops rfl rfl (opS_le rfl rfl) ?_
              refine AR.run rfl rfl ?_
              refine AO.ops rfl rfl (opS_pick_t (av := .v _) rfl g5 rfl) ?_
              refine AR.nil ?_
              -- END 7 (cut5)
              refine ⟨(), ?_, ?_⟩
              · trivial
              · refine WK.env (Env.le.cons ?_ (Env.le.cons ?_ (Env.le.nil _))) ?_
                all_goals first | exact Sub.refl _ | exact Sub.nil _ | ((repeat (first | exact Sub.refl _ | exact Sub.nil _ | refine Sub.cons _ ?_ | refine Sub.skip _ ?_)); done) | exact Wv.refl _ | exact Wv.any _ | exact Wv.tok _ _ _ | exact Wv.nil _ | (refine Wv.of_eq ?_; first | rfl | exact i64_congr (by omega) | (refine B_congr ?_; rw [Bool.eq_iff_iff]; simp; omega))
            ·
              cases hd; refine ⟨rfl, ?_⟩
              have g5p := g5; try simp only [decide_eq_true_eq, decide_eq_false_iff_not, Bool.not_eq_true', Bool.not_eq_false', Bool.not_true, Bool.not_false, Bool.not_eq_eq_eq_not] at g5p
              refine AR.guard rfl rfl rfl rfl rfl (fun hx => bool_no hx g5) (fun _ d hd => ?_) (fun h => by cases h)
              cases hd; refine ⟨rfl, ?_⟩
              refine AR.run rfl rfl ?_
              refine AO.ops rfl rfl (opS_pick_f (av := .v _) rfl g5 rfl) ?_
              refine AR.nil ?_
              -- END 8 (cut5)
              refine ⟨(), ?_, ?_⟩
              · trivial
              · refine WK.env (Env.le.cons ?_ (Env.le.cons ?_ (Env.le.nil _))) ?_
                all_goals first | exact Sub.refl _ | exact Sub.nil _ | ((repeat (first | exact Sub.refl _ | exact Sub.nil _ | refine Sub.cons _ ?_ | refine Sub.skip _ ?_)); done) | exact Wv.refl _ | exact Wv.any _ | exact Wv.tok _ _ _ | exact Wv.nil _ | (refine Wv.of_eq ?_; first | rfl | exact i64_congr (by omega) | (refine B_congr ?_; rw [Bool.eq_iff_iff]; simp; omega))
          · rintro _ _
            show AW _ _ _ _ _ _
            refine AW.cond rfl (fun c6 => ?_) (fun c6 => ?_)
            ·
              have c6p := c6; try simp only [decide_eq_true_eq, decide_eq_false_iff_not, Bool.not_eq_true', Bool.not_eq_false', Bool.not_true, Bool.not_false, Bool.not_eq_eq_eq_not] at c6p
              refine AW.seq ?_
              refine AW.region ?_
              show AR _ _ _ _ _ [0, 1, 2, 3, 4] _
              refine AR.run rfl rfl ?_
              refine AO.ops rfl rfl (opS_move (av := .v _) rfl) ?_
              refine AR.run rfl rfl ?_
              refine AO.ops rfl rfl (opS_subw rfl rfl) ?_
              refine AR.run rfl rfl ?_
              refine AO.ops rfl rfl (OpS.eq (av' := i64 ((c.toNat - 97 : Nat) : Int)) (opS_conv_int rfl rfl rfl) ?h5) ?_
              (case h5 => (exact i64_congr (sub97 _ c.toNat_lt (by omega))))
              refine AR.run rfl rfl ?_
              refine AO.ops rfl rfl (opS_add rfl rfl ?h7) ?_
              (case h7 => (omega))
              refine AR.run rfl rfl ?_
              refine AO.ops rfl rfl (opS_assign (av := .v _) rfl) ?_
              refine AR.nil ?_
              show AW _ _ _ _ _ _
              refine AW.ret ?_
              -- END 9 (ret)
              show RetPost _ _ _ _ .ret _
              rw [dg3 c c6p, show ((c.toNat - 87 : Nat) : Int) = ((c.toNat - 97 : Nat) : Int) + 10 by omega]
              (refine ⟨rfl, _, _, ResV.oneW rfl ?_, ?_, ⟨rfl, rfl⟩⟩; all_goals first | exact Sub.refl _ | exact Sub.nil _ | ((repeat (first | exact Sub.refl _ | exact Sub.nil _ | refine Sub.cons _ ?_ | refine Sub.skip _ ?_)); done) | exact Wv.refl _ | exact Wv.tok _ _ _ | exact Wv.nil _)
            ·
              have c6p := c6; try simp only [decide_eq_true_eq, decide_eq_false_iff_not, Bool.not_eq_true', Bool.not_eq_false', Bool.not_true, Bool.not_false, Bool.not_eq_eq_eq_not] at c6p
              refine AW.skip ?_
              show AW _ _ _ _ _ _
              refine AW.seq ?_
              refine AW.region ?_
              show AR _ _ _ _ _ [0] _
              refine AR.run rfl rfl ?_
              refine AO.ops rfl rfl (opS_assign (av := .v _) rfl) ?_
              refine AR.nil ?_
              show AW _ _ _ _ _ _
              refine AW.ret ?_
              -- END 10 (ret)
              show RetPost _ _ _ _ .ret _
              rw [dg4 c c2p c4p c6p]
              (refine ⟨rfl, _, _, ResV.oneW rfl ?_, ?_, ⟨rfl, rfl⟩⟩; all_goals first | exact Sub.refl _ | exact Sub.nil _ | ((repeat (first | exact Sub.refl _ | exact Sub.nil _ | refine Sub.cons _ ?_ | refine Sub.skip _ ?_)); done) | exact Wv.refl _ | exact Wv.tok _ _ _ | exact Wv.nil _)

/-! mailcoachref12.Hex -/
set_option maxRecDepth 100000 in
set_option maxHeartbeats 1000000 in
theorem ref_Hex (c : UInt8) :
    ACalls Try.prog 19 [u8 c] [] (Ret (S [Qp.dg (c.toNat / 16), Qp.dg (c.toNat % 16)]) []) := by
  have hc := c.toNat_lt
  refine ACalls.of_body Try.func19 rfl rfl ?_
  show AW _ _ 22 _ _ _
  refine AW.seq ?_
  refine AW.region ?_
  show AR _ _ _ _ _ [0] _
  refine AR.run rfl rfl ?_
  refine AO.ops rfl rfl (opS_assign (av := .v _) rfl) ?_
  refine AR.nil ?_
  show AW _ _ _ _ _ _
  refine AW.seq ?_
  refine AW.region ?_
  show AR _ _ _ _ _ [0] _
  refine AR.run rfl rfl ?_
  refine AO.ops rfl rfl (opS_assign (av := .v _) rfl) ?_
  refine AR.nil ?_
  show AW _ _ _ _ _ _
  refine AW.seq ?_
  refine AW.region ?_
  show AR _ _ _ _ _ [0, 1, 2] _
  refine AR.run rfl rfl ?_
  refine AO.ops rfl rfl (opS_move (av := .v _) rfl) ?_
  refine AR.run rfl rfl ?_
  first | (refine AO.ops rfl rfl (opS_conv_u8 (by kernel_rfl) Try.underlying3 rfl) ?_) | (refine AO.ops rfl rfl (opS_conv_int (by kernel_rfl) Try.underlying3 rfl) ?_)
  refine AR.run rfl rfl ?_
  refine AO.ops rfl rfl (opS_assign (av := .v _) rfl) ?_
  refine AR.nil ?_
  show AW _ _ _ _ _ _
  refine AW.seq ?_
  refine AW.region_draw (by kernel_rfl) ?_
  show AI _ _ _ _ 16 (Array.replicate 16 false) _
  refine AI.take (i := 0) rfl rfl (by kernel_rfl) (by kernel_rfl) (by kernel_rfl) (fun _ _ h => by obtain ⟨_, _, _, h, _⟩ := h; cases h) (opS_move (av := .v _) rfl) ?_
  show AI _ _ _ _ _ #[true, false, false, false, false, false, false, false, false, false, false, false, false, false, false, false] _
  refine AI.take (i := 1) rfl rfl (by kernel_rfl) (by kernel_rfl) (by kernel_rfl) (fun _ _ h => by obtain ⟨_, _, _, h, _⟩ := h; cases h) (opS_move (av := .v _) rfl) ?_
  show AI _ _ _ _ _ #[true, true, false, false, false, false, false, false, false, false, false, false, false, false, false, false] _
  refine AI.take (i := 2) rfl rfl (by kernel_rfl) (by kernel_rfl) (by kernel_rfl) (fun _ _ h => by obtain ⟨_, _, _, h, _⟩ := h; cases h) (opS_quo rfl rfl ?h2) ?_; (case h2 => (omega))
  show AI _ _ _ _ _ #[true, true, true, false, false, false, false, false, false, false, false, false, false, false, false, false] _
  refine AI.take (i := 3) rfl rfl (by kernel_rfl) (by kernel_rfl) (by kernel_rfl) (fun _ _ h => by obtain ⟨_, _, _, h, _⟩ := h; cases h) (opS_move (av := .v _) rfl) ?_
  show AI _ _ _ _ _ #[true, true, true, true, false, false, false, false, false, false, false, false, false, false, false, false] _
  refine AI.take (i := 4) rfl rfl (by kernel_rfl) (by kernel_rfl) (by kernel_rfl) (fun _ _ h => by obtain ⟨_, _, _, h, _⟩ := h; cases h) (opS_quo rfl rfl ?h4) ?_; (case h4 => (omega))
  show AI _ _ _ _ _ #[true, true, true, true, true, false, false, false, false, false, false, false, false, false, false, false] _
  refine AI.take (i := 5) rfl rfl (by kernel_rfl) (by kernel_rfl) (by kernel_rfl) (fun _ _ h => by obtain ⟨_, _, _, h, _⟩ := h; cases h) (opS_add rfl rfl ?h6) ?_; (case h6 => (omega))
  show AI _ _ _ _ _ #[true, true, true, true, true, true, false, false, false, false, false, false, false, false, false, false] _
  refine AI.take (i := 6) rfl rfl (by kernel_rfl) (by kernel_rfl) (by kernel_rfl) (fun _ _ h => by obtain ⟨_, _, _, h, _⟩ := h; cases h) (opS_slice_str (lo := c.toNat / 16) (hi := c.toNat / 16 + 1) Try.underlying9 rfl rfl rfl ?h9 ?h10 ?h11 ?h12) ?_; (case h9 => (omega)); (case h10 => (omega)); (case h11 => (first | omega | (simp; done) | (simp; omega))); (case h12 => (first | omega | (simp; done) | (simp; omega)))
  show AI _ _ _ _ _ #[true, true, true, true, true, true, true, false, false, false, false, false, false, false, false, false] _
  refine AI.take (i := 7) rfl rfl (by kernel_rfl) (by kernel_rfl) (by kernel_rfl) (fun _ _ h => by obtain ⟨_, _, _, h, _⟩ := h; cases h) (opS_move (av := .v _) rfl) ?_
  show AI _ _ _ _ _ #[true, true, true, true, true, true, true, true, false, false, false, false, false, false, false, false] _
  refine AI.take (i := 8) rfl rfl (by kernel_rfl) (by kernel_rfl) (by kernel_rfl) (fun _ _ h => by obtain ⟨_, _, _, h, _⟩ := h; cases h) (opS_move (av := .v _) rfl) ?_
  show AI _ _ _ _ _ #[true, true, true, true, true, true, true, true, true, false, false, false, false, false, false, false] _
  refine AI.take (i := 9) rfl rfl (by kernel_rfl) (by kernel_rfl) (by kernel_rfl) (fun _ _ h => by obtain ⟨_, _, _, h, _⟩ := h; cases h) (opS_rem rfl rfl ?h14) ?_; (case h14 => (omega))
  show AI _ _ _ _ _ #[true, true, true, true, true, true, true, true, true, true, false, false, false, false, false, false] _
  refine AI.take (i := 10) rfl rfl (by kernel_rfl) (by kernel_rfl) (by kernel_rfl) (fun _ _ h => by obtain ⟨_, _, _, h, _⟩ := h; cases h) (opS_move (av := .v _) rfl) ?_
  show AI _ _ _ _ _ #[true, true, true, true, true, true, true, true, true, true, true, false, false, false, false, false] _
  refine AI.take (i := 11) rfl rfl (by kernel_rfl) (by kernel_rfl) (by kernel_rfl) (fun _ _ h => by obtain ⟨_, _, _, h, _⟩ := h; cases h) (opS_rem rfl rfl ?h16) ?_; (case h16 => (omega))
  show AI _ _ _ _ _ #[true, true, true, true, true, true, true, true, true, true, true, true, false, false, false, false] _
  refine AI.take (i := 12) rfl rfl (by kernel_rfl) (by kernel_rfl) (by kernel_rfl) (fun _ _ h => by obtain ⟨_, _, _, h, _⟩ := h; cases h) (opS_add rfl rfl ?h18) ?_; (case h18 => (omega))
  show AI _ _ _ _ _ #[true, true, true, true, true, true, true, true, true, true, true, true, true, false, false, false] _
  refine AI.take (i := 13) rfl rfl (by kernel_rfl) (by kernel_rfl) (by kernel_rfl) (fun _ _ h => by obtain ⟨_, _, _, h, _⟩ := h; cases h) (opS_slice_str (lo := c.toNat % 16) (hi := c.toNat % 16 + 1) Try.underlying9 rfl rfl rfl ?h21 ?h22 ?h23 ?h24) ?_; (case h21 => (omega)); (case h22 => (omega)); (case h23 => (first | omega | (simp; done) | (simp; omega))); (case h24 => (first | omega | (simp; done) | (simp; omega)))
  show AI _ _ _ _ _ #[true, true, true, true, true, true, true, true, true, true, true, true, true, true, false, false] _
  refine AI.take (i := 14) rfl rfl (by kernel_rfl) (by kernel_rfl) (by kernel_rfl) (fun _ _ h => by obtain ⟨_, _, _, h, _⟩ := h; cases h) (opS_cat rfl rfl ?h26) ?_; (case h26 => (first | omega | (simp; done) | (simp; omega)))
  show AI _ _ _ _ _ #[true, true, true, true, true, true, true, true, true, true, true, true, true, true, true, false] _
  refine AI.take (i := 15) rfl rfl (by kernel_rfl) (by kernel_rfl) (by kernel_rfl) (fun _ _ h => by obtain ⟨_, _, _, h, _⟩ := h; cases h) (opS_assign (av := .v _) rfl) ?_
  show AI _ _ _ _ _ #[true, true, true, true, true, true, true, true, true, true, true, true, true, true, true, true] _
  refine AI.done rfl ?_
  show AW _ _ _ _ _ _
  refine AW.ret ?_
  -- END 1 (ret)
  show RetPost _ _ _ _ .ret _
  rw [← Qp.hexcat c]
  (refine ⟨rfl, _, _, ResV.oneW rfl ?_, ?_, ⟨rfl, rfl⟩⟩; all_goals first | exact Sub.refl _ | exact Sub.nil _ | ((repeat (first | exact Sub.refl _ | exact Sub.nil _ | refine Sub.cons _ ?_ | refine Sub.skip _ ?_)); done) | exact Wv.refl _ | exact Wv.tok _ _ _ | exact Wv.nil _)

/-! mailcoachref12.plain -/
set_option maxRecDepth 100000 in
set_option maxHeartbeats 1000000 in
theorem ref_plain (b : List UInt8) (i : Nat) (tb : Option Nat) (h : i < b.length) (hb : b.length ≤ 100000000) :
    ACalls Try.prog 20 [slE Enc.byte b tb, i64 i] [] (Ret (B (Qp.plainB b[i] (b.drop (i + 1)))) []) := by
  refine ACalls.of_body Try.func20 rfl rfl ?_
  show AW _ _ 39 _ _ _
  refine AW.seq ?_
  refine AW.region ?_
  show AR _ _ _ _ _ [0] _
  refine AR.run rfl rfl ?_
  refine AO.ops rfl rfl (opS_assign (av := .v _) rfl) ?_
  refine AR.nil ?_
  show AW _ _ _ _ _ _
  refine AW.seq ?_
  refine AW.region ?_
  show AR _ _ _ _ _ [0, 1, 2, 3, 4] _
  refine AR.run rfl rfl ?_
  first | (refine AO.ops rfl rfl (opS_move (av := slE _ _ _) rfl) ?_) | (refine AO.ops rfl rfl (opS_move (av := .v _) rfl) ?_) | (refine AO.ops rfl rfl (opS_move (av := .vw _ _ _ _) rfl) ?_)
  refine AR.run rfl rfl ?_
  refine AO.ops rfl rfl (opS_move (av := .v _) rfl) ?_
  refine AR.run rfl rfl ?_
  refine AO.ops rfl rfl (opS_indexAddr_lt Try.underlying22 (by kernel_rfl) rfl rfl rfl ?h1) ?_
  (case h1 => (omega))
  refine AR.run rfl rfl ?_
  first | refine AO.ops rfl rfl (opS_load_cp Try.underlying5 rfl rfl) ?_ | refine AO.op rfl rfl (opR_load_pt (i := 0) Try.underlying5 rfl rfl rfl rfl) ?_ | refine AO.op rfl rfl (opR_load_pt (i := 1) Try.underlying5 rfl rfl rfl rfl) ?_ | refine AO.op rfl rfl (opR_load_pt (i := 2) Try.underlying5 rfl rfl rfl rfl) ?_ | refine AO.op rfl rfl (opR_load_pt (i := 3) Try.underlying5 rfl rfl rfl rfl) ?_
  refine AR.run rfl rfl ?_
  refine AO.ops rfl rfl (opS_assign (av := .v _) rfl) ?_
  refine AR.nil ?_
  show AW _ _ _ _ _ _
  refine AW.seq ?_
  refine AW.cut (X := Unit) (fun _ => ⟨[(0, slE Enc.byte b tb), (1, i64 i), (5, u8 b[i]), (15, B (decide (b[i].toNat = 32 ∨ b[i].toNat = 9)))], [], []⟩) (fun _ => True) ?_ ?_
  ·
    refine AW.region ?_
    show AR _ _ _ _ _ [0, 1, 2, 3, 4, 5] _
    refine AR.run rfl rfl ?_
    refine AO.ops rfl rfl (opS_move (av := .v _) rfl) ?_
    refine AR.run rfl rfl ?_
    refine AO.ops rfl rfl (opS_eqi rfl rfl) ?_
    refine AR.run rfl rfl ?_
    refine AO.ops rfl rfl (opS_move (av := .v _) rfl) ?_
    refine AR.guard rfl rfl rfl rfl rfl (fun g1 => ?_) (fun g1 d hd => ?_) (fun h => by cases h)
    ·
      have g1p := g1; try simp only [decide_eq_true_eq, decide_eq_false_iff_not, Bool.not_eq_true', Bool.not_eq_false', Bool.not_true, Bool.not_false, Bool.not_eq_eq_eq_not] at g1p
      refine AO.ops rfl rfl (opS_move (av := .v _) rfl) ?_
      refine AR.guard rfl rfl rfl rfl rfl (fun _ => ?_) (fun hx => bool_no hx g1) (fun h => by cases h)
      refine AO.ops rfl rfl (opS_eqi rfl rfl) ?_
      refine AR.run rfl rfl ?_
      refine AO.ops rfl rfl (opS_pick_f (av := .v _) rfl g1 rfl) ?_
      refine AR.nil ?_
      -- END 1 (cut2)
      refine ⟨(), ?_, ?_⟩
      · trivial
      · refine WK.env (Env.le.cons ?_ (Env.le.cons ?_ (Env.le.cons ?_ (Env.le.cons ?_ (Env.le.nil _))))) ?_
        all_goals first | exact Sub.refl _ | exact Sub.nil _ | ((repeat (first | exact Sub.refl _ | exact Sub.nil _ | refine Sub.cons _ ?_ | refine Sub.skip _ ?_)); done) | exact Wv.refl _ | exact Wv.any _ | exact Wv.tok _ _ _ | exact Wv.nil _ | (refine Wv.of_eq ?_; first | rfl | exact i64_congr (by omega) | (refine B_congr ?_; rw [Bool.eq_iff_iff]; simp; omega))
    ·
      cases hd; refine ⟨rfl, ?_⟩
      have g1p := g1; try simp only [decide_eq_true_eq, decide_eq_false_iff_not, Bool.not_eq_true', Bool.not_eq_false', Bool.not_true, Bool.not_false, Bool.not_eq_eq_eq_not] at g1p
      refine AR.guard rfl rfl rfl rfl rfl (fun hx => bool_no g1 hx) (fun _ d hd => ?_) (fun h => by cases h)
      cases hd; refine ⟨rfl, ?_⟩
      refine AR.run rfl rfl ?_
      refine AO.ops rfl rfl (opS_pick_t (av := .v _) rfl g1 rfl) ?_
      refine AR.nil ?_
      -- END 2 (cut2)
      refine ⟨(), ?_, ?_⟩
      · trivial
      · refine WK.env (Env.le.cons ?_ (Env.le.cons ?_ (Env.le.cons ?_ (Env.le.cons ?_ (Env.le.nil _))))) ?_
        all_goals first | exact Sub.refl _ | exact Sub.nil _ | ((repeat (first | exact Sub.refl _ | exact Sub.nil _ | refine Sub.cons _ ?_ | refine Sub.skip _ ?_)); done) | exact Wv.refl _ | exact Wv.any _ | exact Wv.tok _ _ _ | exact Wv.nil _ | (refine Wv.of_eq ?_; first | rfl | exact i64_congr (by omega) | (refine B_congr ?_; rw [Bool.eq_iff_iff]; simp; omega))
  · rintro _ _
    show AW _ _ _ _ _ _
    refine AW.cond rfl (fun c2 => ?_) (fun c2 => ?_)
    ·
      have c2p := c2; try simp only [decide_eq_true_eq, decide_eq_false_iff_not, Bool.not_eq_true', Bool.not_eq_false', Bool.not_true, Bool.not_false, Bool.not_eq_eq_eq_not] at c2p
      refine AW.seq ?_
      refine AW.region ?_
      show AR _ _ _ _ _ [0, 1, 2, 3, 4, 5, 6, 7, 8, 9, 10, 11, 12, 13] _
      refine AR.run rfl rfl ?_
      refine AO.ops rfl rfl (opS_move (av := .v _) rfl) ?_
      refine AR.run rfl rfl ?_
      refine AO.ops rfl rfl (opS_add rfl rfl ?h3) ?_
      (case h3 => (omega))
      refine AR.run rfl rfl ?_
      first | (refine AO.ops rfl rfl (opS_move (av := slE _ _ _) rfl) ?_) | (refine AO.ops rfl rfl (opS_move (av := .v _) rfl) ?_) | (refine AO.ops rfl rfl (opS_move (av := .vw _ _ _ _) rfl) ?_)
      refine AR.run rfl rfl ?_
      first | (refine AO.ops rfl rfl (opS_len_sl Try.underlying22 rfl) ?_) | (refine AO.ops rfl rfl (opS_len_nil Try.underlying22 rfl) ?_)
      refine AR.run rfl rfl ?_
      refine AO.ops rfl rfl (opS_lt rfl rfl) ?_
      refine AR.run rfl rfl ?_
      refine AO.ops rfl rfl (opS_move (av := .v _) rfl) ?_
      refine AR.guard rfl rfl rfl rfl rfl (fun g3 => ?_) (fun g3 d hd => ?_) (fun h => by cases h)
      ·
        have g3p := g3; try simp only [decide_eq_true_eq, decide_eq_false_iff_not, Bool.not_eq_true', Bool.not_eq_false', Bool.not_true, Bool.not_false, Bool.not_eq_eq_eq_not] at g3p
        first | (refine AO.ops rfl rfl (opS_move (av := slE _ _ _) rfl) ?_) | (refine AO.ops rfl rfl (opS_move (av := .v _) rfl) ?_) | (refine AO.ops rfl rfl (opS_move (av := .vw _ _ _ _) rfl) ?_)
        refine AR.guard rfl rfl rfl rfl rfl (fun _ => ?_) (fun hx => bool_no g3 hx) (fun h => by cases h)
        refine AO.ops rfl rfl (opS_move (av := .v _) rfl) ?_
        refine AR.guard rfl rfl rfl rfl rfl (fun _ => ?_) (fun hx => bool_no g3 hx) (fun h => by cases h)
        refine AO.ops rfl rfl (opS_add rfl rfl ?h5) ?_
        (case h5 => (omega))
        refine AR.guard rfl rfl rfl rfl rfl (fun _ => ?_) (fun hx => bool_no g3 hx) (fun h => by cases h)
        refine AO.ops rfl rfl (opS_indexAddr_lt (m := i + 1) Try.underlying22 (by kernel_rfl) rfl rfl ?h6 ?h7) ?_
        (case h6 => (omega))
        (case h7 => (omega))
        refine AR.guard rfl rfl rfl rfl rfl (fun _ => ?_) (fun hx => bool_no g3 hx) (fun h => by cases h)
        first | refine AO.ops rfl rfl (opS_load_cp Try.underlying5 rfl rfl) ?_ | refine AO.op rfl rfl (opR_load_pt (i := 0) Try.underlying5 rfl rfl rfl rfl) ?_ | refine AO.op rfl rfl (opR_load_pt (i := 1) Try.underlying5 rfl rfl rfl rfl) ?_ | refine AO.op rfl rfl (opR_load_pt (i := 2) Try.underlying5 rfl rfl rfl rfl) ?_ | refine AO.op rfl rfl (opR_load_pt (i := 3) Try.underlying5 rfl rfl rfl rfl) ?_
        refine AR.guard rfl rfl rfl rfl rfl (fun _ => ?_) (fun hx => bool_no g3 hx) (fun h => by cases h)
        refine AO.ops rfl rfl (opS_nei rfl rfl) ?_
        refine AR.run rfl rfl ?_
        refine AO.ops rfl rfl (opS_pick_t (av := .v _) rfl g3 rfl) ?_
        refine AR.run rfl rfl ?_
        refine AO.ops rfl rfl (opS_assign (av := .v _) rfl) ?_
        refine AR.nil ?_
        show AW _ _ _ _ _ _
        refine AW.ret ?_
        -- END 3 (ret)
        show RetPost _ _ _ _ .ret _
        (refine ⟨rfl, _, _, (ResV.one (av := .v _) rfl rfl), ?sub, Ret.mk ?_⟩)
        case sub => first | exact Sub.refl _ | exact Sub.nil _
        refine B_congr ?_
        rw [Bool.eq_iff_iff]
        first | rw [Qp.plainB_other _ _ (by assumption)] | rw [Qp.plainB_in _ _ _ (by omega)] | rw [Qp.plainB_out _ _ _ (by omega)]
        simp
        try omega
      ·
        cases hd; refine ⟨rfl, ?_⟩
        have g3p := g3; try simp only [decide_eq_true_eq, decide_eq_false_iff_not, Bool.not_eq_true', Bool.not_eq_false', Bool.not_true, Bool.not_false, Bool.not_eq_eq_eq_not] at g3p
        refine AR.guard rfl rfl rfl rfl rfl (fun hx => bool_no hx g3) (fun _ d hd => ?_) (fun h => by cases h)
        cases hd; refine ⟨rfl, ?_⟩
        refine AR.guard rfl rfl rfl rfl rfl (fun hx => bool_no hx g3) (fun _ d hd => ?_) (fun h => by cases h)
        cases hd; refine ⟨rfl, ?_⟩
        refine AR.guard rfl rfl rfl rfl rfl (fun hx => bool_no hx g3) (fun _ d hd => ?_) (fun h => by cases h)
        cases hd; refine ⟨rfl, ?_⟩
        refine AR.guard rfl rfl rfl rfl rfl (fun hx => bool_no hx g3) (fun _ d hd => ?_) (fun h => by cases h)
        cases hd; refine ⟨rfl, ?_⟩
        refine AR.guard rfl rfl rfl rfl rfl (fun hx => bool_no hx g3) (fun _ d hd => ?_) (fun h => by cases h)
        cases hd; refine ⟨rfl, ?_⟩
        refine AR.run rfl rfl ?_
        refine AO.ops rfl rfl (opS_pick_f (av := .v _) rfl g3 rfl) ?_
        refine AR.run rfl rfl ?_
        refine AO.ops rfl rfl (opS_assign (av := .v _) rfl) ?_
        refine AR.nil ?_
        show AW _ _ _ _ _ _
        refine AW.ret ?_
        -- END 4 (ret)
        show RetPost _ _ _ _ .ret _
        (refine ⟨rfl, _, _, (ResV.one (av := .v _) rfl rfl), ?sub, Ret.mk ?_⟩)
        case sub => first | exact Sub.refl _ | exact Sub.nil _
        refine B_congr ?_
        rw [Bool.eq_iff_iff]
        first | rw [Qp.plainB_other _ _ (by assumption)] | rw [Qp.plainB_in _ _ _ (by omega)] | rw [Qp.plainB_out _ _ _ (by omega)]
        simp
        try omega
    ·
      have c2p := c2; try simp only [decide_eq_true_eq, decide_eq_false_iff_not, Bool.not_eq_true', Bool.not_eq_false', Bool.not_true, Bool.not_false, Bool.not_eq_eq_eq_not] at c2p
      refine AW.skip ?_
      show AW _ _ _ _ _ _
      refine AW.seq ?_
      refine AW.region ?_
      show AR _ _ _ _ _ [0, 1, 2, 3, 4, 5, 6, 7, 8, 9, 10] _
      refine AR.run rfl rfl ?_
      refine AO.ops rfl rfl (opS_move (av := .v _) rfl) ?_
      refine AR.run rfl rfl ?_
      refine AO.ops rfl rfl (opS_ge rfl rfl) ?_
      refine AR.run rfl rfl ?_
      refine AO.ops rfl rfl (opS_move (av := .v _) rfl) ?_
      refine AR.guard rfl rfl rfl rfl rfl (fun g4 => ?_) (fun g4 d hd => ?_) (fun h => by cases h)
      ·
        have g4p := g4; try simp only [decide_eq_true_eq, decide_eq_false_iff_not, Bool.not_eq_true', Bool.not_eq_false', Bool.not_true, Bool.not_false, Bool.not_eq_eq_eq_not] at g4p
        refine AO.ops rfl rfl (opS_move (av := .v _) rfl) ?_
        refine AR.guard rfl rfl rfl rfl rfl (fun _ => ?_) (fun hx => bool_no g4 hx) (fun h => by cases h)
        refine AO.ops rfl rfl (opS_le rfl rfl) ?_
        refine AR.run rfl rfl ?_
        refine AO.ops rfl rfl (opS_pick_t (av := .v _) rfl g4 rfl) ?_
        refine AR.run rfl rfl ?_
        refine AO.ops rfl rfl (opS_move (av := .v _) rfl) ?_
        refine AR.guard rfl rfl rfl rfl rfl (fun g5 => ?_) (fun g5 d hd => ?_) (fun h => by cases h)
        ·
          have g5p := g5; try simp only [decide_eq_true_eq, decide_eq_false_iff_not, Bool.not_eq_true', Bool.not_eq_false', Bool.not_true, Bool.not_false, Bool.not_eq_eq_eq_not] at g5p
          refine AO.ops rfl rfl (opS_move (av := .v _) rfl) ?_
          refine AR.guard rfl rfl rfl rfl rfl (fun _ => ?_) (fun hx => bool_no g5 hx) (fun h => by cases h)
          refine AO.ops rfl rfl (opS_nei rfl rfl) ?_
          refine AR.run rfl rfl ?_
          refine AO.ops rfl rfl (opS_pick_t (av := .v _) rfl g5 rfl) ?_
          refine AR.run rfl rfl ?_
          refine AO.ops rfl rfl (opS_assign (av := .v _) rfl) ?_
          refine AR.nil ?_
          show AW _ _ _ _ _ _
          refine AW.ret ?_
          -- END 5 (ret)
          show RetPost _ _ _ _ .ret _
          (refine ⟨rfl, _, _, (ResV.one (av := .v _) rfl rfl), ?sub, Ret.mk ?_⟩)
          case sub => first | exact Sub.refl _ | exact Sub.nil _
          refine B_congr ?_
          rw [Bool.eq_iff_iff]
          first | rw [Qp.plainB_other _ _ (by assumption)] | rw [Qp.plainB_in _ _ _ (by omega)] | rw [Qp.plainB_out _ _ _ (by omega)]
          simp
          try omega
        ·
          cases hd; refine ⟨rfl, ?_⟩
          have g5p := g5; try simp only [decide_eq_true_eq, decide_eq_false_iff_not, Bool.not_eq_true', Bool.not_eq_false', Bool.not_true, Bool.not_false, Bool.not_eq_eq_eq_not] at g5p
          refine AR.guard rfl rfl rfl rfl rfl (fun hx => bool_no hx g5) (fun _ d hd => ?_) (fun h => by cases h)
          cases hd; refine ⟨rfl, ?_⟩
          refine AR.run rfl rfl ?_
          refine AO.ops rfl rfl (opS_pick_f (av := .v _) rfl g5 rfl) ?_
          refine AR.run rfl rfl ?_
          refine AO.ops rfl rfl (opS_assign (av := .v _) rfl) ?_
          refine AR.nil ?_
          show AW _ _ _ _ _ _
          refine AW.ret ?_
          -- END 6 (ret)
          show RetPost _ _ _ _ .ret _
          (refine ⟨rfl, _, _, (ResV.one (av := .v _) rfl rfl), ?sub, Ret.mk ?_⟩)
          case sub => first | exact Sub.refl _ | exact Sub.nil _
          refine B_congr ?_
          rw [Bool.eq_iff_iff]
          first | rw [Qp.plainB_other _ _ (by assumption)] | rw [Qp.plainB_in _ _ _ (by omega)] | rw [Qp.plainB_out _ _ _ (by omega)]
          simp
          try omega
      ·
        cases hd; refine ⟨rfl, ?_⟩
        have g4p := g4; try simp only [decide_eq_true_eq, decide_eq_false_iff_not, Bool.not_eq_true', Bool.not_eq_false', Bool.not_true, Bool.not_false, Bool.not_eq_eq_eq_not] at g4p
        refine AR.guard rfl rfl rfl rfl rfl (fun hx => bool_no hx g4) (fun _ d hd => ?_) (fun h => by cases h)
        cases hd; refine ⟨rfl, ?_⟩
        refine AR.run rfl rfl ?_
        refine AO.ops rfl rfl (opS_pick_f (av := .v _) rfl g4 rfl) ?_
        refine AR.run rfl rfl ?_
        refine AO.ops rfl rfl (opS_move (av := .v _) rfl) ?_
        refine AR.guard rfl rfl rfl rfl rfl (fun hx => bool_no hx (rfl : false = false)) (fun _ d hd => ?_) (fun h => by cases h)
        cases hd; refine ⟨rfl, ?_⟩
        refine AR.guard rfl rfl rfl rfl rfl (fun hx => bool_no hx (rfl : false = false)) (fun _ d hd => ?_) (fun h => by cases h)
        cases hd; refine ⟨rfl, ?_⟩
        refine AR.run rfl rfl ?_
        refine AO.ops rfl rfl (opS_pick_f (av := .v _) rfl (rfl : false = false) rfl) ?_
        refine AR.run rfl rfl ?_
        refine AO.ops rfl rfl (opS_assign (av := .v _) rfl) ?_
        refine AR.nil ?_
        show AW _ _ _ _ _ _
        refine AW.ret ?_
        -- END 7 (ret)
        show RetPost _ _ _ _ .ret _
        (refine ⟨rfl, _, _, (ResV.one (av := .v _) rfl rfl), ?sub, Ret.mk ?_⟩)
        case sub => first | exact Sub.refl _ | exact Sub.nil _
        refine B_congr ?_
        rw [Bool.eq_iff_iff]
        first | rw [Qp.plainB_other _ _ (by assumption)] | rw [Qp.plainB_in _ _ _ (by omega)] | rw [Qp.plainB_out _ _ _ (by omega)]
        simp
        try omega
end Go.Proofs.Ytgdelfhbelfefaa
