/-
  What the laws of quoted text compute: true, by content.
-/
import Derived.Test.YtgdelfhbelfefaaQpWalk4
import Derived.Test.YtgdelfhbelfefaaQpMore
set_option linter.unusedVariables false
set_option linter.unusedSimpArgs false
namespace Go.Proofs.Ytgdelfhbelfefaa
open Go.RowKit Go.Av
theorem back_call (b : List UInt8) (hb : (Qp.enc 0 b).length ≤ 100000000) : ACalls Try.prog 10 [slE Enc.byte (Qp.enc 0 b) none] [] (Ret (.tup [slE Enc.byte b none, i64 0]) []) := by
  have := qp_Decode (Qp.enc 0 b) none hb
  rw [Qp.back b 0] at this
  exact this
theorem ahead_call (b : List UInt8) (t : Option Nat) (hb : ([61, 13, 10] ++ b).length ≤ 100000000) : ACalls Try.prog 10 [slE Enc.byte ([61, 13, 10] ++ b) t] [] (Ret (.tup [slE Enc.byte ((Qp.decode b).getD []) none, i64 (if (Qp.decode b).isSome then 0 else 2)]) []) := by
  have := qp_Decode ([61, 13, 10] ++ b) t hb
  rw [Qp.soft_ahead b] at this
  exact this

theorem en9 : ∀ (args : Array Value) (w : World), (callFunc 9 args).run Try.prog w = .ok (.enter 9 args) w := fun _ _ => by kernel_rfl

/-! mailcoachlaw12.awake -/
set_option maxRecDepth 100000 in
set_option maxHeartbeats 1000000 in
theorem law_awake  :
    ACalls Try.prog 9 [] [] (Ret (B true) []) := by
  refine ACalls.of_body Try.func9 rfl rfl ?_
  show AW _ _ 23 _ _ _
  refine AW.seq ?_
  refine AW.region ?_
  show AR _ _ _ _ _ [0] _
  refine AR.run rfl rfl ?_
  refine AO.ops rfl rfl (opS_assign (av := .v _) rfl) ?_
  refine AR.nil ?_
  show AW _ _ _ _ _ _
  refine AW.seq ?_
  refine AW.region ?_
  show AR _ _ _ _ _ [0, 1, 2] _
  refine AR.run rfl rfl ?_
  refine AO.op rfl rfl (opR_buildE (E := Enc.byte) (bytes := 1) (xs := [.const (.int .u8 (195)), .const (.int .u8 (169)), .const (.int .u8 (10))]) (l := [(195), (169), (10)]) Try.underlying22 (by kernel_rfl) rfl rfl (by decide) rfl rfl) ?_
  refine AR.run rfl rfl ?_
  refine AO.callp rfl en12 rfl (qp_Encode _ _ (by simp)) ?_
  refine AR.run rfl rfl ?_
  first | (refine AO.ops rfl rfl (opS_assign (av := slE _ _ _) rfl) ?_) | (refine AO.ops rfl rfl (opS_assign (av := .v _) rfl) ?_) | (refine AO.ops rfl rfl (opS_assign (av := .vw _ _ _ _) rfl) ?_)
  refine AR.nil ?_
  show AW _ _ _ _ _ _
  refine AW.seq ?_
  refine AW.region ?_
  show AR _ _ _ _ _ [0, 1, 2, 3, 4, 5, 6] _
  refine AR.run rfl rfl ?_
  first | (refine AO.ops rfl rfl (opS_move (av := slE _ _ _) rfl) ?_) | (refine AO.ops rfl rfl (opS_move (av := .v _) rfl) ?_) | (refine AO.ops rfl rfl (opS_move (av := .vw _ _ _ _) rfl) ?_)
  refine AR.run rfl rfl ?_
  refine AO.callp rfl en10 rfl (back_call _ (by decide +kernel)) ?_
  refine AR.run rfl rfl ?_
  refine AO.ops rfl rfl (opS_move (av := .tup _) rfl) ?_
  refine AR.run rfl rfl ?_
  first | (refine AO.ops rfl rfl (opS_extract (av := slE _ _ _) rfl rfl) ?_) | (refine AO.ops rfl rfl (opS_extract (av := .v _) rfl rfl) ?_) | (refine AO.ops rfl rfl (opS_extract (av := .vw _ _ _ _) rfl rfl) ?_)
  refine AR.run rfl rfl ?_
  refine AO.ops rfl rfl (opS_extract (av := .v _) rfl rfl) ?_
  refine AR.run rfl rfl ?_
  first | (refine AO.ops rfl rfl (opS_assign (av := slE _ _ _) rfl) ?_) | (refine AO.ops rfl rfl (opS_assign (av := .v _) rfl) ?_) | (refine AO.ops rfl rfl (opS_assign (av := .vw _ _ _ _) rfl) ?_)
  refine AR.run rfl rfl ?_
  refine AO.ops rfl rfl (opS_assign (av := .v _) rfl) ?_
  refine AR.nil ?_
  show AW _ _ _ _ _ _
  refine AW.seq ?_
  refine AW.region ?_
  show AR _ _ _ _ _ [0, 1, 2, 3, 4, 5, 6, 7, 8, 9, 10, 11, 12] _
  refine AR.run rfl rfl ?_
  first | (refine AO.ops rfl rfl (opS_move (av := slE _ _ _) rfl) ?_) | (refine AO.ops rfl rfl (opS_move (av := .v _) rfl) ?_) | (refine AO.ops rfl rfl (opS_move (av := .vw _ _ _ _) rfl) ?_)
  refine AR.run rfl rfl ?_
  refine AO.ops rfl rfl (opS_conv_bytes_str Try.underlying22 Try.underlying5 Try.underlying9 rfl) ?_
  refine AR.run rfl rfl ?_
  refine AO.ops rfl rfl (opS_eqs rfl rfl) ?_
  refine AR.run rfl rfl ?_
  refine AO.ops rfl rfl (opS_move (av := .v _) rfl) ?_
  refine AR.guard rfl rfl rfl rfl rfl (fun g1 => ?_) (fun g1 d hd => ?_) (fun h => by cases h)
  ·
    have g1p := g1; try simp only [decide_eq_true_eq, decide_eq_false_iff_not, Bool.not_eq_true', Bool.not_eq_false', Bool.not_true, Bool.not_false, Bool.not_eq_eq_eq_not] at g1p
    refine AO.ops rfl rfl (opS_move (av := .v _) rfl) ?_
    refine AR.guard rfl rfl rfl rfl rfl (fun _ => ?_) (fun hx => bool_no g1 hx) (fun h => by cases h)
    refine AO.ops rfl rfl (opS_eqi rfl rfl) ?_
    refine AR.run rfl rfl ?_
    refine AO.ops rfl rfl (opS_pick_t (av := .v _) rfl g1 rfl) ?_
    refine AR.run rfl rfl ?_
    refine AO.ops rfl rfl (opS_move (av := .v _) rfl) ?_
    refine AR.guard rfl rfl rfl rfl rfl (fun g2 => ?_) (fun g2 d hd => ?_) (fun h => by cases h)
    ·
      have g2p := g2; try simp only [decide_eq_true_eq, decide_eq_false_iff_not, Bool.not_eq_true', Bool.not_eq_false', Bool.not_true, Bool.not_false, Bool.not_eq_eq_eq_not] at g2p
      first | (refine AO.ops rfl rfl (opS_move (av := slE _ _ _) rfl) ?_) | (refine AO.ops rfl rfl (opS_move (av := .v _) rfl) ?_) | (refine AO.ops rfl rfl (opS_move (av := .vw _ _ _ _) rfl) ?_)
      refine AR.guard rfl rfl rfl rfl rfl (fun _ => ?_) (fun hx => bool_no g2 hx) (fun h => by cases h)
      refine AO.ops rfl rfl (opS_conv_bytes_str Try.underlying22 Try.underlying5 Try.underlying9 rfl) ?_
      refine AR.guard rfl rfl rfl rfl rfl (fun _ => ?_) (fun hx => bool_no g2 hx) (fun h => by cases h)
      refine AO.ops rfl rfl (opS_eqs rfl rfl) ?_
      refine AR.run rfl rfl ?_
      refine AO.ops rfl rfl (opS_pick_t (av := .v _) rfl g2 rfl) ?_
      refine AR.run rfl rfl ?_
      refine AO.ops rfl rfl (opS_assign (av := .v _) rfl) ?_
      refine AR.nil ?_
      show AW _ _ _ _ _ _
      refine AW.ret ?_
      -- END 1 (ret)
      show RetPost _ _ _ _ .ret _
      (refine ⟨rfl, _, _, (ResV.one (av := .v _) rfl rfl), ?sub, Ret.mk ?_⟩)
      case sub => first | exact Sub.refl _ | exact Sub.nil _
      first | exact absurd Qp.awake1 g1p | (refine B_congr ?_; simp_all)
    ·
      cases hd; refine ⟨rfl, ?_⟩
      have g2p := g2; try simp only [decide_eq_true_eq, decide_eq_false_iff_not, Bool.not_eq_true', Bool.not_eq_false', Bool.not_true, Bool.not_false, Bool.not_eq_eq_eq_not] at g2p
      refine AR.guard rfl rfl rfl rfl rfl (fun hx => bool_no hx g2) (fun _ d hd => ?_) (fun h => by cases h)
      cases hd; refine ⟨rfl, ?_⟩
      refine AR.guard rfl rfl rfl rfl rfl (fun hx => bool_no hx g2) (fun _ d hd => ?_) (fun h => by cases h)
      cases hd; refine ⟨rfl, ?_⟩
      refine AR.run rfl rfl ?_
      refine AO.ops rfl rfl (opS_pick_f (av := .v _) rfl g2 rfl) ?_
      refine AR.run rfl rfl ?_
      refine AO.ops rfl rfl (opS_assign (av := .v _) rfl) ?_
      refine AR.nil ?_
      show AW _ _ _ _ _ _
      refine AW.ret ?_
      -- END 2 (ret)
      show RetPost _ _ _ _ .ret _
      (refine ⟨rfl, _, _, (ResV.one (av := .v _) rfl rfl), ?sub, Ret.mk ?_⟩)
      case sub => first | exact Sub.refl _ | exact Sub.nil _
      first | exact absurd Qp.awake1 g1p | (refine B_congr ?_; simp_all)
  ·
    cases hd; refine ⟨rfl, ?_⟩
    have g1p := g1; try simp only [decide_eq_true_eq, decide_eq_false_iff_not, Bool.not_eq_true', Bool.not_eq_false', Bool.not_true, Bool.not_false, Bool.not_eq_eq_eq_not] at g1p
    refine AR.guard rfl rfl rfl rfl rfl (fun hx => bool_no hx g1) (fun _ d hd => ?_) (fun h => by cases h)
    cases hd; refine ⟨rfl, ?_⟩
    refine AR.run rfl rfl ?_
    refine AO.ops rfl rfl (opS_pick_f (av := .v _) rfl g1 rfl) ?_
    refine AR.run rfl rfl ?_
    refine AO.ops rfl rfl (opS_move (av := .v _) rfl) ?_
    refine AR.guard rfl rfl rfl rfl rfl (fun hx => bool_no hx (rfl : false = false)) (fun _ d hd => ?_) (fun h => by cases h)
    cases hd; refine ⟨rfl, ?_⟩
    refine AR.guard rfl rfl rfl rfl rfl (fun hx => bool_no hx (rfl : false = false)) (fun _ d hd => ?_) (fun h => by cases h)
    cases hd; refine ⟨rfl, ?_⟩
    refine AR.guard rfl rfl rfl rfl rfl (fun hx => bool_no hx (rfl : false = false)) (fun _ d hd => ?_) (fun h => by cases h)
    cases hd; refine ⟨rfl, ?_⟩
    refine AR.run rfl rfl ?_
    refine AO.ops rfl rfl (opS_pick_f (av := .v _) rfl (rfl : false = false) rfl) ?_
    refine AR.run rfl rfl ?_
    refine AO.ops rfl rfl (opS_assign (av := .v _) rfl) ?_
    refine AR.nil ?_
    show AW _ _ _ _ _ _
    refine AW.ret ?_
    -- END 3 (ret)
    show RetPost _ _ _ _ .ret _
    (refine ⟨rfl, _, _, (ResV.one (av := .v _) rfl rfl), ?sub, Ret.mk ?_⟩)
    case sub => first | exact Sub.refl _ | exact Sub.nil _
    first | exact absurd Qp.awake1 g1p | (refine B_congr ?_; simp_all)

/-! mailcoachlaw12.QpBack -/
set_option maxRecDepth 100000 in
set_option maxHeartbeats 1000000 in
theorem law_Back (b : List UInt8) (tb : Option Nat) :
    ACalls Try.prog 4 [slE Enc.byte b tb] [] (Ret (B true) []) := by
  have hel := Qp.enc_length b 0
  refine ACalls.of_body Try.func4 rfl rfl ?_
  show AW _ _ 30 _ _ _
  refine AW.seq ?_
  refine AW.region ?_
  show AR _ _ _ _ _ [0] _
  refine AR.run rfl rfl ?_
  refine AO.ops rfl rfl (opS_assign (av := .v _) rfl) ?_
  refine AR.nil ?_
  show AW _ _ _ _ _ _
  refine AW.seq ?_
  refine AW.region ?_
  show AR _ _ _ _ _ [0, 1] _
  refine AR.run rfl rfl ?_
  refine AO.callp rfl en9 rfl law_awake ?_
  refine AR.run rfl rfl ?_
  refine AO.ops rfl rfl (opS_assign (av := .v _) rfl) ?_
  refine AR.nil ?_
  show AW _ _ _ _ _ _
  refine AW.seq ?_
  refine AW.cut (X := Unit) (fun _ => ⟨[(0, slE Enc.byte b tb), (3, B true), (13, B (decide (1000 < b.length)))], [], []⟩) (fun _ => True) ?_ ?_
  ·
    refine AW.region ?_
    show AR _ _ _ _ _ [0, 1, 2, 3, 4, 5, 6] _
    refine AR.run rfl rfl ?_
    refine AO.ops rfl rfl (opS_move (av := .v _) rfl) ?_
    refine AR.run rfl rfl ?_
    refine AO.ops rfl rfl (opS_not rfl) ?_
    refine AR.run rfl rfl ?_
    refine AO.ops rfl rfl (opS_move (av := .v _) rfl) ?_
    refine AR.guard rfl rfl rfl rfl rfl (fun g1 => ?_) (fun g1 d hd => ?_) (fun h => by cases h)
    ·
      have g1p := g1; try simp only [decide_eq_true_eq, decide_eq_false_iff_not, Bool.not_eq_true', Bool.not_eq_false', Bool.not_true, Bool.not_false, Bool.not_eq_eq_eq_not] at g1p
      first | (refine AO.ops rfl rfl (opS_move (av := slE _ _ _) rfl) ?_) | (refine AO.ops rfl rfl (opS_move (av := .v _) rfl) ?_) | (refine AO.ops rfl rfl (opS_move (av := .vw _ _ _ _) rfl) ?_)
      refine AR.guard rfl rfl rfl rfl rfl (fun _ => ?_) (fun hx => bool_no hx g1) (fun h => by cases h)
      first | (refine AO.ops rfl rfl (opS_len_sl Try.underlying22 rfl) ?_) | (refine AO.ops rfl rfl (opS_len_nil Try.underlying22 rfl) ?_)
      refine AR.guard rfl rfl rfl rfl rfl (fun _ => ?_) (fun hx => bool_no hx g1) (fun h => by cases h)
      refine AO.ops rfl rfl (opS_gt rfl rfl) ?_
      refine AR.run rfl rfl ?_
      refine AO.ops rfl rfl (opS_pick_f (av := .v _) rfl g1 rfl) ?_
      refine AR.nil ?_
      -- END 1 (cut2)
      refine ⟨(), ?_, ?_⟩
      · trivial
      · refine WK.env (Env.le.cons ?_ (Env.le.cons ?_ (Env.le.cons ?_ (Env.le.nil _)))) ?_
        all_goals first | exact Sub.refl _ | exact Sub.nil _ | ((repeat (first | exact Sub.refl _ | exact Sub.nil _ | refine Sub.cons _ ?_ | refine Sub.skip _ ?_)); done) | exact Wv.refl _ | exact Wv.any _ | exact Wv.tok _ _ _ | exact Wv.nil _ | (refine Wv.of_eq ?_; first | rfl | exact i64_congr (by omega) | (first | (exact absurd g1 (by decide)) | (refine B_congr ?_; rw [Bool.eq_iff_iff]; simp; try omega)))
    ·
      cases hd; refine ⟨rfl, ?_⟩
      have g1p := g1; try simp only [decide_eq_true_eq, decide_eq_false_iff_not, Bool.not_eq_true', Bool.not_eq_false', Bool.not_true, Bool.not_false, Bool.not_eq_eq_eq_not] at g1p
      refine AR.guard rfl rfl rfl rfl rfl (fun hx => bool_no g1 hx) (fun _ d hd => ?_) (fun h => by cases h)
      cases hd; refine ⟨rfl, ?_⟩
      refine AR.guard rfl rfl rfl rfl rfl (fun hx => bool_no g1 hx) (fun _ d hd => ?_) (fun h => by cases h)
      cases hd; refine ⟨rfl, ?_⟩
      refine AR.run rfl rfl ?_
      refine AO.ops rfl rfl (opS_pick_t (av := .v _) rfl g1 rfl) ?_
      refine AR.nil ?_
      -- END 2 (cut2)
      refine ⟨(), ?_, ?_⟩
      · trivial
      · refine WK.env (Env.le.cons ?_ (Env.le.cons ?_ (Env.le.cons ?_ (Env.le.nil _)))) ?_
        all_goals first | exact Sub.refl _ | exact Sub.nil _ | ((repeat (first | exact Sub.refl _ | exact Sub.nil _ | refine Sub.cons _ ?_ | refine Sub.skip _ ?_)); done) | exact Wv.refl _ | exact Wv.any _ | exact Wv.tok _ _ _ | exact Wv.nil _ | (refine Wv.of_eq ?_; first | rfl | exact i64_congr (by omega) | (first | (exact absurd g1 (by decide)) | (refine B_congr ?_; rw [Bool.eq_iff_iff]; simp; try omega)))
  · rintro _ _
    show AW _ _ _ _ _ _
    refine AW.cond rfl (fun c2 => ?_) (fun c2 => ?_)
    ·
      have c2p := c2; try simp only [decide_eq_true_eq, decide_eq_false_iff_not, Bool.not_eq_true', Bool.not_eq_false', Bool.not_true, Bool.not_false, Bool.not_eq_eq_eq_not] at c2p
      refine AW.seq ?_
      refine AW.region ?_
      show AR _ _ _ _ _ [0, 1] _
      refine AR.run rfl rfl ?_
      refine AO.ops rfl rfl (opS_move (av := .v _) rfl) ?_
      refine AR.run rfl rfl ?_
      refine AO.ops rfl rfl (opS_assign (av := .v _) rfl) ?_
      refine AR.nil ?_
      show AW _ _ _ _ _ _
      refine AW.ret ?_
      -- END 3 (ret)
      show RetPost _ _ _ _ .ret _
      (refine ⟨rfl, _, _, (ResV.one (av := .v _) rfl rfl), ?sub, Ret.mk ?_⟩)
      case sub => first | exact Sub.refl _ | exact Sub.nil _
      first | rfl | (refine B_congr ?_; simp_all)
    ·
      have c2p := c2; try simp only [decide_eq_true_eq, decide_eq_false_iff_not, Bool.not_eq_true', Bool.not_eq_false', Bool.not_true, Bool.not_false, Bool.not_eq_eq_eq_not] at c2p
      refine AW.skip ?_
      show AW _ _ _ _ _ _
      refine AW.seq ?_
      refine AW.region ?_
      show AR _ _ _ _ _ [0, 1, 2, 3, 4, 5, 6, 7] _
      refine AR.run rfl rfl ?_
      first | (refine AO.ops rfl rfl (opS_move (av := slE _ _ _) rfl) ?_) | (refine AO.ops rfl rfl (opS_move (av := .v _) rfl) ?_) | (refine AO.ops rfl rfl (opS_move (av := .vw _ _ _ _) rfl) ?_)
      refine AR.run rfl rfl ?_
      refine AO.callp rfl en12 rfl (qp_Encode _ _ (by first | omega | (simp; omega))) ?_
      refine AR.run rfl rfl ?_
      refine AO.callp rfl en10 rfl (back_call b (by omega)) ?_
      refine AR.run rfl rfl ?_
      refine AO.ops rfl rfl (opS_move (av := .tup _) rfl) ?_
      refine AR.run rfl rfl ?_
      first | (refine AO.ops rfl rfl (opS_extract (av := slE _ _ _) rfl rfl) ?_) | (refine AO.ops rfl rfl (opS_extract (av := .v _) rfl rfl) ?_) | (refine AO.ops rfl rfl (opS_extract (av := .vw _ _ _ _) rfl rfl) ?_)
      refine AR.run rfl rfl ?_
      refine AO.ops rfl rfl (opS_extract (av := .v _) rfl rfl) ?_
      refine AR.run rfl rfl ?_
      first | (refine AO.ops rfl rfl (opS_assign (av := slE _ _ _) rfl) ?_) | (refine AO.ops rfl rfl (opS_assign (av := .v _) rfl) ?_) | (refine AO.ops rfl rfl (opS_assign (av := .vw _ _ _ _) rfl) ?_)
      refine AR.run rfl rfl ?_
      refine AO.ops rfl rfl (opS_assign (av := .v _) rfl) ?_
      refine AR.nil ?_
      show AW _ _ _ _ _ _
      refine AW.seq ?_
      refine AW.region ?_
      show AR _ _ _ _ _ [0, 1, 2, 3, 4, 5, 6, 7, 8, 9] _
      refine AR.run rfl rfl ?_
      refine AO.ops rfl rfl (opS_move (av := .v _) rfl) ?_
      refine AR.run rfl rfl ?_
      refine AO.ops rfl rfl (opS_eqi rfl rfl) ?_
      refine AR.run rfl rfl ?_
      refine AO.ops rfl rfl (opS_move (av := .v _) rfl) ?_
      refine AR.guard rfl rfl rfl rfl rfl (fun g3 => ?_) (fun g3 d hd => ?_) (fun h => by cases h)
      ·
        have g3p := g3; try simp only [decide_eq_true_eq, decide_eq_false_iff_not, Bool.not_eq_true', Bool.not_eq_false', Bool.not_true, Bool.not_false, Bool.not_eq_eq_eq_not] at g3p
        first | (refine AO.ops rfl rfl (opS_move (av := slE _ _ _) rfl) ?_) | (refine AO.ops rfl rfl (opS_move (av := .v _) rfl) ?_) | (refine AO.ops rfl rfl (opS_move (av := .vw _ _ _ _) rfl) ?_)
        refine AR.guard rfl rfl rfl rfl rfl (fun _ => ?_) (fun hx => bool_no g3 hx) (fun h => by cases h)
        refine AO.ops rfl rfl (opS_conv_bytes_str Try.underlying22 Try.underlying5 Try.underlying9 rfl) ?_
        refine AR.guard rfl rfl rfl rfl rfl (fun _ => ?_) (fun hx => bool_no g3 hx) (fun h => by cases h)
        first | (refine AO.ops rfl rfl (opS_move (av := slE _ _ _) rfl) ?_) | (refine AO.ops rfl rfl (opS_move (av := .v _) rfl) ?_) | (refine AO.ops rfl rfl (opS_move (av := .vw _ _ _ _) rfl) ?_)
        refine AR.guard rfl rfl rfl rfl rfl (fun _ => ?_) (fun hx => bool_no g3 hx) (fun h => by cases h)
        refine AO.ops rfl rfl (opS_conv_bytes_str Try.underlying22 Try.underlying5 Try.underlying9 rfl) ?_
        refine AR.guard rfl rfl rfl rfl rfl (fun _ => ?_) (fun hx => bool_no g3 hx) (fun h => by cases h)
        refine AO.ops rfl rfl (opS_eqs rfl rfl) ?_
        refine AR.run rfl rfl ?_
        refine AO.ops rfl rfl (opS_pick_t (av := .v _) rfl g3 rfl) ?_
        refine AR.run rfl rfl ?_
        refine AO.ops rfl rfl (opS_assign (av := .v _) rfl) ?_
        refine AR.nil ?_
        show AW _ _ _ _ _ _
        refine AW.ret ?_
        -- END 4 (ret)
        show RetPost _ _ _ _ .ret _
        (refine ⟨rfl, _, _, (ResV.one (av := .v _) rfl rfl), ?sub, Ret.mk ?_⟩)
        case sub => first | exact Sub.refl _ | exact Sub.nil _
        first | rfl | (refine B_congr ?_; simp_all)
      ·
        cases hd; refine ⟨rfl, ?_⟩
        have g3p := g3; try simp only [decide_eq_true_eq, decide_eq_false_iff_not, Bool.not_eq_true', Bool.not_eq_false', Bool.not_true, Bool.not_false, Bool.not_eq_eq_eq_not] at g3p
        refine AR.guard rfl rfl rfl rfl rfl (fun hx => bool_no hx g3) (fun _ d hd => ?_) (fun h => by cases h)
        cases hd; refine ⟨rfl, ?_⟩
        refine AR.guard rfl rfl rfl rfl rfl (fun hx => bool_no hx g3) (fun _ d hd => ?_) (fun h => by cases h)
        cases hd; refine ⟨rfl, ?_⟩
        refine AR.guard rfl rfl rfl rfl rfl (fun hx => bool_no hx g3) (fun _ d hd => ?_) (fun h => by cases h)
        cases hd; refine ⟨rfl, ?_⟩
        refine AR.guard rfl rfl rfl rfl rfl (fun hx => bool_no hx g3) (fun _ d hd => ?_) (fun h => by cases h)
        cases hd; refine ⟨rfl, ?_⟩
        refine AR.run rfl rfl ?_
        refine AO.ops rfl rfl (opS_pick_f (av := .v _) rfl g3 rfl) ?_
        refine AR.run rfl rfl ?_
        refine AO.ops rfl rfl (opS_assign (av := .v _) rfl) ?_
        refine AR.nil ?_
        show AW _ _ _ _ _ _
        refine AW.ret ?_
        -- END 5 (ret)
        show RetPost _ _ _ _ .ret _
        (refine ⟨rfl, _, _, (ResV.one (av := .v _) rfl rfl), ?sub, Ret.mk ?_⟩)
        case sub => first | exact Sub.refl _ | exact Sub.nil _
        first | rfl | (refine B_congr ?_; simp_all)

/-! mailcoachlaw12.QpJoins -/
set_option maxRecDepth 100000 in
set_option maxHeartbeats 1000000 in
theorem law_Joins (a b : List UInt8) (ta tb : Option Nat) :
    ACalls Try.prog 7 [slE Enc.byte a ta, slE Enc.byte b tb] [] (Ret (B true) []) := by
  refine ACalls.of_body Try.func7 rfl rfl ?_
  show AW _ _ 68 _ _ _
  refine AW.seq ?_
  refine AW.region ?_
  show AR _ _ _ _ _ [0] _
  refine AR.run rfl rfl ?_
  refine AO.ops rfl rfl (opS_assign (av := .v _) rfl) ?_
  refine AR.nil ?_
  show AW _ _ _ _ _ _
  refine AW.seq ?_
  refine AW.region ?_
  show AR _ _ _ _ _ [0, 1] _
  refine AR.run rfl rfl ?_
  refine AO.callp rfl en9 rfl law_awake ?_
  refine AR.run rfl rfl ?_
  refine AO.ops rfl rfl (opS_assign (av := .v _) rfl) ?_
  refine AR.nil ?_
  show AW _ _ _ _ _ _
  refine AW.seq ?_
  refine AW.cut (X := Unit) (fun _ => ⟨[(0, slE Enc.byte a ta), (1, slE Enc.byte b tb), (5, B true), (24, B (decide (500 < a.length ∨ 500 < b.length)))], [], []⟩) (fun _ => True) ?_ ?_
  ·
    refine AW.region ?_
    show AR _ _ _ _ _ [0, 1, 2, 3, 4, 5, 6, 7, 8, 9, 10, 11] _
    refine AR.run rfl rfl ?_
    refine AO.ops rfl rfl (opS_move (av := .v _) rfl) ?_
    refine AR.run rfl rfl ?_
    refine AO.ops rfl rfl (opS_not rfl) ?_
    refine AR.run rfl rfl ?_
    refine AO.ops rfl rfl (opS_move (av := .v _) rfl) ?_
    refine AR.guard rfl rfl rfl rfl rfl (fun g1 => ?_) (fun g1 d hd => ?_) (fun h => by cases h)
    ·
      have g1p := g1; try simp only [decide_eq_true_eq, decide_eq_false_iff_not, Bool.not_eq_true', Bool.not_eq_false', Bool.not_true, Bool.not_false, Bool.not_eq_eq_eq_not] at g1p
      first | (refine AO.ops rfl rfl (opS_move (av := slE _ _ _) rfl) ?_) | (refine AO.ops rfl rfl (opS_move (av := .v _) rfl) ?_) | (refine AO.ops rfl rfl (opS_move (av := .vw _ _ _ _) rfl) ?_)
      refine AR.guard rfl rfl rfl rfl rfl (fun _ => ?_) (fun hx => bool_no hx g1) (fun h => by cases h)
      first | (refine AO.ops rfl rfl (opS_len_sl Try.underlying22 rfl) ?_) | (refine AO.ops rfl rfl (opS_len_nil Try.underlying22 rfl) ?_)
      refine AR.guard rfl rfl rfl rfl rfl (fun _ => ?_) (fun hx => bool_no hx g1) (fun h => by cases h)
      refine AO.ops rfl rfl (opS_gt rfl rfl) ?_
      refine AR.run rfl rfl ?_
      refine AO.ops rfl rfl (opS_pick_f (av := .v _) rfl g1 rfl) ?_
      refine AR.run rfl rfl ?_
      refine AO.ops rfl rfl (opS_move (av := .v _) rfl) ?_
      refine AR.guard rfl rfl rfl rfl rfl (fun g2 => ?_) (fun g2 d hd => ?_) (fun h => by cases h)
      ·
        have g2p := g2; try simp only [decide_eq_true_eq, decide_eq_false_iff_not, Bool.not_eq_true', Bool.not_eq_false', Bool.not_true, Bool.not_false, Bool.not_eq_eq_eq_not] at g2p
        first | (refine AO.ops rfl rfl (opS_move (av := slE _ _ _) rfl) ?_) | (refine AO.ops rfl rfl (opS_move (av := .v _) rfl) ?_) | (refine AO.ops rfl rfl (opS_move (av := .vw _ _ _ _) rfl) ?_)
        refine AR.guard rfl rfl rfl rfl rfl (fun _ => ?_) (fun hx => bool_no hx g2) (fun h => by cases h)
        first | (refine AO.ops rfl rfl (opS_len_sl Try.underlying22 rfl) ?_) | (refine AO.ops rfl rfl (opS_len_nil Try.underlying22 rfl) ?_)
        refine AR.guard rfl rfl rfl rfl rfl (fun _ => ?_) (fun hx => bool_no hx g2) (fun h => by cases h)
        refine AO.ops rfl rfl (opS_gt rfl rfl) ?_
        refine AR.run rfl rfl ?_
        refine AO.ops rfl rfl (opS_pick_f (av := .v _) rfl g2 rfl) ?_
        refine AR.nil ?_
        -- END 1 (cut2)
        refine ⟨(), ?_, ?_⟩
        · trivial
        · refine WK.env (Env.le.cons ?_ (Env.le.cons ?_ (Env.le.cons ?_ (Env.le.cons ?_ (Env.le.nil _))))) ?_
          all_goals first | exact Sub.refl _ | exact Sub.nil _ | ((repeat (first | exact Sub.refl _ | exact Sub.nil _ | refine Sub.cons _ ?_ | refine Sub.skip _ ?_)); done) | exact Wv.refl _ | exact Wv.any _ | exact Wv.tok _ _ _ | exact Wv.nil _ | (refine Wv.of_eq ?_; first | rfl | exact i64_congr (by omega) | (first | (exact absurd g1 (by decide)) | (refine B_congr ?_; rw [Bool.eq_iff_iff]; simp; try omega)))
      ·
        cases hd; refine ⟨rfl, ?_⟩
        have g2p := g2; try simp only [decide_eq_true_eq, decide_eq_false_iff_not, Bool.not_eq_true', Bool.not_eq_false', Bool.not_true, Bool.not_false, Bool.not_eq_eq_eq_not] at g2p
        refine AR.guard rfl rfl rfl rfl rfl (fun hx => bool_no g2 hx) (fun _ d hd => ?_) (fun h => by cases h)
        cases hd; refine ⟨rfl, ?_⟩
        refine AR.guard rfl rfl rfl rfl rfl (fun hx => bool_no g2 hx) (fun _ d hd => ?_) (fun h => by cases h)
        cases hd; refine ⟨rfl, ?_⟩
        refine AR.run rfl rfl ?_
        refine AO.ops rfl rfl (opS_pick_t (av := .v _) rfl g2 rfl) ?_
        refine AR.nil ?_
        -- END 2 (cut2)
        refine ⟨(), ?_, ?_⟩
        · trivial
        · refine WK.env (Env.le.cons ?_ (Env.le.cons ?_ (Env.le.cons ?_ (Env.le.cons ?_ (Env.le.nil _))))) ?_
          all_goals first | exact Sub.refl _ | exact Sub.nil _ | ((repeat (first | exact Sub.refl _ | exact Sub.nil _ | refine Sub.cons _ ?_ | refine Sub.skip _ ?_)); done) | exact Wv.refl _ | exact Wv.any _ | exact Wv.tok _ _ _ | exact Wv.nil _ | (refine Wv.of_eq ?_; first | rfl | exact i64_congr (by omega) | (first | (exact absurd g1 (by decide)) | (refine B_congr ?_; rw [Bool.eq_iff_iff]; simp; try omega)))
    ·
      cases hd; refine ⟨rfl, ?_⟩
      have g1p := g1; try simp only [decide_eq_true_eq, decide_eq_false_iff_not, Bool.not_eq_true', Bool.not_eq_false', Bool.not_true, Bool.not_false, Bool.not_eq_eq_eq_not] at g1p
      refine AR.guard rfl rfl rfl rfl rfl (fun hx => bool_no g1 hx) (fun _ d hd => ?_) (fun h => by cases h)
      cases hd; refine ⟨rfl, ?_⟩
      refine AR.guard rfl rfl rfl rfl rfl (fun hx => bool_no g1 hx) (fun _ d hd => ?_) (fun h => by cases h)
      cases hd; refine ⟨rfl, ?_⟩
      refine AR.run rfl rfl ?_
      refine AO.ops rfl rfl (opS_pick_t (av := .v _) rfl g1 rfl) ?_
      refine AR.run rfl rfl ?_
      refine AO.ops rfl rfl (opS_move (av := .v _) rfl) ?_
      refine AR.guard rfl rfl rfl rfl rfl (fun hx => bool_no (rfl : true = true) hx) (fun _ d hd => ?_) (fun h => by cases h)
      cases hd; refine ⟨rfl, ?_⟩
      refine AR.guard rfl rfl rfl rfl rfl (fun hx => bool_no (rfl : true = true) hx) (fun _ d hd => ?_) (fun h => by cases h)
      cases hd; refine ⟨rfl, ?_⟩
      refine AR.guard rfl rfl rfl rfl rfl (fun hx => bool_no (rfl : true = true) hx) (fun _ d hd => ?_) (fun h => by cases h)
      cases hd; refine ⟨rfl, ?_⟩
      refine AR.run rfl rfl ?_
      refine AO.ops rfl rfl (opS_pick_t (av := .v _) rfl (rfl : true = true) rfl) ?_
      refine AR.nil ?_
      -- END 3 (cut2)
      refine ⟨(), ?_, ?_⟩
      · trivial
      · refine WK.env (Env.le.cons ?_ (Env.le.cons ?_ (Env.le.cons ?_ (Env.le.cons ?_ (Env.le.nil _))))) ?_
        all_goals first | exact Sub.refl _ | exact Sub.nil _ | ((repeat (first | exact Sub.refl _ | exact Sub.nil _ | refine Sub.cons _ ?_ | refine Sub.skip _ ?_)); done) | exact Wv.refl _ | exact Wv.any _ | exact Wv.tok _ _ _ | exact Wv.nil _ | (refine Wv.of_eq ?_; first | rfl | exact i64_congr (by omega) | (first | (exact absurd g1 (by decide)) | (refine B_congr ?_; rw [Bool.eq_iff_iff]; simp; try omega)))
  · rintro _ _
    show AW _ _ _ _ _ _
    refine AW.cond rfl (fun c3 => ?_) (fun c3 => ?_)
    ·
      have c3p := c3; try simp only [decide_eq_true_eq, decide_eq_false_iff_not, Bool.not_eq_true', Bool.not_eq_false', Bool.not_true, Bool.not_false, Bool.not_eq_eq_eq_not] at c3p
      refine AW.seq ?_
      refine AW.region ?_
      show AR _ _ _ _ _ [0, 1] _
      refine AR.run rfl rfl ?_
      refine AO.ops rfl rfl (opS_move (av := .v _) rfl) ?_
      refine AR.run rfl rfl ?_
      refine AO.ops rfl rfl (opS_assign (av := .v _) rfl) ?_
      refine AR.nil ?_
      show AW _ _ _ _ _ _
      refine AW.ret ?_
      -- END 4 (ret)
      show RetPost _ _ _ _ .ret _
      (refine ⟨rfl, _, _, (ResV.one (av := .v _) rfl rfl), ?sub, Ret.mk ?_⟩)
      case sub => first | exact Sub.refl _ | exact Sub.nil _
      first | rfl | (refine B_congr ?_; have hj := fun x => Qp.joins b _ a x (Nat.le_refl _); cases hda : Qp.decode a <;> cases hdb : Qp.decode b <;> simp_all)
    ·
      have c3p := c3; try simp only [decide_eq_true_eq, decide_eq_false_iff_not, Bool.not_eq_true', Bool.not_eq_false', Bool.not_true, Bool.not_false, Bool.not_eq_eq_eq_not] at c3p
      refine AW.skip ?_
      show AW _ _ _ _ _ _
      refine AW.seq ?_
      refine AW.region ?_
      show AR _ _ _ _ _ [0, 1, 2, 3, 4, 5, 6] _
      refine AR.run rfl rfl ?_
      first | (refine AO.ops rfl rfl (opS_move (av := slE _ _ _) rfl) ?_) | (refine AO.ops rfl rfl (opS_move (av := .v _) rfl) ?_) | (refine AO.ops rfl rfl (opS_move (av := .vw _ _ _ _) rfl) ?_)
      refine AR.run rfl rfl ?_
      refine AO.callp rfl en10 rfl (qp_Decode _ _ (by first | omega | (simp; omega))) ?_
      refine AR.run rfl rfl ?_
      refine AO.ops rfl rfl (opS_move (av := .tup _) rfl) ?_
      refine AR.run rfl rfl ?_
      first | (refine AO.ops rfl rfl (opS_extract (av := slE _ _ _) rfl rfl) ?_) | (refine AO.ops rfl rfl (opS_extract (av := .v _) rfl rfl) ?_) | (refine AO.ops rfl rfl (opS_extract (av := .vw _ _ _ _) rfl rfl) ?_)
      refine AR.run rfl rfl ?_
      refine AO.ops rfl rfl (opS_extract (av := .v _) rfl rfl) ?_
      refine AR.run rfl rfl ?_
      first | (refine AO.ops rfl rfl (opS_assign (av := slE _ _ _) rfl) ?_) | (refine AO.ops rfl rfl (opS_assign (av := .v _) rfl) ?_) | (refine AO.ops rfl rfl (opS_assign (av := .vw _ _ _ _) rfl) ?_)
      refine AR.run rfl rfl ?_
      refine AO.ops rfl rfl (opS_assign (av := .v _) rfl) ?_
      refine AR.nil ?_
      show AW _ _ _ _ _ _
      refine AW.seq ?_
      refine AW.region ?_
      show AR _ _ _ _ _ [0, 1, 2, 3, 4, 5, 6] _
      refine AR.run rfl rfl ?_
      first | (refine AO.ops rfl rfl (opS_move (av := slE _ _ _) rfl) ?_) | (refine AO.ops rfl rfl (opS_move (av := .v _) rfl) ?_) | (refine AO.ops rfl rfl (opS_move (av := .vw _ _ _ _) rfl) ?_)
      refine AR.run rfl rfl ?_
      refine AO.callp rfl en10 rfl (qp_Decode _ _ (by first | omega | (simp; omega))) ?_
      refine AR.run rfl rfl ?_
      refine AO.ops rfl rfl (opS_move (av := .tup _) rfl) ?_
      refine AR.run rfl rfl ?_
      first | (refine AO.ops rfl rfl (opS_extract (av := slE _ _ _) rfl rfl) ?_) | (refine AO.ops rfl rfl (opS_extract (av := .v _) rfl rfl) ?_) | (refine AO.ops rfl rfl (opS_extract (av := .vw _ _ _ _) rfl rfl) ?_)
      refine AR.run rfl rfl ?_
      refine AO.ops rfl rfl (opS_extract (av := .v _) rfl rfl) ?_
      refine AR.run rfl rfl ?_
      first | (refine AO.ops rfl rfl (opS_assign (av := slE _ _ _) rfl) ?_) | (refine AO.ops rfl rfl (opS_assign (av := .v _) rfl) ?_) | (refine AO.ops rfl rfl (opS_assign (av := .vw _ _ _ _) rfl) ?_)
      refine AR.run rfl rfl ?_
      refine AO.ops rfl rfl (opS_assign (av := .v _) rfl) ?_
      refine AR.nil ?_
      show AW _ _ _ _ _ _
      refine AW.seq ?_
      refine AW.region ?_
      show AR _ _ _ _ _ [0, 1, 2, 3, 4, 5, 6, 7, 8, 9] _
      refine AR.run rfl rfl ?_
      first | (refine AO.ops rfl rfl (opS_move (av := slE _ _ _) rfl) ?_) | (refine AO.ops rfl rfl (opS_move (av := .v _) rfl) ?_) | (refine AO.ops rfl rfl (opS_move (av := .vw _ _ _ _) rfl) ?_)
      refine AR.run rfl rfl ?_
      first | (refine AO.opx rfl rfl (opX_append (bytes := 1) 0 Try.underlying22 Try.underlying22 rfl (by kernel_rfl) rfl rfl rfl ?h3 ?h4) ?_; (case h3 => (first | omega | (simp; done) | (simp; omega))); (case h4 => (first | omega | (simp; done) | (simp; omega)))) | (refine AO.opx rfl rfl (opX_append (bytes := 1) 1 Try.underlying22 Try.underlying22 rfl (by kernel_rfl) rfl rfl rfl ?h5 ?h6) ?_; (case h5 => (first | omega | (simp; done) | (simp; omega))); (case h6 => (first | omega | (simp; done) | (simp; omega)))) | (refine AO.opx rfl rfl (opX_append (bytes := 1) 2 Try.underlying22 Try.underlying22 rfl (by kernel_rfl) rfl rfl rfl ?h7 ?h8) ?_; (case h7 => (first | omega | (simp; done) | (simp; omega))); (case h8 => (first | omega | (simp; done) | (simp; omega)))) | (refine AO.opx rfl rfl (opX_append (bytes := 1) 3 Try.underlying22 Try.underlying22 rfl (by kernel_rfl) rfl rfl rfl ?h9 ?h10) ?_; (case h9 => (first | omega | (simp; done) | (simp; omega))); (case h10 => (first | omega | (simp; done) | (simp; omega)))) | (refine AO.opx rfl rfl (opX_append (bytes := 1) 4 Try.underlying22 Try.underlying22 rfl (by kernel_rfl) rfl rfl rfl ?h11 ?h12) ?_; (case h11 => (first | omega | (simp; done) | (simp; omega))); (case h12 => (first | omega | (simp; done) | (simp; omega)))) | (refine AO.opx rfl rfl (opX_append (bytes := 1) 5 Try.underlying22 Try.underlying22 rfl (by kernel_rfl) rfl rfl rfl ?h13 ?h14) ?_; (case h13 => (first | omega | (simp; done) | (simp; omega))); (case h14 => (first | omega | (simp; done) | (simp; omega)))) | (refine AO.opx rfl rfl (opX_append_nil (bytes := 1) Try.underlying22 Try.underlying22 rfl (by kernel_rfl) rfl rfl ?h15 ?h16) ?_; (case h15 => (first | omega | (simp; done) | (simp; omega))); (case h16 => (first | omega | (simp; done) | (simp; omega))))
      rintro _ _ ⟨t38, rfl, rfl⟩
      refine AR.run rfl rfl ?_
      first | (refine AO.ops rfl rfl (opS_move (av := slE _ _ _) rfl) ?_) | (refine AO.ops rfl rfl (opS_move (av := .v _) rfl) ?_) | (refine AO.ops rfl rfl (opS_move (av := .vw _ _ _ _) rfl) ?_)
      refine AR.run rfl rfl ?_
      first | (refine AO.opx rfl rfl (opX_append (bytes := 1) 0 Try.underlying22 Try.underlying22 rfl (by kernel_rfl) rfl rfl rfl ?h19 ?h20) ?_; (case h19 => (first | omega | (simp; done) | (simp; omega))); (case h20 => (first | omega | (simp; done) | (simp; omega)))) | (refine AO.opx rfl rfl (opX_append (bytes := 1) 1 Try.underlying22 Try.underlying22 rfl (by kernel_rfl) rfl rfl rfl ?h21 ?h22) ?_; (case h21 => (first | omega | (simp; done) | (simp; omega))); (case h22 => (first | omega | (simp; done) | (simp; omega)))) | (refine AO.opx rfl rfl (opX_append (bytes := 1) 2 Try.underlying22 Try.underlying22 rfl (by kernel_rfl) rfl rfl rfl ?h23 ?h24) ?_; (case h23 => (first | omega | (simp; done) | (simp; omega))); (case h24 => (first | omega | (simp; done) | (simp; omega)))) | (refine AO.opx rfl rfl (opX_append (bytes := 1) 3 Try.underlying22 Try.underlying22 rfl (by kernel_rfl) rfl rfl rfl ?h25 ?h26) ?_; (case h25 => (first | omega | (simp; done) | (simp; omega))); (case h26 => (first | omega | (simp; done) | (simp; omega)))) | (refine AO.opx rfl rfl (opX_append (bytes := 1) 4 Try.underlying22 Try.underlying22 rfl (by kernel_rfl) rfl rfl rfl ?h27 ?h28) ?_; (case h27 => (first | omega | (simp; done) | (simp; omega))); (case h28 => (first | omega | (simp; done) | (simp; omega)))) | (refine AO.opx rfl rfl (opX_append (bytes := 1) 5 Try.underlying22 Try.underlying22 rfl (by kernel_rfl) rfl rfl rfl ?h29 ?h30) ?_; (case h29 => (first | omega | (simp; done) | (simp; omega))); (case h30 => (first | omega | (simp; done) | (simp; omega)))) | (refine AO.opx rfl rfl (opX_append_nil (bytes := 1) Try.underlying22 Try.underlying22 rfl (by kernel_rfl) rfl rfl ?h31 ?h32) ?_; (case h31 => (first | omega | (simp; done) | (simp; omega))); (case h32 => (first | omega | (simp; done) | (simp; omega))))
      rintro _ _ ⟨t40, rfl, rfl⟩
      refine AR.run rfl rfl ?_
      refine AO.callp rfl en10 rfl (qp_Decode _ _ (by first | omega | (simp; omega))) ?_
      refine AR.run rfl rfl ?_
      refine AO.ops rfl rfl (opS_move (av := .tup _) rfl) ?_
      refine AR.run rfl rfl ?_
      first | (refine AO.ops rfl rfl (opS_extract (av := slE _ _ _) rfl rfl) ?_) | (refine AO.ops rfl rfl (opS_extract (av := .v _) rfl rfl) ?_) | (refine AO.ops rfl rfl (opS_extract (av := .vw _ _ _ _) rfl rfl) ?_)
      refine AR.run rfl rfl ?_
      refine AO.ops rfl rfl (opS_extract (av := .v _) rfl rfl) ?_
      refine AR.run rfl rfl ?_
      first | (refine AO.ops rfl rfl (opS_assign (av := slE _ _ _) rfl) ?_) | (refine AO.ops rfl rfl (opS_assign (av := .v _) rfl) ?_) | (refine AO.ops rfl rfl (opS_assign (av := .vw _ _ _ _) rfl) ?_)
      refine AR.run rfl rfl ?_
      refine AO.ops rfl rfl (opS_assign (av := .v _) rfl) ?_
      refine AR.nil ?_
      show AW _ _ _ _ _ _
      refine AW.seq ?_
      refine AW.seq ?_
      refine AW.region ?_
      show AR _ _ _ _ _ [0, 1] _
      refine AR.run rfl rfl ?_
      refine AO.ops rfl rfl (opS_move (av := .v _) rfl) ?_
      refine AR.run rfl rfl ?_
      refine AO.ops rfl rfl (opS_nei rfl rfl) ?_
      refine AR.nil ?_
      show AW _ _ _ _ _ _
      refine AW.cond rfl (fun c4 => ?_) (fun c4 => ?_)
      ·
        have c4p := c4; try simp only [decide_eq_true_eq, decide_eq_false_iff_not, Bool.not_eq_true', Bool.not_eq_false', Bool.not_true, Bool.not_false, Bool.not_eq_eq_eq_not] at c4p
        refine AW.seq ?_
        refine AW.region ?_
        show AR _ _ _ _ _ [0] _
        refine AR.run rfl rfl ?_
        refine AO.ops rfl rfl (opS_assign (av := .v _) rfl) ?_
        refine AR.nil ?_
        show AW _ _ _ _ _ _
        refine AW.ret ?_
        -- END 5 (ret)
        show RetPost _ _ _ _ .ret _
        (refine ⟨rfl, _, _, (ResV.one (av := .v _) rfl rfl), ?sub, Ret.mk ?_⟩)
        case sub => first | exact Sub.refl _ | exact Sub.nil _
        first | rfl | (refine B_congr ?_; have hj := fun x => Qp.joins b _ a x (Nat.le_refl _); cases hda : Qp.decode a <;> cases hdb : Qp.decode b <;> simp_all)
      ·
        have c4p := c4; try simp only [decide_eq_true_eq, decide_eq_false_iff_not, Bool.not_eq_true', Bool.not_eq_false', Bool.not_true, Bool.not_false, Bool.not_eq_eq_eq_not] at c4p
        refine AW.skip ?_
        show AW _ _ _ _ _ _
        refine AW.seq ?_
        refine AW.seq ?_
        refine AW.region ?_
        show AR _ _ _ _ _ [0, 1] _
        refine AR.run rfl rfl ?_
        refine AO.ops rfl rfl (opS_move (av := .v _) rfl) ?_
        refine AR.run rfl rfl ?_
        refine AO.ops rfl rfl (opS_nei rfl rfl) ?_
        refine AR.nil ?_
        show AW _ _ _ _ _ _
        refine AW.cond rfl (fun c5 => ?_) (fun c5 => ?_)
        ·
          have c5p := c5; try simp only [decide_eq_true_eq, decide_eq_false_iff_not, Bool.not_eq_true', Bool.not_eq_false', Bool.not_true, Bool.not_false, Bool.not_eq_eq_eq_not] at c5p
          refine AW.seq ?_
          refine AW.region ?_
          show AR _ _ _ _ _ [0, 1, 2, 3, 4, 5, 6, 7, 8] _
          refine AR.run rfl rfl ?_
          refine AO.ops rfl rfl (opS_move (av := .v _) rfl) ?_
          refine AR.run rfl rfl ?_
          refine AO.ops rfl rfl (opS_move (av := .v _) rfl) ?_
          refine AR.run rfl rfl ?_
          refine AO.ops rfl rfl (opS_eqi rfl rfl) ?_
          refine AR.run rfl rfl ?_
          refine AO.ops rfl rfl (opS_move (av := .v _) rfl) ?_
          refine AR.guard rfl rfl rfl rfl rfl (fun g6 => ?_) (fun g6 d hd => ?_) (fun h => by cases h)
          ·
            have g6p := g6; try simp only [decide_eq_true_eq, decide_eq_false_iff_not, Bool.not_eq_true', Bool.not_eq_false', Bool.not_true, Bool.not_false, Bool.not_eq_eq_eq_not] at g6p
            first | (refine AO.ops rfl rfl (opS_move (av := slE _ _ _) rfl) ?_) | (refine AO.ops rfl rfl (opS_move (av := .v _) rfl) ?_) | (refine AO.ops rfl rfl (opS_move (av := .vw _ _ _ _) rfl) ?_)
            refine AR.guard rfl rfl rfl rfl rfl (fun _ => ?_) (fun hx => bool_no g6 hx) (fun h => by cases h)
            first | (refine AO.ops rfl rfl (opS_len_sl Try.underlying22 rfl) ?_) | (refine AO.ops rfl rfl (opS_len_nil Try.underlying22 rfl) ?_)
            refine AR.guard rfl rfl rfl rfl rfl (fun _ => ?_) (fun hx => bool_no g6 hx) (fun h => by cases h)
            refine AO.ops rfl rfl (opS_eqi rfl rfl) ?_
            refine AR.run rfl rfl ?_
            refine AO.ops rfl rfl (opS_pick_t (av := .v _) rfl g6 rfl) ?_
            refine AR.run rfl rfl ?_
            refine AO.ops rfl rfl (opS_assign (av := .v _) rfl) ?_
            refine AR.nil ?_
            show AW _ _ _ _ _ _
            refine AW.ret ?_
            -- END 6 (ret)
            show RetPost _ _ _ _ .ret _
            (refine ⟨rfl, _, _, (ResV.one (av := .v _) rfl rfl), ?sub, Ret.mk ?_⟩)
            case sub => first | exact Sub.refl _ | exact Sub.nil _
            first | rfl | (refine B_congr ?_; have hj := fun x => Qp.joins b _ a x (Nat.le_refl _); cases hda : Qp.decode a <;> cases hdb : Qp.decode b <;> simp_all)
          ·
            cases hd; refine ⟨rfl, ?_⟩
            have g6p := g6; try simp only [decide_eq_true_eq, decide_eq_false_iff_not, Bool.not_eq_true', Bool.not_eq_false', Bool.not_true, Bool.not_false, Bool.not_eq_eq_eq_not] at g6p
            refine AR.guard rfl rfl rfl rfl rfl (fun hx => bool_no hx g6) (fun _ d hd => ?_) (fun h => by cases h)
            cases hd; refine ⟨rfl, ?_⟩
            refine AR.guard rfl rfl rfl rfl rfl (fun hx => bool_no hx g6) (fun _ d hd => ?_) (fun h => by cases h)
            cases hd; refine ⟨rfl, ?_⟩
            refine AR.run rfl rfl ?_
            refine AO.ops rfl rfl (opS_pick_f (av := .v _) rfl g6 rfl) ?_
            refine AR.run rfl rfl ?_
            refine AO.ops rfl rfl (opS_assign (av := .v _) rfl) ?_
            refine AR.nil ?_
            show AW _ _ _ _ _ _
            refine AW.ret ?_
            -- END 7 (ret)
            show RetPost _ _ _ _ .ret _
            (refine ⟨rfl, _, _, (ResV.one (av := .v _) rfl rfl), ?sub, Ret.mk ?_⟩)
            case sub => first | exact Sub.refl _ | exact Sub.nil _
            first | rfl | (refine B_congr ?_; have hj := fun x => Qp.joins b _ a x (Nat.le_refl _); cases hda : Qp.decode a <;> cases hdb : Qp.decode b <;> simp_all)
        ·
          have c5p := c5; try simp only [decide_eq_true_eq, decide_eq_false_iff_not, Bool.not_eq_true', Bool.not_eq_false', Bool.not_true, Bool.not_false, Bool.not_eq_eq_eq_not] at c5p
          refine AW.skip ?_
          show AW _ _ _ _ _ _
          refine AW.seq ?_
          refine AW.region ?_
          show AR _ _ _ _ _ [0, 1, 2, 3, 4, 5, 6, 7, 8, 9, 10, 11, 12] _
          refine AR.run rfl rfl ?_
          refine AO.ops rfl rfl (opS_move (av := .v _) rfl) ?_
          refine AR.run rfl rfl ?_
          refine AO.ops rfl rfl (opS_eqi rfl rfl) ?_
          refine AR.run rfl rfl ?_
          refine AO.ops rfl rfl (opS_move (av := .v _) rfl) ?_
          refine AR.guard rfl rfl rfl rfl rfl (fun g7 => ?_) (fun g7 d hd => ?_) (fun h => by cases h)
          ·
            have g7p := g7; try simp only [decide_eq_true_eq, decide_eq_false_iff_not, Bool.not_eq_true', Bool.not_eq_false', Bool.not_true, Bool.not_false, Bool.not_eq_eq_eq_not] at g7p
            first | (refine AO.ops rfl rfl (opS_move (av := slE _ _ _) rfl) ?_) | (refine AO.ops rfl rfl (opS_move (av := .v _) rfl) ?_) | (refine AO.ops rfl rfl (opS_move (av := .vw _ _ _ _) rfl) ?_)
            refine AR.guard rfl rfl rfl rfl rfl (fun _ => ?_) (fun hx => bool_no g7 hx) (fun h => by cases h)
            refine AO.ops rfl rfl (opS_conv_bytes_str Try.underlying22 Try.underlying5 Try.underlying9 rfl) ?_
            refine AR.guard rfl rfl rfl rfl rfl (fun _ => ?_) (fun hx => bool_no g7 hx) (fun h => by cases h)
            first | (refine AO.ops rfl rfl (opS_move (av := slE _ _ _) rfl) ?_) | (refine AO.ops rfl rfl (opS_move (av := .v _) rfl) ?_) | (refine AO.ops rfl rfl (opS_move (av := .vw _ _ _ _) rfl) ?_)
            refine AR.guard rfl rfl rfl rfl rfl (fun _ => ?_) (fun hx => bool_no g7 hx) (fun h => by cases h)
            refine AO.ops rfl rfl (opS_conv_bytes_str Try.underlying22 Try.underlying5 Try.underlying9 rfl) ?_
            refine AR.guard rfl rfl rfl rfl rfl (fun _ => ?_) (fun hx => bool_no g7 hx) (fun h => by cases h)
            first | (refine AO.ops rfl rfl (opS_move (av := slE _ _ _) rfl) ?_) | (refine AO.ops rfl rfl (opS_move (av := .v _) rfl) ?_) | (refine AO.ops rfl rfl (opS_move (av := .vw _ _ _ _) rfl) ?_)
            refine AR.guard rfl rfl rfl rfl rfl (fun _ => ?_) (fun hx => bool_no g7 hx) (fun h => by cases h)
            refine AO.ops rfl rfl (opS_conv_bytes_str Try.underlying22 Try.underlying5 Try.underlying9 rfl) ?_
            refine AR.guard rfl rfl rfl rfl rfl (fun _ => ?_) (fun hx => bool_no g7 hx) (fun h => by cases h)
            refine AO.ops rfl rfl (opS_cat rfl rfl ?h34) ?_
            (case h34 => (have h1 := Qp.decode_len a; have h2 := Qp.decode_len b; omega))
            refine AR.guard rfl rfl rfl rfl rfl (fun _ => ?_) (fun hx => bool_no g7 hx) (fun h => by cases h)
            refine AO.ops rfl rfl (opS_eqs rfl rfl) ?_
            refine AR.run rfl rfl ?_
            refine AO.ops rfl rfl (opS_pick_t (av := .v _) rfl g7 rfl) ?_
            refine AR.run rfl rfl ?_
            refine AO.ops rfl rfl (opS_assign (av := .v _) rfl) ?_
            refine AR.nil ?_
            show AW _ _ _ _ _ _
            refine AW.ret ?_
            -- END 8 (ret)
            show RetPost _ _ _ _ .ret _
            (refine ⟨rfl, _, _, (ResV.one (av := .v _) rfl rfl), ?sub, Ret.mk ?_⟩)
            case sub => first | exact Sub.refl _ | exact Sub.nil _
            first | rfl | (refine B_congr ?_; have hj := fun x => Qp.joins b _ a x (Nat.le_refl _); cases hda : Qp.decode a <;> cases hdb : Qp.decode b <;> simp_all)
          ·
            cases hd; refine ⟨rfl, ?_⟩
            have g7p := g7; try simp only [decide_eq_true_eq, decide_eq_false_iff_not, Bool.not_eq_true', Bool.not_eq_false', Bool.not_true, Bool.not_false, Bool.not_eq_eq_eq_not] at g7p
            refine AR.guard rfl rfl rfl rfl rfl (fun hx => bool_no hx g7) (fun _ d hd => ?_) (fun h => by cases h)
            cases hd; refine ⟨rfl, ?_⟩
            refine AR.guard rfl rfl rfl rfl rfl (fun hx => bool_no hx g7) (fun _ d hd => ?_) (fun h => by cases h)
            cases hd; refine ⟨rfl, ?_⟩
            refine AR.guard rfl rfl rfl rfl rfl (fun hx => bool_no hx g7) (fun _ d hd => ?_) (fun h => by cases h)
            cases hd; refine ⟨rfl, ?_⟩
            refine AR.guard rfl rfl rfl rfl rfl (fun hx => bool_no hx g7) (fun _ d hd => ?_) (fun h => by cases h)
            cases hd; refine ⟨rfl, ?_⟩
            refine AR.guard rfl rfl rfl rfl rfl (fun hx => bool_no hx g7) (fun _ d hd => ?_) (fun h => by cases h)
            cases hd; refine ⟨rfl, ?_⟩
            refine AR.guard rfl rfl rfl rfl rfl (fun hx => bool_no hx g7) (fun _ d hd => ?_) (fun h => by cases h)
            cases hd; refine ⟨rfl, ?_⟩
            refine AR.guard rfl rfl rfl rfl rfl (fun hx => bool_no hx g7) (fun _ d hd => ?_) (fun h => by cases h)
            cases hd; refine ⟨rfl, ?_⟩
            refine AR.run rfl rfl ?_
            refine AO.ops rfl rfl (opS_pick_f (av := .v _) rfl g7 rfl) ?_
            refine AR.run rfl rfl ?_
            refine AO.ops rfl rfl (opS_assign (av := .v _) rfl) ?_
            refine AR.nil ?_
            show AW _ _ _ _ _ _
            refine AW.ret ?_
            -- END 9 (ret)
            show RetPost _ _ _ _ .ret _
            (refine ⟨rfl, _, _, (ResV.one (av := .v _) rfl rfl), ?sub, Ret.mk ?_⟩)
            case sub => first | exact Sub.refl _ | exact Sub.nil _
            first | rfl | (refine B_congr ?_; have hj := fun x => Qp.joins b _ a x (Nat.le_refl _); cases hda : Qp.decode a <;> cases hdb : Qp.decode b <;> simp_all)

/-! mailcoachlaw12.QpSoft -/
set_option maxRecDepth 100000 in
set_option maxHeartbeats 1000000 in
theorem law_Soft (b : List UInt8) (tb : Option Nat) :
    ACalls Try.prog 8 [slE Enc.byte b tb] [] (Ret (B true) []) := by
  refine ACalls.of_body Try.func8 rfl rfl ?_
  show AW _ _ 74 _ _ _
  refine AW.seq ?_
  refine AW.region ?_
  show AR _ _ _ _ _ [0] _
  refine AR.run rfl rfl ?_
  refine AO.ops rfl rfl (opS_assign (av := .v _) rfl) ?_
  refine AR.nil ?_
  show AW _ _ _ _ _ _
  refine AW.seq ?_
  refine AW.region ?_
  show AR _ _ _ _ _ [0, 1] _
  refine AR.run rfl rfl ?_
  refine AO.callp rfl en9 rfl law_awake ?_
  refine AR.run rfl rfl ?_
  refine AO.ops rfl rfl (opS_assign (av := .v _) rfl) ?_
  refine AR.nil ?_
  show AW _ _ _ _ _ _
  refine AW.seq ?_
  refine AW.cut (X := Unit) (fun _ => ⟨[(0, slE Enc.byte b tb), (3, B true), (17, B (decide (1000 < b.length)))], [], []⟩) (fun _ => True) ?_ ?_
  ·
    refine AW.region ?_
    show AR _ _ _ _ _ [0, 1, 2, 3, 4, 5, 6] _
    refine AR.run rfl rfl ?_
    refine AO.ops rfl rfl (opS_move (av := .v _) rfl) ?_
    refine AR.run rfl rfl ?_
    refine AO.ops rfl rfl (opS_not rfl) ?_
    refine AR.run rfl rfl ?_
    refine AO.ops rfl rfl (opS_move (av := .v _) rfl) ?_
    refine AR.guard rfl rfl rfl rfl rfl (fun g1 => ?_) (fun g1 d hd => ?_) (fun h => by cases h)
    ·
      have g1p := g1; try simp only [decide_eq_true_eq, decide_eq_false_iff_not, Bool.not_eq_true', Bool.not_eq_false', Bool.not_true, Bool.not_false, Bool.not_eq_eq_eq_not] at g1p
      first | (refine AO.ops rfl rfl (opS_move (av := slE _ _ _) rfl) ?_) | (refine AO.ops rfl rfl (opS_move (av := .v _) rfl) ?_) | (refine AO.ops rfl rfl (opS_move (av := .vw _ _ _ _) rfl) ?_)
      refine AR.guard rfl rfl rfl rfl rfl (fun _ => ?_) (fun hx => bool_no hx g1) (fun h => by cases h)
      first | (refine AO.ops rfl rfl (opS_len_sl Try.underlying22 rfl) ?_) | (refine AO.ops rfl rfl (opS_len_nil Try.underlying22 rfl) ?_)
      refine AR.guard rfl rfl rfl rfl rfl (fun _ => ?_) (fun hx => bool_no hx g1) (fun h => by cases h)
      refine AO.ops rfl rfl (opS_gt rfl rfl) ?_
      refine AR.run rfl rfl ?_
      refine AO.ops rfl rfl (opS_pick_f (av := .v _) rfl g1 rfl) ?_
      refine AR.nil ?_
      -- END 1 (cut2)
      refine ⟨(), ?_, ?_⟩
      · trivial
      · refine WK.env (Env.le.cons ?_ (Env.le.cons ?_ (Env.le.cons ?_ (Env.le.nil _)))) ?_
        all_goals first | exact Sub.refl _ | exact Sub.nil _ | ((repeat (first | exact Sub.refl _ | exact Sub.nil _ | refine Sub.cons _ ?_ | refine Sub.skip _ ?_)); done) | exact Wv.refl _ | exact Wv.any _ | exact Wv.tok _ _ _ | exact Wv.nil _ | (refine Wv.of_eq ?_; first | rfl | exact i64_congr (by omega) | (first | (exact absurd g1 (by decide)) | (refine B_congr ?_; rw [Bool.eq_iff_iff]; simp; try omega)))
    ·
      cases hd; refine ⟨rfl, ?_⟩
      have g1p := g1; try simp only [decide_eq_true_eq, decide_eq_false_iff_not, Bool.not_eq_true', Bool.not_eq_false', Bool.not_true, Bool.not_false, Bool.not_eq_eq_eq_not] at g1p
      refine AR.guard rfl rfl rfl rfl rfl (fun hx => bool_no g1 hx) (fun _ d hd => ?_) (fun h => by cases h)
      cases hd; refine ⟨rfl, ?_⟩
      refine AR.guard rfl rfl rfl rfl rfl (fun hx => bool_no g1 hx) (fun _ d hd => ?_) (fun h => by cases h)
      cases hd; refine ⟨rfl, ?_⟩
      refine AR.run rfl rfl ?_
      refine AO.ops rfl rfl (opS_pick_t (av := .v _) rfl g1 rfl) ?_
      refine AR.nil ?_
      -- END 2 (cut2)
      refine ⟨(), ?_, ?_⟩
      · trivial
      · refine WK.env (Env.le.cons ?_ (Env.le.cons ?_ (Env.le.cons ?_ (Env.le.nil _)))) ?_
        all_goals first | exact Sub.refl _ | exact Sub.nil _ | ((repeat (first | exact Sub.refl _ | exact Sub.nil _ | refine Sub.cons _ ?_ | refine Sub.skip _ ?_)); done) | exact Wv.refl _ | exact Wv.any _ | exact Wv.tok _ _ _ | exact Wv.nil _ | (refine Wv.of_eq ?_; first | rfl | exact i64_congr (by omega) | (first | (exact absurd g1 (by decide)) | (refine B_congr ?_; rw [Bool.eq_iff_iff]; simp; try omega)))
  · rintro _ _
    show AW _ _ _ _ _ _
    refine AW.cond rfl (fun c2 => ?_) (fun c2 => ?_)
    ·
      have c2p := c2; try simp only [decide_eq_true_eq, decide_eq_false_iff_not, Bool.not_eq_true', Bool.not_eq_false', Bool.not_true, Bool.not_false, Bool.not_eq_eq_eq_not] at c2p
      refine AW.seq ?_
      refine AW.region ?_
      show AR _ _ _ _ _ [0, 1] _
      refine AR.run rfl rfl ?_
      refine AO.ops rfl rfl (opS_move (av := .v _) rfl) ?_
      refine AR.run rfl rfl ?_
      refine AO.ops rfl rfl (opS_assign (av := .v _) rfl) ?_
      refine AR.nil ?_
      show AW _ _ _ _ _ _
      refine AW.ret ?_
      -- END 3 (ret)
      show RetPost _ _ _ _ .ret _
      (refine ⟨rfl, _, _, (ResV.one (av := .v _) rfl rfl), ?sub, Ret.mk ?_⟩)
      case sub => first | exact Sub.refl _ | exact Sub.nil _
      first | rfl | (refine B_congr ?_; cases hdb : Qp.decode b with | none => (simp only [hdb] at *; simp at *; done) | some x => (have hj := Qp.soft_behind hdb; simp only [hdb, hj] at *; simp at *; done))
    ·
      have c2p := c2; try simp only [decide_eq_true_eq, decide_eq_false_iff_not, Bool.not_eq_true', Bool.not_eq_false', Bool.not_true, Bool.not_false, Bool.not_eq_eq_eq_not] at c2p
      refine AW.skip ?_
      show AW _ _ _ _ _ _
      refine AW.seq ?_
      refine AW.region ?_
      show AR _ _ _ _ _ [0, 1, 2, 3, 4, 5, 6] _
      refine AR.run rfl rfl ?_
      first | (refine AO.ops rfl rfl (opS_move (av := slE _ _ _) rfl) ?_) | (refine AO.ops rfl rfl (opS_move (av := .v _) rfl) ?_) | (refine AO.ops rfl rfl (opS_move (av := .vw _ _ _ _) rfl) ?_)
      refine AR.run rfl rfl ?_
      refine AO.callp rfl en10 rfl (qp_Decode _ _ (by first | omega | (simp; omega))) ?_
      refine AR.run rfl rfl ?_
      refine AO.ops rfl rfl (opS_move (av := .tup _) rfl) ?_
      refine AR.run rfl rfl ?_
      first | (refine AO.ops rfl rfl (opS_extract (av := slE _ _ _) rfl rfl) ?_) | (refine AO.ops rfl rfl (opS_extract (av := .v _) rfl rfl) ?_) | (refine AO.ops rfl rfl (opS_extract (av := .vw _ _ _ _) rfl rfl) ?_)
      refine AR.run rfl rfl ?_
      refine AO.ops rfl rfl (opS_extract (av := .v _) rfl rfl) ?_
      refine AR.run rfl rfl ?_
      first | (refine AO.ops rfl rfl (opS_assign (av := slE _ _ _) rfl) ?_) | (refine AO.ops rfl rfl (opS_assign (av := .v _) rfl) ?_) | (refine AO.ops rfl rfl (opS_assign (av := .vw _ _ _ _) rfl) ?_)
      refine AR.run rfl rfl ?_
      refine AO.ops rfl rfl (opS_assign (av := .v _) rfl) ?_
      refine AR.nil ?_
      show AW _ _ _ _ _ _
      refine AW.seq ?_
      refine AW.region ?_
      show AR _ _ _ _ _ [0, 1, 2, 3, 4, 5, 6, 7, 8, 9] _
      refine AR.run rfl rfl ?_
      refine AO.opx rfl rfl (opX_buildE (E := Enc.byte) (bytes := 1) (xs := [.const (.int .u8 (61)), .const (.int .u8 (13)), .const (.int .u8 (10))]) (l := [(61), (13), (10)]) Try.underlying22 (by kernel_rfl) rfl rfl (by decide) rfl rfl) ?_
      rintro _ _ ⟨t25, rfl, rfl⟩
      refine AR.run rfl rfl ?_
      first | refine AO.op rfl rfl (opR_conv_same 0 Try.underlying22 Try.underlying5 rfl (by simp) rfl) ?_ | refine AO.op rfl rfl (opR_conv_same 1 Try.underlying22 Try.underlying5 rfl (by simp) rfl) ?_ | refine AO.op rfl rfl (opR_conv_same 2 Try.underlying22 Try.underlying5 rfl (by simp) rfl) ?_ | refine AO.op rfl rfl (opR_conv_same 3 Try.underlying22 Try.underlying5 rfl (by simp) rfl) ?_ | refine AO.op rfl rfl (opR_conv_same 4 Try.underlying22 Try.underlying5 rfl (by simp) rfl) ?_ | refine AO.op rfl rfl (opR_conv_same 5 Try.underlying22 Try.underlying5 rfl (by simp) rfl) ?_
      refine AR.run rfl rfl ?_
      first | (refine AO.ops rfl rfl (opS_move (av := slE _ _ _) rfl) ?_) | (refine AO.ops rfl rfl (opS_move (av := .v _) rfl) ?_) | (refine AO.ops rfl rfl (opS_move (av := .vw _ _ _ _) rfl) ?_)
      refine AR.run rfl rfl ?_
      first | (refine AO.opx rfl rfl (opX_append (bytes := 1) 0 Try.underlying22 Try.underlying22 rfl (by kernel_rfl) rfl rfl rfl ?h3 ?h4) ?_; (case h3 => (first | omega | (simp; done) | (simp; omega))); (case h4 => (first | omega | (simp; done) | (simp; omega)))) | (refine AO.opx rfl rfl (opX_append (bytes := 1) 1 Try.underlying22 Try.underlying22 rfl (by kernel_rfl) rfl rfl rfl ?h5 ?h6) ?_; (case h5 => (first | omega | (simp; done) | (simp; omega))); (case h6 => (first | omega | (simp; done) | (simp; omega)))) | (refine AO.opx rfl rfl (opX_append (bytes := 1) 2 Try.underlying22 Try.underlying22 rfl (by kernel_rfl) rfl rfl rfl ?h7 ?h8) ?_; (case h7 => (first | omega | (simp; done) | (simp; omega))); (case h8 => (first | omega | (simp; done) | (simp; omega)))) | (refine AO.opx rfl rfl (opX_append (bytes := 1) 3 Try.underlying22 Try.underlying22 rfl (by kernel_rfl) rfl rfl rfl ?h9 ?h10) ?_; (case h9 => (first | omega | (simp; done) | (simp; omega))); (case h10 => (first | omega | (simp; done) | (simp; omega)))) | (refine AO.opx rfl rfl (opX_append (bytes := 1) 4 Try.underlying22 Try.underlying22 rfl (by kernel_rfl) rfl rfl rfl ?h11 ?h12) ?_; (case h11 => (first | omega | (simp; done) | (simp; omega))); (case h12 => (first | omega | (simp; done) | (simp; omega)))) | (refine AO.opx rfl rfl (opX_append (bytes := 1) 5 Try.underlying22 Try.underlying22 rfl (by kernel_rfl) rfl rfl rfl ?h13 ?h14) ?_; (case h13 => (first | omega | (simp; done) | (simp; omega))); (case h14 => (first | omega | (simp; done) | (simp; omega)))) | (refine AO.opx rfl rfl (opX_append_nil (bytes := 1) Try.underlying22 Try.underlying22 rfl (by kernel_rfl) rfl rfl ?h15 ?h16) ?_; (case h15 => (first | omega | (simp; done) | (simp; omega))); (case h16 => (first | omega | (simp; done) | (simp; omega))))
      rintro _ _ ⟨t28, rfl, rfl⟩
      refine AR.run rfl rfl ?_
      refine AO.callp rfl en10 rfl (ahead_call _ _ (by first | omega | (simp; omega))) ?_
      refine AR.run rfl rfl ?_
      refine AO.ops rfl rfl (opS_move (av := .tup _) rfl) ?_
      refine AR.run rfl rfl ?_
      first | (refine AO.ops rfl rfl (opS_extract (av := slE _ _ _) rfl rfl) ?_) | (refine AO.ops rfl rfl (opS_extract (av := .v _) rfl rfl) ?_) | (refine AO.ops rfl rfl (opS_extract (av := .vw _ _ _ _) rfl rfl) ?_)
      refine AR.run rfl rfl ?_
      refine AO.ops rfl rfl (opS_extract (av := .v _) rfl rfl) ?_
      refine AR.run rfl rfl ?_
      first | (refine AO.ops rfl rfl (opS_assign (av := slE _ _ _) rfl) ?_) | (refine AO.ops rfl rfl (opS_assign (av := .v _) rfl) ?_) | (refine AO.ops rfl rfl (opS_assign (av := .vw _ _ _ _) rfl) ?_)
      refine AR.run rfl rfl ?_
      refine AO.ops rfl rfl (opS_assign (av := .v _) rfl) ?_
      refine AR.nil ?_
      show AW _ _ _ _ _ _
      refine AW.seq ?_
      refine AW.region ?_
      show AR _ _ _ _ _ [0, 1, 2, 3, 4, 5, 6, 7, 8] _
      refine AR.run rfl rfl ?_
      first | (refine AO.ops rfl rfl (opS_move (av := slE _ _ _) rfl) ?_) | (refine AO.ops rfl rfl (opS_move (av := .v _) rfl) ?_) | (refine AO.ops rfl rfl (opS_move (av := .vw _ _ _ _) rfl) ?_)
      refine AR.run rfl rfl ?_
      first | (refine AO.opx rfl rfl (opX_append (bytes := 1) 0 Try.underlying22 Try.underlying22 rfl (by kernel_rfl) rfl rfl rfl ?h19 ?h20) ?_; (case h19 => (first | omega | (simp; done) | (simp; omega))); (case h20 => (first | omega | (simp; done) | (simp; omega)))) | (refine AO.opx rfl rfl (opX_append (bytes := 1) 1 Try.underlying22 Try.underlying22 rfl (by kernel_rfl) rfl rfl rfl ?h21 ?h22) ?_; (case h21 => (first | omega | (simp; done) | (simp; omega))); (case h22 => (first | omega | (simp; done) | (simp; omega)))) | (refine AO.opx rfl rfl (opX_append (bytes := 1) 2 Try.underlying22 Try.underlying22 rfl (by kernel_rfl) rfl rfl rfl ?h23 ?h24) ?_; (case h23 => (first | omega | (simp; done) | (simp; omega))); (case h24 => (first | omega | (simp; done) | (simp; omega)))) | (refine AO.opx rfl rfl (opX_append (bytes := 1) 3 Try.underlying22 Try.underlying22 rfl (by kernel_rfl) rfl rfl rfl ?h25 ?h26) ?_; (case h25 => (first | omega | (simp; done) | (simp; omega))); (case h26 => (first | omega | (simp; done) | (simp; omega)))) | (refine AO.opx rfl rfl (opX_append (bytes := 1) 4 Try.underlying22 Try.underlying22 rfl (by kernel_rfl) rfl rfl rfl ?h27 ?h28) ?_; (case h27 => (first | omega | (simp; done) | (simp; omega))); (case h28 => (first | omega | (simp; done) | (simp; omega)))) | (refine AO.opx rfl rfl (opX_append (bytes := 1) 5 Try.underlying22 Try.underlying22 rfl (by kernel_rfl) rfl rfl rfl ?h29 ?h30) ?_; (case h29 => (first | omega | (simp; done) | (simp; omega))); (case h30 => (first | omega | (simp; done) | (simp; omega)))) | (refine AO.opx rfl rfl (opX_append_nil (bytes := 1) Try.underlying22 Try.underlying22 rfl (by kernel_rfl) rfl rfl ?h31 ?h32) ?_; (case h31 => (first | omega | (simp; done) | (simp; omega))); (case h32 => (first | omega | (simp; done) | (simp; omega))))
      rintro _ _ ⟨t34, rfl, rfl⟩
      refine AR.run rfl rfl ?_
      first | (refine AO.opx rfl rfl (opX_append_str (bytes := 1) 0 Try.underlying22 Try.underlying9 rfl (by kernel_rfl) rfl rfl rfl ?h35 ?h36) ?_; (case h35 => (first | omega | (simp; done) | (simp; omega))); (case h36 => (first | omega | (simp; done) | (simp; omega)))) | (refine AO.opx rfl rfl (opX_append_str (bytes := 1) 1 Try.underlying22 Try.underlying9 rfl (by kernel_rfl) rfl rfl rfl ?h37 ?h38) ?_; (case h37 => (first | omega | (simp; done) | (simp; omega))); (case h38 => (first | omega | (simp; done) | (simp; omega)))) | (refine AO.opx rfl rfl (opX_append_str (bytes := 1) 2 Try.underlying22 Try.underlying9 rfl (by kernel_rfl) rfl rfl rfl ?h39 ?h40) ?_; (case h39 => (first | omega | (simp; done) | (simp; omega))); (case h40 => (first | omega | (simp; done) | (simp; omega)))) | (refine AO.opx rfl rfl (opX_append_str (bytes := 1) 3 Try.underlying22 Try.underlying9 rfl (by kernel_rfl) rfl rfl rfl ?h41 ?h42) ?_; (case h41 => (first | omega | (simp; done) | (simp; omega))); (case h42 => (first | omega | (simp; done) | (simp; omega)))) | (refine AO.opx rfl rfl (opX_append_str (bytes := 1) 4 Try.underlying22 Try.underlying9 rfl (by kernel_rfl) rfl rfl rfl ?h43 ?h44) ?_; (case h43 => (first | omega | (simp; done) | (simp; omega))); (case h44 => (first | omega | (simp; done) | (simp; omega)))) | (refine AO.opx rfl rfl (opX_append_str (bytes := 1) 5 Try.underlying22 Try.underlying9 rfl (by kernel_rfl) rfl rfl rfl ?h45 ?h46) ?_; (case h45 => (first | omega | (simp; done) | (simp; omega))); (case h46 => (first | omega | (simp; done) | (simp; omega))))
      rintro _ _ ⟨t35, rfl, rfl⟩
      refine AR.run rfl rfl ?_
      refine AO.callp rfl en10 rfl (qp_Decode _ _ (by first | omega | (simp; omega))) ?_
      refine AR.run rfl rfl ?_
      refine AO.ops rfl rfl (opS_move (av := .tup _) rfl) ?_
      refine AR.run rfl rfl ?_
      first | (refine AO.ops rfl rfl (opS_extract (av := slE _ _ _) rfl rfl) ?_) | (refine AO.ops rfl rfl (opS_extract (av := .v _) rfl rfl) ?_) | (refine AO.ops rfl rfl (opS_extract (av := .vw _ _ _ _) rfl rfl) ?_)
      refine AR.run rfl rfl ?_
      refine AO.ops rfl rfl (opS_extract (av := .v _) rfl rfl) ?_
      refine AR.run rfl rfl ?_
      first | (refine AO.ops rfl rfl (opS_assign (av := slE _ _ _) rfl) ?_) | (refine AO.ops rfl rfl (opS_assign (av := .v _) rfl) ?_) | (refine AO.ops rfl rfl (opS_assign (av := .vw _ _ _ _) rfl) ?_)
      refine AR.run rfl rfl ?_
      refine AO.ops rfl rfl (opS_assign (av := .v _) rfl) ?_
      refine AR.nil ?_
      show AW _ _ _ _ _ _
      refine AW.seq ?_
      refine AW.seq ?_
      refine AW.region ?_
      show AR _ _ _ _ _ [0, 1] _
      refine AR.run rfl rfl ?_
      refine AO.ops rfl rfl (opS_move (av := .v _) rfl) ?_
      refine AR.run rfl rfl ?_
      refine AO.ops rfl rfl (opS_nei rfl rfl) ?_
      refine AR.nil ?_
      show AW _ _ _ _ _ _
      refine AW.cond rfl (fun c3 => ?_) (fun c3 => ?_)
      ·
        have c3p := c3; try simp only [decide_eq_true_eq, decide_eq_false_iff_not, Bool.not_eq_true', Bool.not_eq_false', Bool.not_true, Bool.not_false, Bool.not_eq_eq_eq_not] at c3p
        refine AW.seq ?_
        refine AW.region ?_
        show AR _ _ _ _ _ [0, 1, 2, 3, 4, 5, 6, 7, 8, 9, 10, 11, 12, 13] _
        refine AR.run rfl rfl ?_
        refine AO.ops rfl rfl (opS_move (av := .v _) rfl) ?_
        refine AR.run rfl rfl ?_
        refine AO.ops rfl rfl (opS_move (av := .v _) rfl) ?_
        refine AR.run rfl rfl ?_
        refine AO.ops rfl rfl (opS_eqi rfl rfl) ?_
        refine AR.run rfl rfl ?_
        refine AO.ops rfl rfl (opS_move (av := .v _) rfl) ?_
        refine AR.guard rfl rfl rfl rfl rfl (fun g4 => ?_) (fun g4 d hd => ?_) (fun h => by cases h)
        ·
          have g4p := g4; try simp only [decide_eq_true_eq, decide_eq_false_iff_not, Bool.not_eq_true', Bool.not_eq_false', Bool.not_true, Bool.not_false, Bool.not_eq_eq_eq_not] at g4p
          first | (refine AO.ops rfl rfl (opS_move (av := slE _ _ _) rfl) ?_) | (refine AO.ops rfl rfl (opS_move (av := .v _) rfl) ?_) | (refine AO.ops rfl rfl (opS_move (av := .vw _ _ _ _) rfl) ?_)
          refine AR.guard rfl rfl rfl rfl rfl (fun _ => ?_) (fun hx => bool_no g4 hx) (fun h => by cases h)
          first | (refine AO.ops rfl rfl (opS_len_sl Try.underlying22 rfl) ?_) | (refine AO.ops rfl rfl (opS_len_nil Try.underlying22 rfl) ?_)
          refine AR.guard rfl rfl rfl rfl rfl (fun _ => ?_) (fun hx => bool_no g4 hx) (fun h => by cases h)
          refine AO.ops rfl rfl (opS_eqi rfl rfl) ?_
          refine AR.run rfl rfl ?_
          refine AO.ops rfl rfl (opS_pick_t (av := .v _) rfl g4 rfl) ?_
          refine AR.run rfl rfl ?_
          refine AO.ops rfl rfl (opS_move (av := .v _) rfl) ?_
          refine AR.guard rfl rfl rfl rfl rfl (fun g5 => ?_) (fun g5 d hd => ?_) (fun h => by cases h)
          ·
            have g5p := g5; try simp only [decide_eq_true_eq, decide_eq_false_iff_not, Bool.not_eq_true', Bool.not_eq_false', Bool.not_true, Bool.not_false, Bool.not_eq_eq_eq_not] at g5p
            first | (refine AO.ops rfl rfl (opS_move (av := slE _ _ _) rfl) ?_) | (refine AO.ops rfl rfl (opS_move (av := .v _) rfl) ?_) | (refine AO.ops rfl rfl (opS_move (av := .vw _ _ _ _) rfl) ?_)
            refine AR.guard rfl rfl rfl rfl rfl (fun _ => ?_) (fun hx => bool_no g5 hx) (fun h => by cases h)
            first | (refine AO.ops rfl rfl (opS_len_sl Try.underlying22 rfl) ?_) | (refine AO.ops rfl rfl (opS_len_nil Try.underlying22 rfl) ?_)
            refine AR.guard rfl rfl rfl rfl rfl (fun _ => ?_) (fun hx => bool_no g5 hx) (fun h => by cases h)
            refine AO.ops rfl rfl (opS_eqi rfl rfl) ?_
            refine AR.run rfl rfl ?_
            refine AO.ops rfl rfl (opS_pick_t (av := .v _) rfl g5 rfl) ?_
            refine AR.run rfl rfl ?_
            refine AO.ops rfl rfl (opS_assign (av := .v _) rfl) ?_
            refine AR.nil ?_
            show AW _ _ _ _ _ _
            refine AW.ret ?_
            -- END 4 (ret)
            show RetPost _ _ _ _ .ret _
            (refine ⟨rfl, _, _, (ResV.one (av := .v _) rfl rfl), ?sub, Ret.mk ?_⟩)
            case sub => first | exact Sub.refl _ | exact Sub.nil _
            first | rfl | (refine B_congr ?_; cases hdb : Qp.decode b with | none => (simp only [hdb] at *; simp at *; done) | some x => (have hj := Qp.soft_behind hdb; simp only [hdb, hj] at *; simp at *; done))
          ·
            cases hd; refine ⟨rfl, ?_⟩
            have g5p := g5; try simp only [decide_eq_true_eq, decide_eq_false_iff_not, Bool.not_eq_true', Bool.not_eq_false', Bool.not_true, Bool.not_false, Bool.not_eq_eq_eq_not] at g5p
            refine AR.guard rfl rfl rfl rfl rfl (fun hx => bool_no hx g5) (fun _ d hd => ?_) (fun h => by cases h)
            cases hd; refine ⟨rfl, ?_⟩
            refine AR.guard rfl rfl rfl rfl rfl (fun hx => bool_no hx g5) (fun _ d hd => ?_) (fun h => by cases h)
            cases hd; refine ⟨rfl, ?_⟩
            refine AR.run rfl rfl ?_
            refine AO.ops rfl rfl (opS_pick_f (av := .v _) rfl g5 rfl) ?_
            refine AR.run rfl rfl ?_
            refine AO.ops rfl rfl (opS_assign (av := .v _) rfl) ?_
            refine AR.nil ?_
            show AW _ _ _ _ _ _
            refine AW.ret ?_
            -- END 5 (ret)
            show RetPost _ _ _ _ .ret _
            (refine ⟨rfl, _, _, (ResV.one (av := .v _) rfl rfl), ?sub, Ret.mk ?_⟩)
            case sub => first | exact Sub.refl _ | exact Sub.nil _
            first | rfl | (refine B_congr ?_; cases hdb : Qp.decode b with | none => (simp only [hdb] at *; simp at *; done) | some x => (have hj := Qp.soft_behind hdb; simp only [hdb, hj] at *; simp at *; done))
        ·
          cases hd; refine ⟨rfl, ?_⟩
          have g4p := g4; try simp only [decide_eq_true_eq, decide_eq_false_iff_not, Bool.not_eq_true', Bool.not_eq_false', Bool.not_true, Bool.not_false, Bool.not_eq_eq_eq_not] at g4p
          refine AR.guard rfl rfl rfl rfl rfl (fun hx => bool_no hx g4) (fun _ d hd => ?_) (fun h => by cases h)
          cases hd; refine ⟨rfl, ?_⟩
          refine AR.guard rfl rfl rfl rfl rfl (fun hx => bool_no hx g4) (fun _ d hd => ?_) (fun h => by cases h)
          cases hd; refine ⟨rfl, ?_⟩
          refine AR.run rfl rfl ?_
          refine AO.ops rfl rfl (opS_pick_f (av := .v _) rfl g4 rfl) ?_
          refine AR.run rfl rfl ?_
          refine AO.ops rfl rfl (opS_move (av := .v _) rfl) ?_
          refine AR.guard rfl rfl rfl rfl rfl (fun hx => bool_no hx (rfl : false = false)) (fun _ d hd => ?_) (fun h => by cases h)
          cases hd; refine ⟨rfl, ?_⟩
          refine AR.guard rfl rfl rfl rfl rfl (fun hx => bool_no hx (rfl : false = false)) (fun _ d hd => ?_) (fun h => by cases h)
          cases hd; refine ⟨rfl, ?_⟩
          refine AR.guard rfl rfl rfl rfl rfl (fun hx => bool_no hx (rfl : false = false)) (fun _ d hd => ?_) (fun h => by cases h)
          cases hd; refine ⟨rfl, ?_⟩
          refine AR.run rfl rfl ?_
          refine AO.ops rfl rfl (opS_pick_f (av := .v _) rfl (rfl : false = false) rfl) ?_
          refine AR.run rfl rfl ?_
          refine AO.ops rfl rfl (opS_assign (av := .v _) rfl) ?_
          refine AR.nil ?_
          show AW _ _ _ _ _ _
          refine AW.ret ?_
          -- END 6 (ret)
          show RetPost _ _ _ _ .ret _
          (refine ⟨rfl, _, _, (ResV.one (av := .v _) rfl rfl), ?sub, Ret.mk ?_⟩)
          case sub => first | exact Sub.refl _ | exact Sub.nil _
          first | rfl | (refine B_congr ?_; cases hdb : Qp.decode b with | none => (simp only [hdb] at *; simp at *; done) | some x => (have hj := Qp.soft_behind hdb; simp only [hdb, hj] at *; simp at *; done))
      ·
        have c3p := c3; try simp only [decide_eq_true_eq, decide_eq_false_iff_not, Bool.not_eq_true', Bool.not_eq_false', Bool.not_true, Bool.not_false, Bool.not_eq_eq_eq_not] at c3p
        refine AW.skip ?_
        show AW _ _ _ _ _ _
        refine AW.seq ?_
        refine AW.region ?_
        show AR _ _ _ _ _ [0, 1, 2, 3, 4, 5, 6, 7, 8, 9, 10, 11, 12, 13, 14, 15, 16, 17, 18, 19, 20] _
        refine AR.run rfl rfl ?_
        refine AO.ops rfl rfl (opS_move (av := .v _) rfl) ?_
        refine AR.run rfl rfl ?_
        refine AO.ops rfl rfl (opS_eqi rfl rfl) ?_
        refine AR.run rfl rfl ?_
        refine AO.ops rfl rfl (opS_move (av := .v _) rfl) ?_
        refine AR.guard rfl rfl rfl rfl rfl (fun g6 => ?_) (fun g6 d hd => ?_) (fun h => by cases h)
        ·
          have g6p := g6; try simp only [decide_eq_true_eq, decide_eq_false_iff_not, Bool.not_eq_true', Bool.not_eq_false', Bool.not_true, Bool.not_false, Bool.not_eq_eq_eq_not] at g6p
          refine AO.ops rfl rfl (opS_move (av := .v _) rfl) ?_
          refine AR.guard rfl rfl rfl rfl rfl (fun _ => ?_) (fun hx => bool_no g6 hx) (fun h => by cases h)
          refine AO.ops rfl rfl (opS_eqi rfl rfl) ?_
          refine AR.run rfl rfl ?_
          refine AO.ops rfl rfl (opS_pick_t (av := .v _) rfl g6 rfl) ?_
          refine AR.run rfl rfl ?_
          refine AO.ops rfl rfl (opS_move (av := .v _) rfl) ?_
          refine AR.guard rfl rfl rfl rfl rfl (fun g7 => ?_) (fun g7 d hd => ?_) (fun h => by cases h)
          ·
            have g7p := g7; try simp only [decide_eq_true_eq, decide_eq_false_iff_not, Bool.not_eq_true', Bool.not_eq_false', Bool.not_true, Bool.not_false, Bool.not_eq_eq_eq_not] at g7p
            first | (refine AO.ops rfl rfl (opS_move (av := slE _ _ _) rfl) ?_) | (refine AO.ops rfl rfl (opS_move (av := .v _) rfl) ?_) | (refine AO.ops rfl rfl (opS_move (av := .vw _ _ _ _) rfl) ?_)
            refine AR.guard rfl rfl rfl rfl rfl (fun _ => ?_) (fun hx => bool_no g7 hx) (fun h => by cases h)
            refine AO.ops rfl rfl (opS_conv_bytes_str Try.underlying22 Try.underlying5 Try.underlying9 rfl) ?_
            refine AR.guard rfl rfl rfl rfl rfl (fun _ => ?_) (fun hx => bool_no g7 hx) (fun h => by cases h)
            first | (refine AO.ops rfl rfl (opS_move (av := slE _ _ _) rfl) ?_) | (refine AO.ops rfl rfl (opS_move (av := .v _) rfl) ?_) | (refine AO.ops rfl rfl (opS_move (av := .vw _ _ _ _) rfl) ?_)
            refine AR.guard rfl rfl rfl rfl rfl (fun _ => ?_) (fun hx => bool_no g7 hx) (fun h => by cases h)
            refine AO.ops rfl rfl (opS_conv_bytes_str Try.underlying22 Try.underlying5 Try.underlying9 rfl) ?_
            refine AR.guard rfl rfl rfl rfl rfl (fun _ => ?_) (fun hx => bool_no g7 hx) (fun h => by cases h)
            refine AO.ops rfl rfl (opS_eqs rfl rfl) ?_
            refine AR.run rfl rfl ?_
            refine AO.ops rfl rfl (opS_pick_t (av := .v _) rfl g7 rfl) ?_
            refine AR.run rfl rfl ?_
            refine AO.ops rfl rfl (opS_move (av := .v _) rfl) ?_
            refine AR.guard rfl rfl rfl rfl rfl (fun g8 => ?_) (fun g8 d hd => ?_) (fun h => by cases h)
            ·
              have g8p := g8; try simp only [decide_eq_true_eq, decide_eq_false_iff_not, Bool.not_eq_true', Bool.not_eq_false', Bool.not_true, Bool.not_false, Bool.not_eq_eq_eq_not] at g8p
              first | (refine AO.ops rfl rfl (opS_move (av := slE _ _ _) rfl) ?_) | (refine AO.ops rfl rfl (opS_move (av := .v _) rfl) ?_) | (refine AO.ops rfl rfl (opS_move (av := .vw _ _ _ _) rfl) ?_)
              refine AR.guard rfl rfl rfl rfl rfl (fun _ => ?_) (fun hx => bool_no g8 hx) (fun h => by cases h)
              refine AO.ops rfl rfl (opS_conv_bytes_str Try.underlying22 Try.underlying5 Try.underlying9 rfl) ?_
              refine AR.guard rfl rfl rfl rfl rfl (fun _ => ?_) (fun hx => bool_no g8 hx) (fun h => by cases h)
              first | (refine AO.ops rfl rfl (opS_move (av := slE _ _ _) rfl) ?_) | (refine AO.ops rfl rfl (opS_move (av := .v _) rfl) ?_) | (refine AO.ops rfl rfl (opS_move (av := .vw _ _ _ _) rfl) ?_)
              refine AR.guard rfl rfl rfl rfl rfl (fun _ => ?_) (fun hx => bool_no g8 hx) (fun h => by cases h)
              refine AO.ops rfl rfl (opS_conv_bytes_str Try.underlying22 Try.underlying5 Try.underlying9 rfl) ?_
              refine AR.guard rfl rfl rfl rfl rfl (fun _ => ?_) (fun hx => bool_no g8 hx) (fun h => by cases h)
              refine AO.ops rfl rfl (opS_eqs rfl rfl) ?_
              refine AR.run rfl rfl ?_
              refine AO.ops rfl rfl (opS_pick_t (av := .v _) rfl g8 rfl) ?_
              refine AR.run rfl rfl ?_
              refine AO.ops rfl rfl (opS_assign (av := .v _) rfl) ?_
              refine AR.nil ?_
              show AW _ _ _ _ _ _
              refine AW.ret ?_
              -- END 7 (ret)
              show RetPost _ _ _ _ .ret _
              (refine ⟨rfl, _, _, (ResV.one (av := .v _) rfl rfl), ?sub, Ret.mk ?_⟩)
              case sub => first | exact Sub.refl _ | exact Sub.nil _
              first | rfl | (refine B_congr ?_; cases hdb : Qp.decode b with | none => (simp only [hdb] at *; simp at *; done) | some x => (have hj := Qp.soft_behind hdb; simp only [hdb, hj] at *; simp at *; done))
            ·
              cases hd; refine ⟨rfl, ?_⟩
              have g8p := g8; try simp only [decide_eq_true_eq, decide_eq_false_iff_not, Bool.not_eq_true', Bool.not_eq_false', Bool.not_true, Bool.not_false, Bool.not_eq_eq_eq_not] at g8p
              refine AR.guard rfl rfl rfl rfl rfl (fun hx => bool_no hx g8) (fun _ d hd => ?_) (fun h => by cases h)
              cases hd; refine ⟨rfl, ?_⟩
              refine AR.guard rfl rfl rfl rfl rfl (fun hx => bool_no hx g8) (fun _ d hd => ?_) (fun h => by cases h)
              cases hd; refine ⟨rfl, ?_⟩
              refine AR.guard rfl rfl rfl rfl rfl (fun hx => bool_no hx g8) (fun _ d hd => ?_) (fun h => by cases h)
              cases hd; refine ⟨rfl, ?_⟩
              refine AR.guard rfl rfl rfl rfl rfl (fun hx => bool_no hx g8) (fun _ d hd => ?_) (fun h => by cases h)
              cases hd; refine ⟨rfl, ?_⟩
              refine AR.run rfl rfl ?_
              refine AO.ops rfl rfl (opS_pick_f (av := .v _) rfl g8 rfl) ?_
              refine AR.run rfl rfl ?_
              refine AO.ops rfl rfl (opS_assign (av := .v _) rfl) ?_
              refine AR.nil ?_
              show AW _ _ _ _ _ _
              refine AW.ret ?_
              -- END 8 (ret)
              show RetPost _ _ _ _ .ret _
              (refine ⟨rfl, _, _, (ResV.one (av := .v _) rfl rfl), ?sub, Ret.mk ?_⟩)
              case sub => first | exact Sub.refl _ | exact Sub.nil _
              first | rfl | (refine B_congr ?_; cases hdb : Qp.decode b with | none => (simp only [hdb] at *; simp at *; done) | some x => (have hj := Qp.soft_behind hdb; simp only [hdb, hj] at *; simp at *; done))
          ·
            cases hd; refine ⟨rfl, ?_⟩
            have g7p := g7; try simp only [decide_eq_true_eq, decide_eq_false_iff_not, Bool.not_eq_true', Bool.not_eq_false', Bool.not_true, Bool.not_false, Bool.not_eq_eq_eq_not] at g7p
            refine AR.guard rfl rfl rfl rfl rfl (fun hx => bool_no hx g7) (fun _ d hd => ?_) (fun h => by cases h)
            cases hd; refine ⟨rfl, ?_⟩
            refine AR.guard rfl rfl rfl rfl rfl (fun hx => bool_no hx g7) (fun _ d hd => ?_) (fun h => by cases h)
            cases hd; refine ⟨rfl, ?_⟩
            refine AR.guard rfl rfl rfl rfl rfl (fun hx => bool_no hx g7) (fun _ d hd => ?_) (fun h => by cases h)
            cases hd; refine ⟨rfl, ?_⟩
            refine AR.guard rfl rfl rfl rfl rfl (fun hx => bool_no hx g7) (fun _ d hd => ?_) (fun h => by cases h)
            cases hd; refine ⟨rfl, ?_⟩
            refine AR.run rfl rfl ?_
            refine AO.ops rfl rfl (opS_pick_f (av := .v _) rfl g7 rfl) ?_
            refine AR.run rfl rfl ?_
            refine AO.ops rfl rfl (opS_move (av := .v _) rfl) ?_
            refine AR.guard rfl rfl rfl rfl rfl (fun hx => bool_no hx (rfl : false = false)) (fun _ d hd => ?_) (fun h => by cases h)
            cases hd; refine ⟨rfl, ?_⟩
            refine AR.guard rfl rfl rfl rfl rfl (fun hx => bool_no hx (rfl : false = false)) (fun _ d hd => ?_) (fun h => by cases h)
            cases hd; refine ⟨rfl, ?_⟩
            refine AR.guard rfl rfl rfl rfl rfl (fun hx => bool_no hx (rfl : false = false)) (fun _ d hd => ?_) (fun h => by cases h)
            cases hd; refine ⟨rfl, ?_⟩
            refine AR.guard rfl rfl rfl rfl rfl (fun hx => bool_no hx (rfl : false = false)) (fun _ d hd => ?_) (fun h => by cases h)
            cases hd; refine ⟨rfl, ?_⟩
            refine AR.guard rfl rfl rfl rfl rfl (fun hx => bool_no hx (rfl : false = false)) (fun _ d hd => ?_) (fun h => by cases h)
            cases hd; refine ⟨rfl, ?_⟩
            refine AR.run rfl rfl ?_
            refine AO.ops rfl rfl (opS_pick_f (av := .v _) rfl (rfl : false = false) rfl) ?_
            refine AR.run rfl rfl ?_
            refine AO.ops rfl rfl (opS_assign (av := .v _) rfl) ?_
            refine AR.nil ?_
            show AW _ _ _ _ _ _
            refine AW.ret ?_
            -- END 9 (ret)
            show RetPost _ _ _ _ .ret _
            (refine ⟨rfl, _, _, (ResV.one (av := .v _) rfl rfl), ?sub, Ret.mk ?_⟩)
            case sub => first | exact Sub.refl _ | exact Sub.nil _
            first | rfl | (refine B_congr ?_; cases hdb : Qp.decode b with | none => (simp only [hdb] at *; simp at *; done) | some x => (have hj := Qp.soft_behind hdb; simp only [hdb, hj] at *; simp at *; done))
        ·
          cases hd; refine ⟨rfl, ?_⟩
          have g6p := g6; try simp only [decide_eq_true_eq, decide_eq_false_iff_not, Bool.not_eq_true', Bool.not_eq_false', Bool.not_true, Bool.not_false, Bool.not_eq_eq_eq_not] at g6p
          refine AR.guard rfl rfl rfl rfl rfl (fun hx => bool_no hx g6) (fun _ d hd => ?_) (fun h => by cases h)
          cases hd; refine ⟨rfl, ?_⟩
          refine AR.run rfl rfl ?_
          refine AO.ops rfl rfl (opS_pick_f (av := .v _) rfl g6 rfl) ?_
          refine AR.run rfl rfl ?_
          refine AO.ops rfl rfl (opS_move (av := .v _) rfl) ?_
          refine AR.guard rfl rfl rfl rfl rfl (fun hx => bool_no hx (rfl : false = false)) (fun _ d hd => ?_) (fun h => by cases h)
          cases hd; refine ⟨rfl, ?_⟩
          refine AR.guard rfl rfl rfl rfl rfl (fun hx => bool_no hx (rfl : false = false)) (fun _ d hd => ?_) (fun h => by cases h)
          cases hd; refine ⟨rfl, ?_⟩
          refine AR.guard rfl rfl rfl rfl rfl (fun hx => bool_no hx (rfl : false = false)) (fun _ d hd => ?_) (fun h => by cases h)
          cases hd; refine ⟨rfl, ?_⟩
          refine AR.guard rfl rfl rfl rfl rfl (fun hx => bool_no hx (rfl : false = false)) (fun _ d hd => ?_) (fun h => by cases h)
          cases hd; refine ⟨rfl, ?_⟩
          refine AR.guard rfl rfl rfl rfl rfl (fun hx => bool_no hx (rfl : false = false)) (fun _ d hd => ?_) (fun h => by cases h)
          cases hd; refine ⟨rfl, ?_⟩
          refine AR.run rfl rfl ?_
          refine AO.ops rfl rfl (opS_pick_f (av := .v _) rfl (rfl : false = false) rfl) ?_
          refine AR.run rfl rfl ?_
          refine AO.ops rfl rfl (opS_move (av := .v _) rfl) ?_
          refine AR.guard rfl rfl rfl rfl rfl (fun hx => bool_no hx (rfl : false = false)) (fun _ d hd => ?_) (fun h => by cases h)
          cases hd; refine ⟨rfl, ?_⟩
          refine AR.guard rfl rfl rfl rfl rfl (fun hx => bool_no hx (rfl : false = false)) (fun _ d hd => ?_) (fun h => by cases h)
          cases hd; refine ⟨rfl, ?_⟩
          refine AR.guard rfl rfl rfl rfl rfl (fun hx => bool_no hx (rfl : false = false)) (fun _ d hd => ?_) (fun h => by cases h)
          cases hd; refine ⟨rfl, ?_⟩
          refine AR.guard rfl rfl rfl rfl rfl (fun hx => bool_no hx (rfl : false = false)) (fun _ d hd => ?_) (fun h => by cases h)
          cases hd; refine ⟨rfl, ?_⟩
          refine AR.guard rfl rfl rfl rfl rfl (fun hx => bool_no hx (rfl : false = false)) (fun _ d hd => ?_) (fun h => by cases h)
          cases hd; refine ⟨rfl, ?_⟩
          refine AR.run rfl rfl ?_
          refine AO.ops rfl rfl (opS_pick_f (av := .v _) rfl (rfl : false = false) rfl) ?_
          refine AR.run rfl rfl ?_
          refine AO.ops rfl rfl (opS_assign (av := .v _) rfl) ?_
          refine AR.nil ?_
          show AW _ _ _ _ _ _
          refine AW.ret ?_
          -- END 10 (ret)
          show RetPost _ _ _ _ .ret _
          (refine ⟨rfl, _, _, (ResV.one (av := .v _) rfl rfl), ?sub, Ret.mk ?_⟩)
          case sub => first | exact Sub.refl _ | exact Sub.nil _
          first | rfl | (refine B_congr ?_; cases hdb : Qp.decode b with | none => (simp only [hdb] at *; simp at *; done) | some x => (have hj := Qp.soft_behind hdb; simp only [hdb, hj] at *; simp at *; done))

/-! mailcoachlaw12.QpPlain -/
set_option maxRecDepth 100000 in
set_option maxHeartbeats 1000000 in
theorem law_Plain (s : List UInt8) :
    ACalls Try.prog 6 [S s] [] (Ret (B true) []) := by
  refine ACalls.of_body Try.func6 rfl rfl ?_
  show AW _ _ 58 _ _ _
  refine AW.seq ?_
  refine AW.region ?_
  show AR _ _ _ _ _ [0] _
  refine AR.run rfl rfl ?_
  refine AO.ops rfl rfl (opS_assign (av := .v _) rfl) ?_
  refine AR.nil ?_
  show AW _ _ _ _ _ _
  refine AW.seq ?_
  refine AW.region ?_
  show AR _ _ _ _ _ [0, 1] _
  refine AR.run rfl rfl ?_
  refine AO.callp rfl en9 rfl law_awake ?_
  refine AR.run rfl rfl ?_
  refine AO.ops rfl rfl (opS_assign (av := .v _) rfl) ?_
  refine AR.nil ?_
  show AW _ _ _ _ _ _
  refine AW.seq ?_
  refine AW.cut (X := Unit) (fun _ => ⟨[(0, S s), (3, B true), (14, B (decide (75 < s.length)))], [], []⟩) (fun _ => True) ?_ ?_
  ·
    refine AW.region ?_
    show AR _ _ _ _ _ [0, 1, 2, 3, 4, 5, 6] _
    refine AR.run rfl rfl ?_
    refine AO.ops rfl rfl (opS_move (av := .v _) rfl) ?_
    refine AR.run rfl rfl ?_
    refine AO.ops rfl rfl (opS_not rfl) ?_
    refine AR.run rfl rfl ?_
    refine AO.ops rfl rfl (opS_move (av := .v _) rfl) ?_
    refine AR.guard rfl rfl rfl rfl rfl (fun g1 => ?_) (fun g1 d hd => ?_) (fun h => by cases h)
    ·
      have g1p := g1; try simp only [decide_eq_true_eq, decide_eq_false_iff_not, Bool.not_eq_true', Bool.not_eq_false', Bool.not_true, Bool.not_false, Bool.not_eq_eq_eq_not] at g1p
      refine AO.ops rfl rfl (opS_move (av := .v _) rfl) ?_
      refine AR.guard rfl rfl rfl rfl rfl (fun _ => ?_) (fun hx => bool_no hx g1) (fun h => by cases h)
      refine AO.ops rfl rfl (opS_len_str Try.underlying9 rfl) ?_
      refine AR.guard rfl rfl rfl rfl rfl (fun _ => ?_) (fun hx => bool_no hx g1) (fun h => by cases h)
      refine AO.ops rfl rfl (opS_gt rfl rfl) ?_
      refine AR.run rfl rfl ?_
      refine AO.ops rfl rfl (opS_pick_f (av := .v _) rfl g1 rfl) ?_
      refine AR.nil ?_
      -- END 1 (cut2)
      refine ⟨(), ?_, ?_⟩
      · trivial
      · refine WK.env (Env.le.cons ?_ (Env.le.cons ?_ (Env.le.cons ?_ (Env.le.nil _)))) ?_
        all_goals first | exact Sub.refl _ | exact Sub.nil _ | ((repeat (first | exact Sub.refl _ | exact Sub.nil _ | refine Sub.cons _ ?_ | refine Sub.skip _ ?_)); done) | exact Wv.refl _ | exact Wv.any _ | exact Wv.tok _ _ _ | exact Wv.nil _ | (refine Wv.of_eq ?_; first | rfl | exact i64_congr (by omega) | (first | (exact absurd g1 (by decide)) | (refine B_congr ?_; rw [Bool.eq_iff_iff]; simp; try omega)))
    ·
      cases hd; refine ⟨rfl, ?_⟩
      have g1p := g1; try simp only [decide_eq_true_eq, decide_eq_false_iff_not, Bool.not_eq_true', Bool.not_eq_false', Bool.not_true, Bool.not_false, Bool.not_eq_eq_eq_not] at g1p
      refine AR.guard rfl rfl rfl rfl rfl (fun hx => bool_no g1 hx) (fun _ d hd => ?_) (fun h => by cases h)
      cases hd; refine ⟨rfl, ?_⟩
      refine AR.guard rfl rfl rfl rfl rfl (fun hx => bool_no g1 hx) (fun _ d hd => ?_) (fun h => by cases h)
      cases hd; refine ⟨rfl, ?_⟩
      refine AR.run rfl rfl ?_
      refine AO.ops rfl rfl (opS_pick_t (av := .v _) rfl g1 rfl) ?_
      refine AR.nil ?_
      -- END 2 (cut2)
      refine ⟨(), ?_, ?_⟩
      · trivial
      · refine WK.env (Env.le.cons ?_ (Env.le.cons ?_ (Env.le.cons ?_ (Env.le.nil _)))) ?_
        all_goals first | exact Sub.refl _ | exact Sub.nil _ | ((repeat (first | exact Sub.refl _ | exact Sub.nil _ | refine Sub.cons _ ?_ | refine Sub.skip _ ?_)); done) | exact Wv.refl _ | exact Wv.any _ | exact Wv.tok _ _ _ | exact Wv.nil _ | (refine Wv.of_eq ?_; first | rfl | exact i64_congr (by omega) | (first | (exact absurd g1 (by decide)) | (refine B_congr ?_; rw [Bool.eq_iff_iff]; simp; try omega)))
  · rintro _ _
    show AW _ _ _ _ _ _
    refine AW.cond rfl (fun c2 => ?_) (fun c2 => ?_)
    ·
      have c2p := c2; try simp only [decide_eq_true_eq, decide_eq_false_iff_not, Bool.not_eq_true', Bool.not_eq_false', Bool.not_true, Bool.not_false, Bool.not_eq_eq_eq_not] at c2p
      refine AW.seq ?_
      refine AW.region ?_
      show AR _ _ _ _ _ [0, 1] _
      refine AR.run rfl rfl ?_
      refine AO.ops rfl rfl (opS_move (av := .v _) rfl) ?_
      refine AR.run rfl rfl ?_
      refine AO.ops rfl rfl (opS_assign (av := .v _) rfl) ?_
      refine AR.nil ?_
      show AW _ _ _ _ _ _
      refine AW.ret ?_
      -- END 3 (ret)
      show RetPost _ _ _ _ .ret _
      
      (refine ⟨rfl, _, _, ResV.oneW rfl ?_, ?_, ⟨rfl, rfl⟩⟩; all_goals first | exact Sub.refl _ | exact Sub.nil _ | ((repeat (first | exact Sub.refl _ | exact Sub.nil _ | refine Sub.cons _ ?_ | refine Sub.skip _ ?_)); done) | exact Wv.refl _ | exact Wv.tok _ _ _ | exact Wv.nil _)
    ·
      have c2p := c2; try simp only [decide_eq_true_eq, decide_eq_false_iff_not, Bool.not_eq_true', Bool.not_eq_false', Bool.not_true, Bool.not_false, Bool.not_eq_eq_eq_not] at c2p
      refine AW.skip ?_
      show AW _ _ _ _ _ _
      refine AW.seq ?_
      refine AW.seq ?_
      refine AW.region ?_
      show AR _ _ _ _ _ [0] _
      refine AR.run rfl rfl ?_
      refine AO.ops rfl rfl (opS_assign (av := .v _) rfl) ?_
      refine AR.nil ?_
      show AW _ _ _ _ _ _
      refine AW.block ?_
      refine AW.loop (X := Nat) (fun i => ⟨[(0, S s), (4, i64 i)], [], []⟩) (fun i => i ≤ s.length ∧ (Qp.okP (s.drop i) → Qp.okP s)) (fun i => s.length - i) 0 ?_ ?_ ?_
      · simp
      · refine WK.env (Env.le.cons ?_ (Env.le.cons ?_ (Env.le.nil _))) ?_
        all_goals first | exact Sub.refl _ | exact Sub.nil _ | ((repeat (first | exact Sub.refl _ | exact Sub.nil _ | refine Sub.cons _ ?_ | refine Sub.skip _ ?_)); done) | exact Wv.refl _ | exact Wv.any _ | exact Wv.tok _ _ _ | exact Wv.nil _ | (refine Wv.of_eq ?_; first | rfl | exact i64_congr (by omega) | (simp))
      · rintro i ⟨h1, h2⟩
        show AW _ _ _ _ _ _
        refine AW.seq ?_
        refine AW.seq ?_
        refine AW.region ?_
        show AR _ _ _ _ _ [0, 1, 2, 3] _
        refine AR.run rfl rfl ?_
        refine AO.ops rfl rfl (opS_move (av := .v _) rfl) ?_
        refine AR.run rfl rfl ?_
        refine AO.ops rfl rfl (opS_move (av := .v _) rfl) ?_
        refine AR.run rfl rfl ?_
        refine AO.ops rfl rfl (opS_len_str Try.underlying9 rfl) ?_
        refine AR.run rfl rfl ?_
        refine AO.ops rfl rfl (opS_lt rfl rfl) ?_
        refine AR.nil ?_
        show AW _ _ _ _ _ _
        refine AW.cond rfl (fun c3 => ?_) (fun c3 => ?_)
        ·
          have c3p := c3; try simp only [decide_eq_true_eq, decide_eq_false_iff_not, Bool.not_eq_true', Bool.not_eq_false', Bool.not_true, Bool.not_false, Bool.not_eq_eq_eq_not] at c3p
          refine AW.skip ?_
          show AW _ _ _ _ _ _
          refine AW.seq ?_
          refine AW.block ?_
          refine AW.seq ?_
          refine AW.region ?_
          show AR _ _ _ _ _ [0, 1, 2, 3] _
          refine AR.run rfl rfl ?_
          refine AO.ops rfl rfl (opS_move (av := .v _) rfl) ?_
          refine AR.run rfl rfl ?_
          refine AO.ops rfl rfl (opS_move (av := .v _) rfl) ?_
          refine AR.run rfl rfl ?_
          refine AO.ops rfl rfl (opS_index_str_lt Try.underlying9 rfl rfl rfl ?h1) ?_
          (case h1 => (omega))
          refine AR.run rfl rfl ?_
          refine AO.ops rfl rfl (opS_assign (av := .v _) rfl) ?_
          refine AR.nil ?_
          show AW _ _ _ _ _ _
          refine AW.cut (X := Unit) (fun _ => ⟨[(0, S s), (4, i64 i), (5, u8 s[i]), (6, B (decide ((97 ≤ s[i].toNat ∧ s[i].toNat ≤ 122) ∨ (48 ≤ s[i].toNat ∧ s[i].toNat ≤ 57))))], [], []⟩) (fun _ => True) ?_ ?_
          ·
            refine AW.region ?_
            show AR _ _ _ _ _ [0, 1, 2, 3, 4, 5, 6, 7, 8, 9, 10, 11, 12, 13, 14] _
            refine AR.run rfl rfl ?_
            refine AO.ops rfl rfl (opS_move (av := .v _) rfl) ?_
            refine AR.run rfl rfl ?_
            refine AO.ops rfl rfl (opS_ge rfl rfl) ?_
            refine AR.run rfl rfl ?_
            refine AO.ops rfl rfl (opS_move (av := .v _) rfl) ?_
            refine AR.guard rfl rfl rfl rfl rfl (fun g4 => ?_) (fun g4 d hd => ?_) (fun h => by cases h)
            ·
              have g4p := g4; try simp only [decide_eq_true_eq, decide_eq_false_iff_not, Bool.not_eq_true', Bool.not_eq_false', Bool.not_true, Bool.not_false, Bool.not_eq_eq_eq_not] at g4p
              refine AO.ops rfl rfl (opS_move (av := .v _) rfl) ?_
              refine AR.guard rfl rfl rfl rfl rfl (fun _ => ?_) (fun hx => bool_no g4 hx) (fun h => by cases h)
              refine AO.ops rfl rfl (opS_le rfl rfl) ?_
              refine AR.run rfl rfl ?_
              refine AO.ops rfl rfl (opS_pick_t (av := .v _) rfl g4 rfl) ?_
              refine AR.run rfl rfl ?_
              refine AO.ops rfl rfl (opS_move (av := .v _) rfl) ?_
              refine AR.guard rfl rfl rfl rfl rfl (fun g5 => ?_) (fun g5 d hd => ?_) (fun h => by cases h)
              ·
                have g5p := g5; try simp only [decide_eq_true_eq, decide_eq_false_iff_not, Bool.not_eq_true', Bool.not_eq_false', Bool.not_true, Bool.not_false, Bool.not_eq_eq_eq_not] at g5p
                refine AO.ops rfl rfl (opS_move (av := .v _) rfl) ?_
                refine AR.guard rfl rfl rfl rfl rfl (fun _ => ?_) (fun hx => bool_no hx g5) (fun h => by cases h)
                refine AO.ops rfl rfl (opS_ge rfl rfl) ?_
                refine AR.guard rfl rfl rfl rfl rfl (fun _ => ?_) (fun hx => bool_no hx g5) (fun h => by cases h)
                refine AO.ops rfl rfl (opS_move (av := .v _) rfl) ?_
                refine AR.guard rfl rfl rfl rfl rfl (fun g6 => ?_) (fun g6 d hd => ?_) (fun h => by cases h)
                ·
                  have g6p := g6; try simp only [decide_eq_true_eq, decide_eq_false_iff_not, Bool.not_eq_true', Bool.not_eq_false', Bool.not_true, Bool.not_false, Bool.not_eq_eq_eq_not] at g6p
                  refine AO.ops rfl rfl (opS_move (av := .v _) rfl) ?_
                  refine AR.guard rfl rfl rfl rfl rfl (fun _ => ?_) (fun hx => bool_no g6 hx) (fun h => by cases h)
                  refine AO.ops rfl rfl (opS_le rfl rfl) ?_
                  refine AR.guard rfl rfl rfl rfl rfl (fun _ => ?_) (fun hx => bool_no hx g5) (fun h => by cases h)
                  refine AO.ops rfl rfl (opS_pick_t (av := .v _) rfl g6 rfl) ?_
                  refine AR.run rfl rfl ?_
                  refine AO.ops rfl rfl (opS_pick_f (av := .v _) rfl g5 rfl) ?_
                  refine AR.run rfl rfl ?_
                  refine AO.ops rfl rfl (opS_assign (av := .v _) rfl) ?_
                  refine AR.nil ?_
                  -- END 4 (cut8)
                  refine ⟨(), ?_, ?_⟩
                  · trivial
                  · refine WK.env (Env.le.cons ?_ (Env.le.cons ?_ (Env.le.cons ?_ (Env.le.cons ?_ (Env.le.nil _))))) ?_
                    all_goals first | exact Sub.refl _ | exact Sub.nil _ | ((repeat (first | exact Sub.refl _ | exact Sub.nil _ | refine Sub.cons _ ?_ | refine Sub.skip _ ?_)); done) | exact Wv.refl _ | exact Wv.any _ | exact Wv.tok _ _ _ | exact Wv.nil _ | (refine Wv.of_eq ?_; first | rfl | exact i64_congr (by omega) | (first | (exact absurd g1 (by decide)) | (exfalso; omega) | (refine B_congr ?_; (try rw [Bool.eq_iff_iff]); simp; try omega)))
                ·
                  cases hd; refine ⟨rfl, ?_⟩
                  have g6p := g6; try simp only [decide_eq_true_eq, decide_eq_false_iff_not, Bool.not_eq_true', Bool.not_eq_false', Bool.not_true, Bool.not_false, Bool.not_eq_eq_eq_not] at g6p
                  refine AR.guard rfl rfl rfl rfl rfl (fun hx => bool_no hx g6) (fun _ d hd => ?_) (fun h => by cases h)
                  cases hd; refine ⟨rfl, ?_⟩
                  refine AR.guard rfl rfl rfl rfl rfl (fun _ => ?_) (fun hx => bool_no hx g5) (fun h => by cases h)
                  refine AO.ops rfl rfl (opS_pick_f (av := .v _) rfl g6 rfl) ?_
                  refine AR.run rfl rfl ?_
                  refine AO.ops rfl rfl (opS_pick_f (av := .v _) rfl g5 rfl) ?_
                  refine AR.run rfl rfl ?_
                  refine AO.ops rfl rfl (opS_assign (av := .v _) rfl) ?_
                  refine AR.nil ?_
                  -- END 5 (cut8)
                  refine ⟨(), ?_, ?_⟩
                  · trivial
                  · refine WK.env (Env.le.cons ?_ (Env.le.cons ?_ (Env.le.cons ?_ (Env.le.cons ?_ (Env.le.nil _))))) ?_
                    all_goals first | exact Sub.refl _ | exact Sub.nil _ | ((repeat (first | exact Sub.refl _ | exact Sub.nil _ | refine Sub.cons _ ?_ | refine Sub.skip _ ?_)); done) | exact Wv.refl _ | exact Wv.any _ | exact Wv.tok _ _ _ | exact Wv.nil _ | (refine Wv.of_eq ?_; first | rfl | exact i64_congr (by omega) | (first | (exact absurd g1 (by decide)) | (exfalso; omega) | (refine B_congr ?_; (try rw [Bool.eq_iff_iff]); simp; try omega)))
              ·
                cases hd; refine ⟨rfl, ?_⟩
                have g5p := g5; try simp only [decide_eq_true_eq, decide_eq_false_iff_not, Bool.not_eq_true', Bool.not_eq_false', Bool.not_true, Bool.not_false, Bool.not_eq_eq_eq_not] at g5p
                refine AR.guard rfl rfl rfl rfl rfl (fun hx => bool_no g5 hx) (fun _ d hd => ?_) (fun h => by cases h)
                cases hd; refine ⟨rfl, ?_⟩
                refine AR.guard rfl rfl rfl rfl rfl (fun hx => bool_no g5 hx) (fun _ d hd => ?_) (fun h => by cases h)
                cases hd; refine ⟨rfl, ?_⟩
                refine AR.guard_u rfl rfl rfl rfl rfl (fun d hd => ?_) (fun h => by cases h)
                cases hd; refine ⟨rfl, ?_⟩
                refine AR.guard_u rfl rfl rfl rfl rfl (fun d hd => ?_) (fun h => by cases h)
                cases hd; refine ⟨rfl, ?_⟩
                refine AR.guard rfl rfl rfl rfl rfl (fun hx => bool_no g5 hx) (fun _ d hd => ?_) (fun h => by cases h)
                cases hd; refine ⟨rfl, ?_⟩
                refine AR.run rfl rfl ?_
                refine AO.ops rfl rfl (opS_pick_t (av := .v _) rfl g5 rfl) ?_
                refine AR.run rfl rfl ?_
                refine AO.ops rfl rfl (opS_assign (av := .v _) rfl) ?_
                refine AR.nil ?_
                -- END 6 (cut8)
                refine ⟨(), ?_, ?_⟩
                · trivial
                · refine WK.env (Env.le.cons ?_ (Env.le.cons ?_ (Env.le.cons ?_ (Env.le.cons ?_ (Env.le.nil _))))) ?_
                  all_goals first | exact Sub.refl _ | exact Sub.nil _ | ((repeat (first | exact Sub.refl _ | exact Sub.nil _ | refine Sub.cons _ ?_ | refine Sub.skip _ ?_)); done) | exact Wv.refl _ | exact Wv.any _ | exact Wv.tok _ _ _ | exact Wv.nil _ | (refine Wv.of_eq ?_; first | rfl | exact i64_congr (by omega) | (first | (exact absurd g1 (by decide)) | (exfalso; omega) | (refine B_congr ?_; (try rw [Bool.eq_iff_iff]); simp; try omega)))
            ·
              cases hd; refine ⟨rfl, ?_⟩
              have g4p := g4; try simp only [decide_eq_true_eq, decide_eq_false_iff_not, Bool.not_eq_true', Bool.not_eq_false', Bool.not_true, Bool.not_false, Bool.not_eq_eq_eq_not] at g4p
              refine AR.guard rfl rfl rfl rfl rfl (fun hx => bool_no hx g4) (fun _ d hd => ?_) (fun h => by cases h)
              cases hd; refine ⟨rfl, ?_⟩
              refine AR.run rfl rfl ?_
              refine AO.ops rfl rfl (opS_pick_f (av := .v _) rfl g4 rfl) ?_
              refine AR.run rfl rfl ?_
              refine AO.ops rfl rfl (opS_move (av := .v _) rfl) ?_
              refine AR.guard rfl rfl rfl rfl rfl (fun _ => ?_) (fun hx => bool_no hx (rfl : false = false)) (fun h => by cases h)
              refine AO.ops rfl rfl (opS_move (av := .v _) rfl) ?_
              refine AR.guard rfl rfl rfl rfl rfl (fun _ => ?_) (fun hx => bool_no hx (rfl : false = false)) (fun h => by cases h)
              refine AO.ops rfl rfl (opS_ge rfl rfl) ?_
              refine AR.guard rfl rfl rfl rfl rfl (fun _ => ?_) (fun hx => bool_no hx (rfl : false = false)) (fun h => by cases h)
              refine AO.ops rfl rfl (opS_move (av := .v _) rfl) ?_
              refine AR.guard rfl rfl rfl rfl rfl (fun g7 => ?_) (fun g7 d hd => ?_) (fun h => by cases h)
              ·
                have g7p := g7; try simp only [decide_eq_true_eq, decide_eq_false_iff_not, Bool.not_eq_true', Bool.not_eq_false', Bool.not_true, Bool.not_false, Bool.not_eq_eq_eq_not] at g7p
                refine AO.ops rfl rfl (opS_move (av := .v _) rfl) ?_
                refine AR.guard rfl rfl rfl rfl rfl (fun _ => ?_) (fun hx => bool_no g7 hx) (fun h => by cases h)
                refine AO.ops rfl rfl (opS_le rfl rfl) ?_
                refine AR.guard rfl rfl rfl rfl rfl (fun _ => ?_) (fun hx => bool_no hx (rfl : false = false)) (fun h => by cases h)
                refine AO.ops rfl rfl (opS_pick_t (av := .v _) rfl g7 rfl) ?_
                refine AR.run rfl rfl ?_
                refine AO.ops rfl rfl (opS_pick_f (av := .v _) rfl (rfl : false = false) rfl) ?_
                refine AR.run rfl rfl ?_
                refine AO.ops rfl rfl (opS_assign (av := .v _) rfl) ?_
                refine AR.nil ?_
                -- END 7 (cut8)
                refine ⟨(), ?_, ?_⟩
                · trivial
                · refine WK.env (Env.le.cons ?_ (Env.le.cons ?_ (Env.le.cons ?_ (Env.le.cons ?_ (Env.le.nil _))))) ?_
                  all_goals first | exact Sub.refl _ | exact Sub.nil _ | ((repeat (first | exact Sub.refl _ | exact Sub.nil _ | refine Sub.cons _ ?_ | refine Sub.skip _ ?_)); done) | exact Wv.refl _ | exact Wv.any _ | exact Wv.tok _ _ _ | exact Wv.nil _ | (refine Wv.of_eq ?_; first | rfl | exact i64_congr (by omega) | (first | (exact absurd g1 (by decide)) | (exfalso; omega) | (refine B_congr ?_; (try rw [Bool.eq_iff_iff]); simp; try omega)))
              ·
                cases hd; refine ⟨rfl, ?_⟩
                have g7p := g7; try simp only [decide_eq_true_eq, decide_eq_false_iff_not, Bool.not_eq_true', Bool.not_eq_false', Bool.not_true, Bool.not_false, Bool.not_eq_eq_eq_not] at g7p
                refine AR.guard rfl rfl rfl rfl rfl (fun hx => bool_no hx g7) (fun _ d hd => ?_) (fun h => by cases h)
                cases hd; refine ⟨rfl, ?_⟩
                refine AR.guard rfl rfl rfl rfl rfl (fun _ => ?_) (fun hx => bool_no hx (rfl : false = false)) (fun h => by cases h)
                refine AO.ops rfl rfl (opS_pick_f (av := .v _) rfl g7 rfl) ?_
                refine AR.run rfl rfl ?_
                refine AO.ops rfl rfl (opS_pick_f (av := .v _) rfl (rfl : false = false) rfl) ?_
                refine AR.run rfl rfl ?_
                refine AO.ops rfl rfl (opS_assign (av := .v _) rfl) ?_
                refine AR.nil ?_
                -- END 8 (cut8)
                refine ⟨(), ?_, ?_⟩
                · trivial
                · refine WK.env (Env.le.cons ?_ (Env.le.cons ?_ (Env.le.cons ?_ (Env.le.cons ?_ (Env.le.nil _))))) ?_
                  all_goals first | exact Sub.refl _ | exact Sub.nil _ | ((repeat (first | exact Sub.refl _ | exact Sub.nil _ | refine Sub.cons _ ?_ | refine Sub.skip _ ?_)); done) | exact Wv.refl _ | exact Wv.any _ | exact Wv.tok _ _ _ | exact Wv.nil _ | (refine Wv.of_eq ?_; first | rfl | exact i64_congr (by omega) | (first | (exact absurd g1 (by decide)) | (exfalso; omega) | (refine B_congr ?_; (try rw [Bool.eq_iff_iff]); simp; try omega)))
          · rintro _ _
            show AW _ _ _ _ _ _
            refine AW.cut (X := Unit) (fun _ => ⟨[(0, S s), (4, i64 i), (51, B (decide (¬(((97 ≤ s[i].toNat ∧ s[i].toNat ≤ 122) ∨ (48 ≤ s[i].toNat ∧ s[i].toNat ≤ 57)) ∨ (s[i].toNat = 32 ∧ i + 1 ≠ s.length)))))], [], []⟩) (fun _ => True) ?_ ?_
            ·
              refine AW.region ?_
              show AR _ _ _ _ _ [0, 1, 2, 3, 4, 5, 6, 7, 8, 9, 10, 11, 12] _
              refine AR.run rfl rfl ?_
              refine AO.ops rfl rfl (opS_move (av := .v _) rfl) ?_
              refine AR.run rfl rfl ?_
              refine AO.ops rfl rfl (opS_not rfl) ?_
              refine AR.run rfl rfl ?_
              refine AO.ops rfl rfl (opS_move (av := .v _) rfl) ?_
              refine AR.guard rfl rfl rfl rfl rfl (fun g8 => ?_) (fun g8 d hd => ?_) (fun h => by cases h)
              ·
                have g8p := g8; try simp only [decide_eq_true_eq, decide_eq_false_iff_not, Bool.not_eq_true', Bool.not_eq_false', Bool.not_true, Bool.not_false, Bool.not_eq_eq_eq_not] at g8p
                refine AO.ops rfl rfl (opS_move (av := .v _) rfl) ?_
                refine AR.guard rfl rfl rfl rfl rfl (fun _ => ?_) (fun hx => bool_no g8 hx) (fun h => by cases h)
                refine AO.ops rfl rfl (opS_nei rfl rfl) ?_
                refine AR.guard rfl rfl rfl rfl rfl (fun _ => ?_) (fun hx => bool_no g8 hx) (fun h => by cases h)
                refine AO.ops rfl rfl (opS_move (av := .v _) rfl) ?_
                refine AR.guard rfl rfl rfl rfl rfl (fun g9 => ?_) (fun g9 d hd => ?_) (fun h => by cases h)
                ·
                  have g9p := g9; try simp only [decide_eq_true_eq, decide_eq_false_iff_not, Bool.not_eq_true', Bool.not_eq_false', Bool.not_true, Bool.not_false, Bool.not_eq_eq_eq_not] at g9p
                  refine AO.ops rfl rfl (opS_move (av := .v _) rfl) ?_
                  refine AR.guard rfl rfl rfl rfl rfl (fun _ => ?_) (fun hx => bool_no hx g9) (fun h => by cases h)
                  refine AO.ops rfl rfl (opS_move (av := .v _) rfl) ?_
                  refine AR.guard rfl rfl rfl rfl rfl (fun _ => ?_) (fun hx => bool_no hx g9) (fun h => by cases h)
                  refine AO.ops rfl rfl (opS_len_str Try.underlying9 rfl) ?_
                  refine AR.guard rfl rfl rfl rfl rfl (fun _ => ?_) (fun hx => bool_no hx g9) (fun h => by cases h)
                  refine AO.ops rfl rfl (opS_sub rfl rfl ?h3) ?_
                  (case h3 => (omega))
                  refine AR.guard rfl rfl rfl rfl rfl (fun _ => ?_) (fun hx => bool_no hx g9) (fun h => by cases h)
                  refine AO.ops rfl rfl (opS_eqi rfl rfl) ?_
                  refine AR.guard rfl rfl rfl rfl rfl (fun _ => ?_) (fun hx => bool_no g8 hx) (fun h => by cases h)
                  refine AO.ops rfl rfl (opS_pick_f (av := .v _) rfl g9 rfl) ?_
                  refine AR.run rfl rfl ?_
                  refine AO.ops rfl rfl (opS_pick_t (av := .v _) rfl g8 rfl) ?_
                  refine AR.nil ?_
                  -- END 9 (cut9)
                  refine ⟨(), ?_, ?_⟩
                  · trivial
                  · refine WK.env (Env.le.cons ?_ (Env.le.cons ?_ (Env.le.cons ?_ (Env.le.nil _)))) ?_
                    all_goals first | exact Sub.refl _ | exact Sub.nil _ | ((repeat (first | exact Sub.refl _ | exact Sub.nil _ | refine Sub.cons _ ?_ | refine Sub.skip _ ?_)); done) | exact Wv.refl _ | exact Wv.any _ | exact Wv.tok _ _ _ | exact Wv.nil _ | (refine Wv.of_eq ?_; first | rfl | exact i64_congr (by omega) | (first | (exact absurd g1 (by decide)) | (exfalso; omega) | (refine B_congr ?_; (try rw [Bool.eq_iff_iff]); simp; try omega)))
                ·
                  cases hd; refine ⟨rfl, ?_⟩
                  have g9p := g9; try simp only [decide_eq_true_eq, decide_eq_false_iff_not, Bool.not_eq_true', Bool.not_eq_false', Bool.not_true, Bool.not_false, Bool.not_eq_eq_eq_not] at g9p
                  refine AR.guard rfl rfl rfl rfl rfl (fun hx => bool_no g9 hx) (fun _ d hd => ?_) (fun h => by cases h)
                  cases hd; refine ⟨rfl, ?_⟩
                  refine AR.guard rfl rfl rfl rfl rfl (fun hx => bool_no g9 hx) (fun _ d hd => ?_) (fun h => by cases h)
                  cases hd; refine ⟨rfl, ?_⟩
                  refine AR.guard rfl rfl rfl rfl rfl (fun hx => bool_no g9 hx) (fun _ d hd => ?_) (fun h => by cases h)
                  cases hd; refine ⟨rfl, ?_⟩
                  refine AR.guard rfl rfl rfl rfl rfl (fun hx => bool_no g9 hx) (fun _ d hd => ?_) (fun h => by cases h)
                  cases hd; refine ⟨rfl, ?_⟩
                  refine AR.guard rfl rfl rfl rfl rfl (fun _ => ?_) (fun hx => bool_no g8 hx) (fun h => by cases h)
                  refine AO.ops rfl rfl (opS_pick_t (av := .v _) rfl g9 rfl) ?_
                  refine AR.run rfl rfl ?_
                  refine AO.ops rfl rfl (opS_pick_t (av := .v _) rfl g8 rfl) ?_
                  refine AR.nil ?_
                  -- END 10 (cut9)
                  refine ⟨(), ?_, ?_⟩
                  · trivial
                  · refine WK.env (Env.le.cons ?_ (Env.le.cons ?_ (Env.le.cons ?_ (Env.le.nil _)))) ?_
                    all_goals first | exact Sub.refl _ | exact Sub.nil _ | ((repeat (first | exact Sub.refl _ | exact Sub.nil _ | refine Sub.cons _ ?_ | refine Sub.skip _ ?_)); done) | exact Wv.refl _ | exact Wv.any _ | exact Wv.tok _ _ _ | exact Wv.nil _ | (refine Wv.of_eq ?_; first | rfl | exact i64_congr (by omega) | (first | (exact absurd g1 (by decide)) | (exfalso; omega) | (refine B_congr ?_; (try rw [Bool.eq_iff_iff]); simp; try omega)))
              ·
                cases hd; refine ⟨rfl, ?_⟩
                have g8p := g8; try simp only [decide_eq_true_eq, decide_eq_false_iff_not, Bool.not_eq_true', Bool.not_eq_false', Bool.not_true, Bool.not_false, Bool.not_eq_eq_eq_not] at g8p
                refine AR.guard rfl rfl rfl rfl rfl (fun hx => bool_no hx g8) (fun _ d hd => ?_) (fun h => by cases h)
                cases hd; refine ⟨rfl, ?_⟩
                refine AR.guard rfl rfl rfl rfl rfl (fun hx => bool_no hx g8) (fun _ d hd => ?_) (fun h => by cases h)
                cases hd; refine ⟨rfl, ?_⟩
                refine AR.guard_u rfl rfl rfl rfl rfl (fun d hd => ?_) (fun h => by cases h)
                cases hd; refine ⟨rfl, ?_⟩
                refine AR.guard_u rfl rfl rfl rfl rfl (fun d hd => ?_) (fun h => by cases h)
                cases hd; refine ⟨rfl, ?_⟩
                refine AR.guard_u rfl rfl rfl rfl rfl (fun d hd => ?_) (fun h => by cases h)
                cases hd; refine ⟨rfl, ?_⟩
                refine AR.guard_u rfl rfl rfl rfl rfl (fun d hd => ?_) (fun h => by cases h)
                cases hd; refine ⟨rfl, ?_⟩
                refine AR.guard_u rfl rfl rfl rfl rfl (fun d hd => ?_) (fun h => by cases h)
                cases hd; refine ⟨rfl, ?_⟩
                refine AR.guard rfl rfl rfl rfl rfl (fun hx => bool_no hx g8) (fun _ d hd => ?_) (fun h => by cases h)
                cases hd; refine ⟨rfl, ?_⟩
                refine AR.run rfl rfl ?_
                refine AO.ops rfl rfl (opS_pick_f (av := .v _) rfl g8 rfl) ?_
                refine AR.nil ?_
                -- END 11 (cut9)
                refine ⟨(), ?_, ?_⟩
                · trivial
                · refine WK.env (Env.le.cons ?_ (Env.le.cons ?_ (Env.le.cons ?_ (Env.le.nil _)))) ?_
                  all_goals first | exact Sub.refl _ | exact Sub.nil _ | ((repeat (first | exact Sub.refl _ | exact Sub.nil _ | refine Sub.cons _ ?_ | refine Sub.skip _ ?_)); done) | exact Wv.refl _ | exact Wv.any _ | exact Wv.tok _ _ _ | exact Wv.nil _ | (refine Wv.of_eq ?_; first | rfl | exact i64_congr (by omega) | (first | (exact absurd g1 (by decide)) | (exfalso; omega) | (refine B_congr ?_; (try rw [Bool.eq_iff_iff]); simp; try omega)))
            · rintro _ _
              show AW _ _ _ _ _ _
              refine AW.cond rfl (fun c10 => ?_) (fun c10 => ?_)
              ·
                have c10p := c10; try simp only [decide_eq_true_eq, decide_eq_false_iff_not, Bool.not_eq_true', Bool.not_eq_false', Bool.not_true, Bool.not_false, Bool.not_eq_eq_eq_not] at c10p
                refine AW.seq ?_
                refine AW.region ?_
                show AR _ _ _ _ _ [0] _
                refine AR.run rfl rfl ?_
                refine AO.ops rfl rfl (opS_assign (av := .v _) rfl) ?_
                refine AR.nil ?_
                show AW _ _ _ _ _ _
                refine AW.ret ?_
                -- END 12 (ret)
                show RetPost _ _ _ _ .ret _
                
                (refine ⟨rfl, _, _, ResV.oneW rfl ?_, ?_, ⟨rfl, rfl⟩⟩; all_goals first | exact Sub.refl _ | exact Sub.nil _ | ((repeat (first | exact Sub.refl _ | exact Sub.nil _ | refine Sub.cons _ ?_ | refine Sub.skip _ ?_)); done) | exact Wv.refl _ | exact Wv.tok _ _ _ | exact Wv.nil _)
              ·
                have c10p := c10; try simp only [decide_eq_true_eq, decide_eq_false_iff_not, Bool.not_eq_true', Bool.not_eq_false', Bool.not_true, Bool.not_false, Bool.not_eq_eq_eq_not] at c10p
                refine AW.skip ?_
                show AW _ _ _ _ _ _
                refine AW.region ?_
                show AR _ _ _ _ _ [0, 1, 2] _
                refine AR.run rfl rfl ?_
                refine AO.ops rfl rfl (opS_move (av := .v _) rfl) ?_
                refine AR.run rfl rfl ?_
                refine AO.ops rfl rfl (opS_add rfl rfl ?h5) ?_
                (case h5 => (omega))
                refine AR.run rfl rfl ?_
                refine AO.ops rfl rfl (opS_assign (av := .v _) rfl) ?_
                refine AR.nil ?_
                -- END 13 (loop1)
                refine ⟨(i + 1), ?_, ?_, ?_⟩
                · exact ⟨by omega, Qp.okP_step (by omega) (by omega) h2⟩
                · (try simp only []); omega
                · refine WK.env (Env.le.cons ?_ (Env.le.cons ?_ (Env.le.nil _))) ?_
                  all_goals first | exact Sub.refl _ | exact Sub.nil _ | ((repeat (first | exact Sub.refl _ | exact Sub.nil _ | refine Sub.cons _ ?_ | refine Sub.skip _ ?_)); done) | exact Wv.refl _ | exact Wv.any _ | exact Wv.tok _ _ _ | exact Wv.nil _ | (refine Wv.of_eq ?_; first | rfl | exact i64_congr (by omega) | (simp))
        ·
          have c3p := c3; try simp only [decide_eq_true_eq, decide_eq_false_iff_not, Bool.not_eq_true', Bool.not_eq_false', Bool.not_true, Bool.not_false, Bool.not_eq_eq_eq_not] at c3p
          refine AW.exit ?_
          show AW _ _ _ _ _ _
          refine AW.seq ?_
          refine AW.region ?_
          show AR _ _ _ _ _ [0, 1, 2, 3, 4, 5, 6] _
          refine AR.run rfl rfl ?_
          refine AO.ops rfl rfl (opS_move (av := .v _) rfl) ?_
          refine AR.run rfl rfl ?_
          refine AO.opx rfl rfl (opX_conv_str_bytes (bytes := 1) Try.underlying9 Try.underlying22 Try.underlying5 rfl ?h7) ?_
          (case h7 => (omega))
          rintro _ _ ⟨t53, rfl, rfl⟩
          refine AR.run rfl rfl ?_
          refine AO.callp rfl en12 rfl (qp_Encode _ _ (by first | omega | (simp; omega))) ?_
          refine AR.run rfl rfl ?_
          refine AO.ops rfl rfl (opS_conv_bytes_str Try.underlying22 Try.underlying5 Try.underlying9 rfl) ?_
          refine AR.run rfl rfl ?_
          refine AO.ops rfl rfl (opS_move (av := .v _) rfl) ?_
          refine AR.run rfl rfl ?_
          refine AO.ops rfl rfl (opS_eqs rfl rfl) ?_
          refine AR.run rfl rfl ?_
          refine AO.ops rfl rfl (opS_assign (av := .v _) rfl) ?_
          refine AR.nil ?_
          show AW _ _ _ _ _ _
          refine AW.ret ?_
          -- END 14 (ret)
          show RetPost _ _ _ _ .ret _
          (refine ⟨rfl, _, _, (ResV.one (av := .v _) rfl rfl), ?sub, Ret.mk ?_⟩)
          case sub => first | exact Sub.refl _ | exact Sub.nil _
          have hk : Qp.enc 0 s = s := Qp.plainP s 0 (by omega) (h2 (by rw [List.drop_eq_nil_of_le (by omega)]; trivial))
          refine B_congr ?_; simp [hk]

/-! mailcoachlaw12.QpLines -/
set_option maxRecDepth 100000 in
set_option maxHeartbeats 1000000 in
theorem law_Lines (b : List UInt8) (tb : Option Nat) :
    ACalls Try.prog 5 [slE Enc.byte b tb] [] (Ret (B true) []) := by
  have hel := Qp.enc_length b 0
  refine ACalls.of_body Try.func5 rfl rfl ?_
  show AW _ _ 123 _ _ _
  refine AW.seq ?_
  refine AW.region ?_
  show AR _ _ _ _ _ [0] _
  refine AR.run rfl rfl ?_
  refine AO.ops rfl rfl (opS_assign (av := .v _) rfl) ?_
  refine AR.nil ?_
  show AW _ _ _ _ _ _
  refine AW.seq ?_
  refine AW.region ?_
  show AR _ _ _ _ _ [0, 1] _
  refine AR.run rfl rfl ?_
  refine AO.callp rfl en9 rfl law_awake ?_
  refine AR.run rfl rfl ?_
  refine AO.ops rfl rfl (opS_assign (av := .v _) rfl) ?_
  refine AR.nil ?_
  show AW _ _ _ _ _ _
  refine AW.seq ?_
  refine AW.cut (X := Unit) (fun _ => ⟨[(0, slE Enc.byte b tb), (3, B true), (14, B (decide (1000 < b.length)))], [], []⟩) (fun _ => True) ?_ ?_
  ·
    refine AW.region ?_
    show AR _ _ _ _ _ [0, 1, 2, 3, 4, 5, 6] _
    refine AR.run rfl rfl ?_
    refine AO.ops rfl rfl (opS_move (av := .v _) rfl) ?_
    refine AR.run rfl rfl ?_
    refine AO.ops rfl rfl (opS_not rfl) ?_
    refine AR.run rfl rfl ?_
    refine AO.ops rfl rfl (opS_move (av := .v _) rfl) ?_
    refine AR.guard rfl rfl rfl rfl rfl (fun g1 => ?_) (fun g1 d hd => ?_) (fun h => by cases h)
    ·
      have g1p := g1; try simp only [decide_eq_true_eq, decide_eq_false_iff_not, Bool.not_eq_true', Bool.not_eq_false', Bool.not_true, Bool.not_false, Bool.not_eq_eq_eq_not] at g1p
      first | (refine AO.ops rfl rfl (opS_move (av := slE _ _ _) rfl) ?_) | (refine AO.ops rfl rfl (opS_move (av := .v _) rfl) ?_) | (refine AO.ops rfl rfl (opS_move (av := .vw _ _ _ _) rfl) ?_)
      refine AR.guard rfl rfl rfl rfl rfl (fun _ => ?_) (fun hx => bool_no hx g1) (fun h => by cases h)
      first | (refine AO.ops rfl rfl (opS_len_sl Try.underlying22 rfl) ?_) | (refine AO.ops rfl rfl (opS_len_nil Try.underlying22 rfl) ?_)
      refine AR.guard rfl rfl rfl rfl rfl (fun _ => ?_) (fun hx => bool_no hx g1) (fun h => by cases h)
      refine AO.ops rfl rfl (opS_gt rfl rfl) ?_
      refine AR.run rfl rfl ?_
      refine AO.ops rfl rfl (opS_pick_f (av := .v _) rfl g1 rfl) ?_
      refine AR.nil ?_
      -- END 1 (cut2)
      refine ⟨(), ?_, ?_⟩
      · trivial
      · refine WK.env (Env.le.cons ?_ (Env.le.cons ?_ (Env.le.cons ?_ (Env.le.nil _)))) ?_
        all_goals first | exact Sub.refl _ | exact Sub.nil _ | ((repeat (first | exact Sub.refl _ | exact Sub.nil _ | refine Sub.cons _ ?_ | refine Sub.skip _ ?_)); done) | exact Wv.refl _ | exact Wv.any _ | exact Wv.tok _ _ _ | exact Wv.nil _ | (refine Wv.of_eq ?_; first | rfl | exact i64_congr (by omega) | (first | (exact absurd g1 (by decide)) | (refine B_congr ?_; rw [Bool.eq_iff_iff]; simp; try omega)))
    ·
      cases hd; refine ⟨rfl, ?_⟩
      have g1p := g1; try simp only [decide_eq_true_eq, decide_eq_false_iff_not, Bool.not_eq_true', Bool.not_eq_false', Bool.not_true, Bool.not_false, Bool.not_eq_eq_eq_not] at g1p
      refine AR.guard rfl rfl rfl rfl rfl (fun hx => bool_no g1 hx) (fun _ d hd => ?_) (fun h => by cases h)
      cases hd; refine ⟨rfl, ?_⟩
      refine AR.guard rfl rfl rfl rfl rfl (fun hx => bool_no g1 hx) (fun _ d hd => ?_) (fun h => by cases h)
      cases hd; refine ⟨rfl, ?_⟩
      refine AR.run rfl rfl ?_
      refine AO.ops rfl rfl (opS_pick_t (av := .v _) rfl g1 rfl) ?_
      refine AR.nil ?_
      -- END 2 (cut2)
      refine ⟨(), ?_, ?_⟩
      · trivial
      · refine WK.env (Env.le.cons ?_ (Env.le.cons ?_ (Env.le.cons ?_ (Env.le.nil _)))) ?_
        all_goals first | exact Sub.refl _ | exact Sub.nil _ | ((repeat (first | exact Sub.refl _ | exact Sub.nil _ | refine Sub.cons _ ?_ | refine Sub.skip _ ?_)); done) | exact Wv.refl _ | exact Wv.any _ | exact Wv.tok _ _ _ | exact Wv.nil _ | (refine Wv.of_eq ?_; first | rfl | exact i64_congr (by omega) | (first | (exact absurd g1 (by decide)) | (refine B_congr ?_; rw [Bool.eq_iff_iff]; simp; try omega)))
  · rintro _ _
    show AW _ _ _ _ _ _
    refine AW.cond rfl (fun c2 => ?_) (fun c2 => ?_)
    ·
      have c2p := c2; try simp only [decide_eq_true_eq, decide_eq_false_iff_not, Bool.not_eq_true', Bool.not_eq_false', Bool.not_true, Bool.not_false, Bool.not_eq_eq_eq_not] at c2p
      refine AW.seq ?_
      refine AW.region ?_
      show AR _ _ _ _ _ [0, 1] _
      refine AR.run rfl rfl ?_
      refine AO.ops rfl rfl (opS_move (av := .v _) rfl) ?_
      refine AR.run rfl rfl ?_
      refine AO.ops rfl rfl (opS_assign (av := .v _) rfl) ?_
      refine AR.nil ?_
      show AW _ _ _ _ _ _
      refine AW.ret ?_
      -- END 3 (ret)
      show RetPost _ _ _ _ .ret _
      
      (refine ⟨rfl, _, _, ResV.oneW rfl ?_, ?_, ⟨rfl, rfl⟩⟩; all_goals first | exact Sub.refl _ | exact Sub.nil _ | ((repeat (first | exact Sub.refl _ | exact Sub.nil _ | refine Sub.cons _ ?_ | refine Sub.skip _ ?_)); done) | exact Wv.refl _ | exact Wv.tok _ _ _ | exact Wv.nil _)
    ·
      have c2p := c2; try simp only [decide_eq_true_eq, decide_eq_false_iff_not, Bool.not_eq_true', Bool.not_eq_false', Bool.not_true, Bool.not_false, Bool.not_eq_eq_eq_not] at c2p
      refine AW.skip ?_
      show AW _ _ _ _ _ _
      refine AW.cut (X := List UInt8) (fun x => ⟨[(4, slE Enc.byte x none)], [], []⟩) (fun x => x.length ≤ 6000 ∧ Qp.chk 0 0 x = true) ?_ ?_
      ·
        refine AW.region ?_
        show AR _ _ _ _ _ [0, 1, 2] _
        refine AR.run rfl rfl ?_
        first | (refine AO.ops rfl rfl (opS_move (av := slE _ _ _) rfl) ?_) | (refine AO.ops rfl rfl (opS_move (av := .v _) rfl) ?_) | (refine AO.ops rfl rfl (opS_move (av := .vw _ _ _ _) rfl) ?_)
        refine AR.run rfl rfl ?_
        refine AO.callp rfl en12 rfl (qp_Encode _ _ (by first | omega | (simp; omega))) ?_
        refine AR.run rfl rfl ?_
        first | (refine AO.ops rfl rfl (opS_assign (av := slE _ _ _) rfl) ?_) | (refine AO.ops rfl rfl (opS_assign (av := .v _) rfl) ?_) | (refine AO.ops rfl rfl (opS_assign (av := .vw _ _ _ _) rfl) ?_)
        refine AR.nil ?_
        -- END 4 (cut4)
        refine ⟨Qp.enc 0 b, ?_, ?_⟩
        · exact ⟨by omega, Qp.lines b 0 0 (by omega) (by omega)⟩
        · refine WK.env (Env.le.cons ?_ (Env.le.nil _)) ?_
          all_goals first | exact Sub.refl _ | exact Sub.nil _ | ((repeat (first | exact Sub.refl _ | exact Sub.nil _ | refine Sub.cons _ ?_ | refine Sub.skip _ ?_)); done) | exact Wv.refl _ | exact Wv.any _ | exact Wv.tok _ _ _ | exact Wv.nil _ | (refine Wv.of_eq ?_; first | rfl | exact i64_congr (by omega) | (simp))
      · rintro x ⟨hx1, hx2⟩
        show AW _ _ _ _ _ _
        refine AW.seq ?_
        refine AW.region ?_
        show AR _ _ _ _ _ [0] _
        refine AR.run rfl rfl ?_
        refine AO.ops rfl rfl (opS_assign (av := .v _) rfl) ?_
        refine AR.nil ?_
        show AW _ _ _ _ _ _
        refine AW.seq ?_
        refine AW.seq ?_
        refine AW.region ?_
        show AR _ _ _ _ _ [0] _
        refine AR.run rfl rfl ?_
        refine AO.ops rfl rfl (opS_assign (av := .v _) rfl) ?_
        refine AR.nil ?_
        show AW _ _ _ _ _ _
        refine AW.block ?_
        refine AW.loop (X := Nat × Nat) (fun (i, n) => ⟨[(4, slE Enc.byte x none), (5, i64 n), (6, i64 i)], [], []⟩) (fun (i, n) => i ≤ x.length ∧ n ≤ i ∧ Qp.chk (Qp.pv x i) n (x.drop i) = true) (fun (i, n) => x.length - i) (0, 0) ?_ ?_ ?_
        · exact ⟨by omega, by omega, hx2⟩
        · refine WK.env (Env.le.cons ?_ (Env.le.cons ?_ (Env.le.cons ?_ (Env.le.nil _)))) ?_
          all_goals first | exact Sub.refl _ | exact Sub.nil _ | ((repeat (first | exact Sub.refl _ | exact Sub.nil _ | refine Sub.cons _ ?_ | refine Sub.skip _ ?_)); done) | exact Wv.refl _ | exact Wv.any _ | exact Wv.tok _ _ _ | exact Wv.nil _ | (refine Wv.of_eq ?_; first | rfl | exact i64_congr (by omega) | (simp))
        · rintro ⟨i, n⟩ ⟨h1, h2, h3⟩
          show AW _ _ _ _ _ _
          refine AW.seq ?_
          refine AW.seq ?_
          refine AW.region ?_
          show AR _ _ _ _ _ [0, 1, 2, 3] _
          refine AR.run rfl rfl ?_
          refine AO.ops rfl rfl (opS_move (av := .v _) rfl) ?_
          refine AR.run rfl rfl ?_
          first | (refine AO.ops rfl rfl (opS_move (av := slE _ _ _) rfl) ?_) | (refine AO.ops rfl rfl (opS_move (av := .v _) rfl) ?_) | (refine AO.ops rfl rfl (opS_move (av := .vw _ _ _ _) rfl) ?_)
          refine AR.run rfl rfl ?_
          first | (refine AO.ops rfl rfl (opS_len_sl Try.underlying22 rfl) ?_) | (refine AO.ops rfl rfl (opS_len_nil Try.underlying22 rfl) ?_)
          refine AR.run rfl rfl ?_
          refine AO.ops rfl rfl (opS_lt rfl rfl) ?_
          refine AR.nil ?_
          show AW _ _ _ _ _ _
          refine AW.cond rfl (fun c3 => ?_) (fun c3 => ?_)
          ·
            have c3p := c3; try simp only [decide_eq_true_eq, decide_eq_false_iff_not, Bool.not_eq_true', Bool.not_eq_false', Bool.not_true, Bool.not_false, Bool.not_eq_eq_eq_not] at c3p
            refine AW.skip ?_
            show AW _ _ _ _ _ _
            refine AW.seq ?_
            refine AW.block ?_
            refine AW.seq ?_
            refine AW.seq ?_
            refine AW.region ?_
            show AR _ _ _ _ _ [0, 1, 2, 3, 4] _
            refine AR.run rfl rfl ?_
            first | (refine AO.ops rfl rfl (opS_move (av := slE _ _ _) rfl) ?_) | (refine AO.ops rfl rfl (opS_move (av := .v _) rfl) ?_) | (refine AO.ops rfl rfl (opS_move (av := .vw _ _ _ _) rfl) ?_)
            refine AR.run rfl rfl ?_
            refine AO.ops rfl rfl (opS_move (av := .v _) rfl) ?_
            refine AR.run rfl rfl ?_
            refine AO.ops rfl rfl (opS_indexAddr_lt Try.underlying22 (by kernel_rfl) rfl rfl rfl ?h1) ?_
            (case h1 => (omega))
            refine AR.run rfl rfl ?_
            first | refine AO.ops rfl rfl (opS_load_cp Try.underlying5 rfl rfl) ?_ | refine AO.op rfl rfl (opR_load_pt (i := 0) Try.underlying5 rfl rfl rfl rfl) ?_ | refine AO.op rfl rfl (opR_load_pt (i := 1) Try.underlying5 rfl rfl rfl rfl) ?_ | refine AO.op rfl rfl (opR_load_pt (i := 2) Try.underlying5 rfl rfl rfl rfl) ?_ | refine AO.op rfl rfl (opR_load_pt (i := 3) Try.underlying5 rfl rfl rfl rfl) ?_
            refine AR.run rfl rfl ?_
            refine AO.ops rfl rfl (opS_eqi rfl rfl) ?_
            refine AR.nil ?_
            show AW _ _ _ _ _ _
            refine AW.cond rfl (fun c4 => ?_) (fun c4 => ?_)
            ·
              have c4p := c4; try simp only [decide_eq_true_eq, decide_eq_false_iff_not, Bool.not_eq_true', Bool.not_eq_false', Bool.not_true, Bool.not_false, Bool.not_eq_eq_eq_not] at c4p
              have hf := Qp.chk13 (by omega) h3 (by omega)
              have hA : i + 1 < x.length := by by_cases hk : i + 1 < x.length; exact hk; have := Qp.nxt_out x (i + 1) hk; omega
              have hB : x[i + 1].toNat = 10 := by rw [← Qp.nxt_in x (i + 1) hA]; exact hf.1
              have hC : ∀ h : 0 < i, x[i - 1].toNat ≠ 32 ∧ x[i - 1].toNat ≠ 9 := fun h => by rw [← Qp.pv_pos x i (by omega) h]; exact ⟨hf.2.1, hf.2.2.1⟩
              refine AW.seq ?_
              refine AW.cut (X := Unit) (fun _ => ⟨[(4, slE Enc.byte x none), (5, i64 n), (6, i64 i), (61, B false)], [], []⟩) (fun _ => True) ?_ ?_
              ·
                refine AW.region ?_
                show AR _ _ _ _ _ [0, 1, 2, 3, 4, 5, 6, 7, 8, 9, 10, 11, 12, 13, 14, 15, 16, 17, 18, 19, 20, 21, 22, 23, 24, 25, 26, 27, 28, 29, 30, 31, 32] _
                refine AR.run rfl rfl ?_
                refine AO.ops rfl rfl (opS_move (av := .v _) rfl) ?_
                refine AR.run rfl rfl ?_
                refine AO.ops rfl rfl (opS_add rfl rfl ?h3) ?_
                (case h3 => (omega))
                refine AR.run rfl rfl ?_
                first | (refine AO.ops rfl rfl (opS_move (av := slE _ _ _) rfl) ?_) | (refine AO.ops rfl rfl (opS_move (av := .v _) rfl) ?_) | (refine AO.ops rfl rfl (opS_move (av := .vw _ _ _ _) rfl) ?_)
                refine AR.run rfl rfl ?_
                first | (refine AO.ops rfl rfl (opS_len_sl Try.underlying22 rfl) ?_) | (refine AO.ops rfl rfl (opS_len_nil Try.underlying22 rfl) ?_)
                refine AR.run rfl rfl ?_
                refine AO.ops rfl rfl (opS_ge rfl rfl) ?_
                refine AR.run rfl rfl ?_
                refine AO.ops rfl rfl (opS_move (av := .v _) rfl) ?_
                refine AR.guard rfl rfl rfl rfl rfl (fun g5 => ?_) (fun g5 d hd => ?_) (fun h => by cases h)
                ·
                  have g5p := g5; try simp only [decide_eq_true_eq, decide_eq_false_iff_not, Bool.not_eq_true', Bool.not_eq_false', Bool.not_true, Bool.not_false, Bool.not_eq_eq_eq_not] at g5p
                  first | (refine AO.ops rfl rfl (opS_move (av := slE _ _ _) rfl) ?_) | (refine AO.ops rfl rfl (opS_move (av := .v _) rfl) ?_) | (refine AO.ops rfl rfl (opS_move (av := .vw _ _ _ _) rfl) ?_)
                  refine AR.guard rfl rfl rfl rfl rfl (fun _ => ?_) (fun hx => bool_no hx g5) (fun h => by cases h)
                  refine AO.ops rfl rfl (opS_move (av := .v _) rfl) ?_
                  refine AR.guard rfl rfl rfl rfl rfl (fun _ => ?_) (fun hx => bool_no hx g5) (fun h => by cases h)
                  refine AO.ops rfl rfl (opS_add rfl rfl ?h5) ?_
                  (case h5 => (omega))
                  refine AR.guard rfl rfl rfl rfl rfl (fun _ => ?_) (fun hx => bool_no hx g5) (fun h => by cases h)
                  refine AO.ops rfl rfl (opS_indexAddr_lt (m := i + 1) Try.underlying22 (by kernel_rfl) rfl rfl ?h6 ?h7) ?_
                  (case h6 => (omega))
                  (case h7 => (omega))
                  refine AR.guard rfl rfl rfl rfl rfl (fun _ => ?_) (fun hx => bool_no hx g5) (fun h => by cases h)
                  first | refine AO.ops rfl rfl (opS_load_cp Try.underlying5 rfl rfl) ?_ | refine AO.op rfl rfl (opR_load_pt (i := 0) Try.underlying5 rfl rfl rfl rfl) ?_ | refine AO.op rfl rfl (opR_load_pt (i := 1) Try.underlying5 rfl rfl rfl rfl) ?_ | refine AO.op rfl rfl (opR_load_pt (i := 2) Try.underlying5 rfl rfl rfl rfl) ?_ | refine AO.op rfl rfl (opR_load_pt (i := 3) Try.underlying5 rfl rfl rfl rfl) ?_
                  refine AR.guard rfl rfl rfl rfl rfl (fun _ => ?_) (fun hx => bool_no hx g5) (fun h => by cases h)
                  refine AO.ops rfl rfl (opS_nei rfl rfl) ?_
                  refine AR.run rfl rfl ?_
                  refine AO.ops rfl rfl (opS_pick_f (av := .v _) rfl g5 rfl) ?_
                  refine AR.run rfl rfl ?_
                  refine AO.ops rfl rfl (opS_move (av := .v _) rfl) ?_
                  refine AR.guard rfl rfl rfl rfl rfl (fun g6 => ?_) (fun g6 d hd => ?_) (fun h => by cases h)
                  ·
                    have g6p := g6; try simp only [decide_eq_true_eq, decide_eq_false_iff_not, Bool.not_eq_true', Bool.not_eq_false', Bool.not_true, Bool.not_false, Bool.not_eq_eq_eq_not] at g6p
                    refine AO.ops rfl rfl (opS_move (av := .v _) rfl) ?_
                    refine AR.guard rfl rfl rfl rfl rfl (fun _ => ?_) (fun hx => bool_no hx g6) (fun h => by cases h)
                    refine AO.ops rfl rfl (opS_gt rfl rfl) ?_
                    refine AR.guard rfl rfl rfl rfl rfl (fun _ => ?_) (fun hx => bool_no hx g6) (fun h => by cases h)
                    refine AO.ops rfl rfl (opS_move (av := .v _) rfl) ?_
                    refine AR.guard rfl rfl rfl rfl rfl (fun g7 => ?_) (fun g7 d hd => ?_) (fun h => by cases h)
                    ·
                      have g7p := g7; try simp only [decide_eq_true_eq, decide_eq_false_iff_not, Bool.not_eq_true', Bool.not_eq_false', Bool.not_true, Bool.not_false, Bool.not_eq_eq_eq_not] at g7p
                      first | (refine AO.ops rfl rfl (opS_move (av := slE _ _ _) rfl) ?_) | (refine AO.ops rfl rfl (opS_move (av := .v _) rfl) ?_) | (refine AO.ops rfl rfl (opS_move (av := .vw _ _ _ _) rfl) ?_)
                      refine AR.guard rfl rfl rfl rfl rfl (fun _ => ?_) (fun hx => bool_no g7 hx) (fun h => by cases h)
                      refine AO.ops rfl rfl (opS_move (av := .v _) rfl) ?_
                      refine AR.guard rfl rfl rfl rfl rfl (fun _ => ?_) (fun hx => bool_no g7 hx) (fun h => by cases h)
                      refine AO.ops rfl rfl (opS_sub rfl rfl ?h9) ?_
                      (case h9 => (omega))
                      refine AR.guard rfl rfl rfl rfl rfl (fun _ => ?_) (fun hx => bool_no g7 hx) (fun h => by cases h)
                      refine AO.ops rfl rfl (opS_indexAddr_lt (m := i - 1) Try.underlying22 (by kernel_rfl) rfl rfl ?h10 ?h11) ?_
                      (case h10 => (omega))
                      (case h11 => (omega))
                      refine AR.guard rfl rfl rfl rfl rfl (fun _ => ?_) (fun hx => bool_no g7 hx) (fun h => by cases h)
                      first | refine AO.ops rfl rfl (opS_load_cp Try.underlying5 rfl rfl) ?_ | refine AO.op rfl rfl (opR_load_pt (i := 0) Try.underlying5 rfl rfl rfl rfl) ?_ | refine AO.op rfl rfl (opR_load_pt (i := 1) Try.underlying5 rfl rfl rfl rfl) ?_ | refine AO.op rfl rfl (opR_load_pt (i := 2) Try.underlying5 rfl rfl rfl rfl) ?_ | refine AO.op rfl rfl (opR_load_pt (i := 3) Try.underlying5 rfl rfl rfl rfl) ?_
                      refine AR.guard rfl rfl rfl rfl rfl (fun _ => ?_) (fun hx => bool_no g7 hx) (fun h => by cases h)
                      refine AO.ops rfl rfl (opS_eqi rfl rfl) ?_
                      refine AR.guard rfl rfl rfl rfl rfl (fun _ => ?_) (fun hx => bool_no g7 hx) (fun h => by cases h)
                      refine AO.ops rfl rfl (opS_move (av := .v _) rfl) ?_
                      refine AR.guard rfl rfl rfl rfl rfl (fun g8 => ?_) (fun g8 d hd => ?_) (fun h => by cases h)
                      ·
                        have g8p := g8; try simp only [decide_eq_true_eq, decide_eq_false_iff_not, Bool.not_eq_true', Bool.not_eq_false', Bool.not_true, Bool.not_false, Bool.not_eq_eq_eq_not] at g8p
                        first | (refine AO.ops rfl rfl (opS_move (av := slE _ _ _) rfl) ?_) | (refine AO.ops rfl rfl (opS_move (av := .v _) rfl) ?_) | (refine AO.ops rfl rfl (opS_move (av := .vw _ _ _ _) rfl) ?_)
                        refine AR.guard rfl rfl rfl rfl rfl (fun _ => ?_) (fun hx => bool_no hx g8) (fun h => by cases h)
                        refine AO.ops rfl rfl (opS_move (av := .v _) rfl) ?_
                        refine AR.guard rfl rfl rfl rfl rfl (fun _ => ?_) (fun hx => bool_no hx g8) (fun h => by cases h)
                        refine AO.ops rfl rfl (opS_sub rfl rfl ?h13) ?_
                        (case h13 => (omega))
                        refine AR.guard rfl rfl rfl rfl rfl (fun _ => ?_) (fun hx => bool_no hx g8) (fun h => by cases h)
                        refine AO.ops rfl rfl (opS_indexAddr_lt (m := i - 1) Try.underlying22 (by kernel_rfl) rfl rfl ?h14 ?h15) ?_
                        (case h14 => (omega))
                        (case h15 => (omega))
                        refine AR.guard rfl rfl rfl rfl rfl (fun _ => ?_) (fun hx => bool_no hx g8) (fun h => by cases h)
                        first | refine AO.ops rfl rfl (opS_load_cp Try.underlying5 rfl rfl) ?_ | refine AO.op rfl rfl (opR_load_pt (i := 0) Try.underlying5 rfl rfl rfl rfl) ?_ | refine AO.op rfl rfl (opR_load_pt (i := 1) Try.underlying5 rfl rfl rfl rfl) ?_ | refine AO.op rfl rfl (opR_load_pt (i := 2) Try.underlying5 rfl rfl rfl rfl) ?_ | refine AO.op rfl rfl (opR_load_pt (i := 3) Try.underlying5 rfl rfl rfl rfl) ?_
                        refine AR.guard rfl rfl rfl rfl rfl (fun _ => ?_) (fun hx => bool_no hx g8) (fun h => by cases h)
                        refine AO.ops rfl rfl (opS_eqi rfl rfl) ?_
                        refine AR.guard rfl rfl rfl rfl rfl (fun _ => ?_) (fun hx => bool_no g7 hx) (fun h => by cases h)
                        refine AO.ops rfl rfl (opS_pick_f (av := .v _) rfl g8 rfl) ?_
                        refine AR.guard rfl rfl rfl rfl rfl (fun _ => ?_) (fun hx => bool_no hx g6) (fun h => by cases h)
                        refine AO.ops rfl rfl (opS_pick_t (av := .v _) rfl g7 rfl) ?_
                        refine AR.run rfl rfl ?_
                        refine AO.ops rfl rfl (opS_pick_f (av := .v _) rfl g6 rfl) ?_
                        refine AR.nil ?_
                        -- END 5 (cut10)
                        refine ⟨(), ?_, ?_⟩
                        · trivial
                        · refine WK.env (Env.le.cons ?_ (Env.le.cons ?_ (Env.le.cons ?_ (Env.le.cons ?_ (Env.le.nil _))))) ?_
                          all_goals first | exact Sub.refl _ | exact Sub.nil _ | ((repeat (first | exact Sub.refl _ | exact Sub.nil _ | refine Sub.cons _ ?_ | refine Sub.skip _ ?_)); done) | exact Wv.refl _ | exact Wv.any _ | exact Wv.tok _ _ _ | exact Wv.nil _ | (refine Wv.of_eq ?_; first | rfl | exact i64_congr (by omega) | (first | (exact absurd g1 (by decide)) | (exfalso; omega) | (have hC0 := hC (by omega); (first | (exfalso; omega) | (refine B_congr ?_; (try rw [Bool.eq_iff_iff]); simp; try omega))) | (refine B_congr ?_; (try rw [Bool.eq_iff_iff]); simp; try omega)))
                      ·
                        cases hd; refine ⟨rfl, ?_⟩
                        have g8p := g8; try simp only [decide_eq_true_eq, decide_eq_false_iff_not, Bool.not_eq_true', Bool.not_eq_false', Bool.not_true, Bool.not_false, Bool.not_eq_eq_eq_not] at g8p
                        refine AR.guard rfl rfl rfl rfl rfl (fun hx => bool_no g8 hx) (fun _ d hd => ?_) (fun h => by cases h)
                        cases hd; refine ⟨rfl, ?_⟩
                        refine AR.guard rfl rfl rfl rfl rfl (fun hx => bool_no g8 hx) (fun _ d hd => ?_) (fun h => by cases h)
                        cases hd; refine ⟨rfl, ?_⟩
                        refine AR.guard rfl rfl rfl rfl rfl (fun hx => bool_no g8 hx) (fun _ d hd => ?_) (fun h => by cases h)
                        cases hd; refine ⟨rfl, ?_⟩
                        refine AR.guard rfl rfl rfl rfl rfl (fun hx => bool_no g8 hx) (fun _ d hd => ?_) (fun h => by cases h)
                        cases hd; refine ⟨rfl, ?_⟩
                        refine AR.guard rfl rfl rfl rfl rfl (fun hx => bool_no g8 hx) (fun _ d hd => ?_) (fun h => by cases h)
                        cases hd; refine ⟨rfl, ?_⟩
                        refine AR.guard rfl rfl rfl rfl rfl (fun _ => ?_) (fun hx => bool_no g7 hx) (fun h => by cases h)
                        refine AO.ops rfl rfl (opS_pick_t (av := .v _) rfl g8 rfl) ?_
                        refine AR.guard rfl rfl rfl rfl rfl (fun _ => ?_) (fun hx => bool_no hx g6) (fun h => by cases h)
                        refine AO.ops rfl rfl (opS_pick_t (av := .v _) rfl g7 rfl) ?_
                        refine AR.run rfl rfl ?_
                        refine AO.ops rfl rfl (opS_pick_f (av := .v _) rfl g6 rfl) ?_
                        refine AR.nil ?_
                        -- END 6 (cut10)
                        refine ⟨(), ?_, ?_⟩
                        · trivial
                        · refine WK.env (Env.le.cons ?_ (Env.le.cons ?_ (Env.le.cons ?_ (Env.le.cons ?_ (Env.le.nil _))))) ?_
                          all_goals first | exact Sub.refl _ | exact Sub.nil _ | ((repeat (first | exact Sub.refl _ | exact Sub.nil _ | refine Sub.cons _ ?_ | refine Sub.skip _ ?_)); done) | exact Wv.refl _ | exact Wv.any _ | exact Wv.tok _ _ _ | exact Wv.nil _ | (refine Wv.of_eq ?_; first | rfl | exact i64_congr (by omega) | (first | (exact absurd g1 (by decide)) | (exfalso; omega) | (have hC0 := hC (by omega); (first | (exfalso; omega) | (refine B_congr ?_; (try rw [Bool.eq_iff_iff]); simp; try omega))) | (refine B_congr ?_; (try rw [Bool.eq_iff_iff]); simp; try omega)))
                    ·
                      cases hd; refine ⟨rfl, ?_⟩
                      have g7p := g7; try simp only [decide_eq_true_eq, decide_eq_false_iff_not, Bool.not_eq_true', Bool.not_eq_false', Bool.not_true, Bool.not_false, Bool.not_eq_eq_eq_not] at g7p
                      refine AR.guard rfl rfl rfl rfl rfl (fun hx => bool_no hx g7) (fun _ d hd => ?_) (fun h => by cases h)
                      cases hd; refine ⟨rfl, ?_⟩
                      refine AR.guard rfl rfl rfl rfl rfl (fun hx => bool_no hx g7) (fun _ d hd => ?_) (fun h => by cases h)
                      cases hd; refine ⟨rfl, ?_⟩
                      refine AR.guard rfl rfl rfl rfl rfl (fun hx => bool_no hx g7) (fun _ d hd => ?_) (fun h => by cases h)
                      cases hd; refine ⟨rfl, ?_⟩
                      refine AR.guard rfl rfl rfl rfl rfl (fun hx => bool_no hx g7) (fun _ d hd => ?_) (fun h => by cases h)
                      cases hd; refine ⟨rfl, ?_⟩
                      refine AR.guard rfl rfl rfl rfl rfl (fun hx => bool_no hx g7) (fun _ d hd => ?_) (fun h => by cases h)
                      cases hd; refine ⟨rfl, ?_⟩
                      refine AR.guard rfl rfl rfl rfl rfl (fun hx => bool_no hx g7) (fun _ d hd => ?_) (fun h => by cases h)
                      cases hd; refine ⟨rfl, ?_⟩
                      refine AR.guard_u rfl rfl rfl rfl rfl (fun d hd => ?_) (fun h => by cases h)
                      cases hd; refine ⟨rfl, ?_⟩
                      refine AR.guard_u rfl rfl rfl rfl rfl (fun d hd => ?_) (fun h => by cases h)
                      cases hd; refine ⟨rfl, ?_⟩
                      refine AR.guard_u rfl rfl rfl rfl rfl (fun d hd => ?_) (fun h => by cases h)
                      cases hd; refine ⟨rfl, ?_⟩
                      refine AR.guard_u rfl rfl rfl rfl rfl (fun d hd => ?_) (fun h => by cases h)
                      cases hd; refine ⟨rfl, ?_⟩
                      refine AR.guard_u rfl rfl rfl rfl rfl (fun d hd => ?_) (fun h => by cases h)
                      cases hd; refine ⟨rfl, ?_⟩
                      refine AR.guard_u rfl rfl rfl rfl rfl (fun d hd => ?_) (fun h => by cases h)
                      cases hd; refine ⟨rfl, ?_⟩
                      refine AR.guard rfl rfl rfl rfl rfl (fun hx => bool_no hx g7) (fun _ d hd => ?_) (fun h => by cases h)
                      cases hd; refine ⟨rfl, ?_⟩
                      refine AR.guard rfl rfl rfl rfl rfl (fun _ => ?_) (fun hx => bool_no hx g6) (fun h => by cases h)
                      refine AO.ops rfl rfl (opS_pick_f (av := .v _) rfl g7 rfl) ?_
                      refine AR.run rfl rfl ?_
                      refine AO.ops rfl rfl (opS_pick_f (av := .v _) rfl g6 rfl) ?_
                      refine AR.nil ?_
                      -- END 7 (cut10)
                      refine ⟨(), ?_, ?_⟩
                      · trivial
                      · refine WK.env (Env.le.cons ?_ (Env.le.cons ?_ (Env.le.cons ?_ (Env.le.cons ?_ (Env.le.nil _))))) ?_
                        all_goals first | exact Sub.refl _ | exact Sub.nil _ | ((repeat (first | exact Sub.refl _ | exact Sub.nil _ | refine Sub.cons _ ?_ | refine Sub.skip _ ?_)); done) | exact Wv.refl _ | exact Wv.any _ | exact Wv.tok _ _ _ | exact Wv.nil _ | (refine Wv.of_eq ?_; first | rfl | exact i64_congr (by omega) | (first | (exact absurd g1 (by decide)) | (exfalso; omega) | (have hC0 := hC (by omega); (first | (exfalso; omega) | (refine B_congr ?_; (try rw [Bool.eq_iff_iff]); simp; try omega))) | (refine B_congr ?_; (try rw [Bool.eq_iff_iff]); simp; try omega)))
                  ·
                    cases hd; refine ⟨rfl, ?_⟩
                    have g6p := g6; try simp only [decide_eq_true_eq, decide_eq_false_iff_not, Bool.not_eq_true', Bool.not_eq_false', Bool.not_true, Bool.not_false, Bool.not_eq_eq_eq_not] at g6p
                    refine AR.guard rfl rfl rfl rfl rfl (fun hx => bool_no g6 hx) (fun _ d hd => ?_) (fun h => by cases h)
                    cases hd; refine ⟨rfl, ?_⟩
                    refine AR.guard rfl rfl rfl rfl rfl (fun hx => bool_no g6 hx) (fun _ d hd => ?_) (fun h => by cases h)
                    cases hd; refine ⟨rfl, ?_⟩
                    refine AR.guard_u rfl rfl rfl rfl rfl (fun d hd => ?_) (fun h => by cases h)
                    cases hd; refine ⟨rfl, ?_⟩
                    refine AR.guard_u rfl rfl rfl rfl rfl (fun d hd => ?_) (fun h => by cases h)
                    cases hd; refine ⟨rfl, ?_⟩
                    refine AR.guard_u rfl rfl rfl rfl rfl (fun d hd => ?_) (fun h => by cases h)
                    cases hd; refine ⟨rfl, ?_⟩
                    refine AR.guard_u rfl rfl rfl rfl rfl (fun d hd => ?_) (fun h => by cases h)
                    cases hd; refine ⟨rfl, ?_⟩
                    refine AR.guard_u rfl rfl rfl rfl rfl (fun d hd => ?_) (fun h => by cases h)
                    cases hd; refine ⟨rfl, ?_⟩
                    refine AR.guard_u rfl rfl rfl rfl rfl (fun d hd => ?_) (fun h => by cases h)
                    cases hd; refine ⟨rfl, ?_⟩
                    refine AR.guard_u rfl rfl rfl rfl rfl (fun d hd => ?_) (fun h => by cases h)
                    cases hd; refine ⟨rfl, ?_⟩
                    refine AR.guard_u rfl rfl rfl rfl rfl (fun d hd => ?_) (fun h => by cases h)
                    cases hd; refine ⟨rfl, ?_⟩
                    refine AR.guard_u rfl rfl rfl rfl rfl (fun d hd => ?_) (fun h => by cases h)
                    cases hd; refine ⟨rfl, ?_⟩
                    refine AR.guard_u rfl rfl rfl rfl rfl (fun d hd => ?_) (fun h => by cases h)
                    cases hd; refine ⟨rfl, ?_⟩
                    refine AR.guard_u rfl rfl rfl rfl rfl (fun d hd => ?_) (fun h => by cases h)
                    cases hd; refine ⟨rfl, ?_⟩
                    refine AR.guard_u rfl rfl rfl rfl rfl (fun d hd => ?_) (fun h => by cases h)
                    cases hd; refine ⟨rfl, ?_⟩
                    refine AR.guard_u rfl rfl rfl rfl rfl (fun d hd => ?_) (fun h => by cases h)
                    cases hd; refine ⟨rfl, ?_⟩
                    refine AR.guard_u rfl rfl rfl rfl rfl (fun d hd => ?_) (fun h => by cases h)
                    cases hd; refine ⟨rfl, ?_⟩
                    refine AR.guard rfl rfl rfl rfl rfl (fun hx => bool_no g6 hx) (fun _ d hd => ?_) (fun h => by cases h)
                    cases hd; refine ⟨rfl, ?_⟩
                    refine AR.run rfl rfl ?_
                    refine AO.ops rfl rfl (opS_pick_t (av := .v _) rfl g6 rfl) ?_
                    refine AR.nil ?_
                    -- END 8 (cut10)
                    refine ⟨(), ?_, ?_⟩
                    · trivial
                    · refine WK.env (Env.le.cons ?_ (Env.le.cons ?_ (Env.le.cons ?_ (Env.le.cons ?_ (Env.le.nil _))))) ?_
                      all_goals first | exact Sub.refl _ | exact Sub.nil _ | ((repeat (first | exact Sub.refl _ | exact Sub.nil _ | refine Sub.cons _ ?_ | refine Sub.skip _ ?_)); done) | exact Wv.refl _ | exact Wv.any _ | exact Wv.tok _ _ _ | exact Wv.nil _ | (refine Wv.of_eq ?_; first | rfl | exact i64_congr (by omega) | (first | (exact absurd g1 (by decide)) | (exfalso; omega) | (have hC0 := hC (by omega); (first | (exfalso; omega) | (refine B_congr ?_; (try rw [Bool.eq_iff_iff]); simp; try omega))) | (refine B_congr ?_; (try rw [Bool.eq_iff_iff]); simp; try omega)))
                ·
                  cases hd; refine ⟨rfl, ?_⟩
                  have g5p := g5; try simp only [decide_eq_true_eq, decide_eq_false_iff_not, Bool.not_eq_true', Bool.not_eq_false', Bool.not_true, Bool.not_false, Bool.not_eq_eq_eq_not] at g5p
                  refine AR.guard rfl rfl rfl rfl rfl (fun hx => bool_no g5 hx) (fun _ d hd => ?_) (fun h => by cases h)
                  cases hd; refine ⟨rfl, ?_⟩
                  refine AR.guard rfl rfl rfl rfl rfl (fun hx => bool_no g5 hx) (fun _ d hd => ?_) (fun h => by cases h)
                  cases hd; refine ⟨rfl, ?_⟩
                  refine AR.guard rfl rfl rfl rfl rfl (fun hx => bool_no g5 hx) (fun _ d hd => ?_) (fun h => by cases h)
                  cases hd; refine ⟨rfl, ?_⟩
                  refine AR.guard rfl rfl rfl rfl rfl (fun hx => bool_no g5 hx) (fun _ d hd => ?_) (fun h => by cases h)
                  cases hd; refine ⟨rfl, ?_⟩
                  refine AR.guard rfl rfl rfl rfl rfl (fun hx => bool_no g5 hx) (fun _ d hd => ?_) (fun h => by cases h)
                  cases hd; refine ⟨rfl, ?_⟩
                  refine AR.run rfl rfl ?_
                  refine AO.ops rfl rfl (opS_pick_t (av := .v _) rfl g5 rfl) ?_
                  refine AR.run rfl rfl ?_
                  refine AO.ops rfl rfl (opS_move (av := .v _) rfl) ?_
                  refine AR.guard rfl rfl rfl rfl rfl (fun hx => bool_no (rfl : true = true) hx) (fun _ d hd => ?_) (fun h => by cases h)
                  cases hd; refine ⟨rfl, ?_⟩
                  refine AR.guard rfl rfl rfl rfl rfl (fun hx => bool_no (rfl : true = true) hx) (fun _ d hd => ?_) (fun h => by cases h)
                  cases hd; refine ⟨rfl, ?_⟩
                  refine AR.guard rfl rfl rfl rfl rfl (fun hx => bool_no (rfl : true = true) hx) (fun _ d hd => ?_) (fun h => by cases h)
                  cases hd; refine ⟨rfl, ?_⟩
                  refine AR.guard_u rfl rfl rfl rfl rfl (fun d hd => ?_) (fun h => by cases h)
                  cases hd; refine ⟨rfl, ?_⟩
                  refine AR.guard_u rfl rfl rfl rfl rfl (fun d hd => ?_) (fun h => by cases h)
                  cases hd; refine ⟨rfl, ?_⟩
                  refine AR.guard_u rfl rfl rfl rfl rfl (fun d hd => ?_) (fun h => by cases h)
                  cases hd; refine ⟨rfl, ?_⟩
                  refine AR.guard_u rfl rfl rfl rfl rfl (fun d hd => ?_) (fun h => by cases h)
                  cases hd; refine ⟨rfl, ?_⟩
                  refine AR.guard_u rfl rfl rfl rfl rfl (fun d hd => ?_) (fun h => by cases h)
                  cases hd; refine ⟨rfl, ?_⟩
                  refine AR.guard_u rfl rfl rfl rfl rfl (fun d hd => ?_) (fun h => by cases h)
                  cases hd; refine ⟨rfl, ?_⟩
                  refine AR.guard_u rfl rfl rfl rfl rfl (fun d hd => ?_) (fun h => by cases h)
                  cases hd; refine ⟨rfl, ?_⟩
                  refine AR.guard_u rfl rfl rfl rfl rfl (fun d hd => ?_) (fun h => by cases h)
                  cases hd; refine ⟨rfl, ?_⟩
                  refine AR.guard_u rfl rfl rfl rfl rfl (fun d hd => ?_) (fun h => by cases h)
                  cases hd; refine ⟨rfl, ?_⟩
                  refine AR.guard_u rfl rfl rfl rfl rfl (fun d hd => ?_) (fun h => by cases h)
                  cases hd; refine ⟨rfl, ?_⟩
                  refine AR.guard_u rfl rfl rfl rfl rfl (fun d hd => ?_) (fun h => by cases h)
                  cases hd; refine ⟨rfl, ?_⟩
                  refine AR.guard_u rfl rfl rfl rfl rfl (fun d hd => ?_) (fun h => by cases h)
                  cases hd; refine ⟨rfl, ?_⟩
                  refine AR.guard_u rfl rfl rfl rfl rfl (fun d hd => ?_) (fun h => by cases h)
                  cases hd; refine ⟨rfl, ?_⟩
                  refine AR.guard_u rfl rfl rfl rfl rfl (fun d hd => ?_) (fun h => by cases h)
                  cases hd; refine ⟨rfl, ?_⟩
                  refine AR.guard rfl rfl rfl rfl rfl (fun hx => bool_no (rfl : true = true) hx) (fun _ d hd => ?_) (fun h => by cases h)
                  cases hd; refine ⟨rfl, ?_⟩
                  refine AR.run rfl rfl ?_
                  refine AO.ops rfl rfl (opS_pick_t (av := .v _) rfl (rfl : true = true) rfl) ?_
                  refine AR.nil ?_
                  -- END 9 (cut10)
                  refine ⟨(), ?_, ?_⟩
                  · trivial
                  · refine WK.env (Env.le.cons ?_ (Env.le.cons ?_ (Env.le.cons ?_ (Env.le.cons ?_ (Env.le.nil _))))) ?_
                    all_goals first | exact Sub.refl _ | exact Sub.nil _ | ((repeat (first | exact Sub.refl _ | exact Sub.nil _ | refine Sub.cons _ ?_ | refine Sub.skip _ ?_)); done) | exact Wv.refl _ | exact Wv.any _ | exact Wv.tok _ _ _ | exact Wv.nil _ | (refine Wv.of_eq ?_; first | rfl | exact i64_congr (by omega) | (first | (exact absurd g1 (by decide)) | (exfalso; omega) | (have hC0 := hC (by omega); (first | (exfalso; omega) | (refine B_congr ?_; (try rw [Bool.eq_iff_iff]); simp; try omega))) | (refine B_congr ?_; (try rw [Bool.eq_iff_iff]); simp; try omega)))
              · rintro _ _
                show AW _ _ _ _ _ _
                refine AW.cond rfl (fun c9 => ?_) (fun c9 => ?_)
                ·
                  have c9p := c9; try simp only [decide_eq_true_eq, decide_eq_false_iff_not, Bool.not_eq_true', Bool.not_eq_false', Bool.not_true, Bool.not_false, Bool.not_eq_eq_eq_not] at c9p
                  refine AW.seq ?_
                  refine AW.region ?_
                  show AR _ _ _ _ _ [0] _
                  refine AR.run rfl rfl ?_
                  refine AO.ops rfl rfl (opS_assign (av := .v _) rfl) ?_
                  refine AR.nil ?_
                  show AW _ _ _ _ _ _
                  refine AW.ret ?_
                  -- END 10 (ret)
                  show RetPost _ _ _ _ .ret _
                  (refine ⟨rfl, _, _, (ResV.one (av := .v _) rfl rfl), ?sub, Ret.mk ?_⟩)
                  case sub => first | exact Sub.refl _ | exact Sub.nil _
                  first | exact absurd (by assumption : false = true) (by decide) | rfl | (exfalso; have hG0 := hG (by omega); omega) | (refine B_congr ?_; (try have hG0 := hG (by omega)); simp; try omega)
                ·
                  have c9p := c9; try simp only [decide_eq_true_eq, decide_eq_false_iff_not, Bool.not_eq_true', Bool.not_eq_false', Bool.not_true, Bool.not_false, Bool.not_eq_eq_eq_not] at c9p
                  refine AW.skip ?_
                  show AW _ _ _ _ _ _
                  refine AW.exit ?_
                  show AW _ _ _ _ _ _
                  refine AW.region ?_
                  show AR _ _ _ _ _ [0, 1, 2] _
                  refine AR.run rfl rfl ?_
                  refine AO.ops rfl rfl (opS_move (av := .v _) rfl) ?_
                  refine AR.run rfl rfl ?_
                  refine AO.ops rfl rfl (opS_add rfl rfl ?h17) ?_
                  (case h17 => (omega))
                  refine AR.run rfl rfl ?_
                  refine AO.ops rfl rfl (opS_assign (av := .v _) rfl) ?_
                  refine AR.nil ?_
                  -- END 11 (loop1)
                  refine ⟨(i + 1, n), ?_, ?_, ?_⟩
                  · exact ⟨by omega, by omega, hf.2.2.2⟩
                  · (try simp only []); omega
                  · refine WK.env (Env.le.cons ?_ (Env.le.cons ?_ (Env.le.cons ?_ (Env.le.nil _)))) ?_
                    all_goals first | exact Sub.refl _ | exact Sub.nil _ | ((repeat (first | exact Sub.refl _ | exact Sub.nil _ | refine Sub.cons _ ?_ | refine Sub.skip _ ?_)); done) | exact Wv.refl _ | exact Wv.any _ | exact Wv.tok _ _ _ | exact Wv.nil _ | (refine Wv.of_eq ?_; first | rfl | exact i64_congr (by omega) | (simp))
            ·
              have c4p := c4; try simp only [decide_eq_true_eq, decide_eq_false_iff_not, Bool.not_eq_true', Bool.not_eq_false', Bool.not_true, Bool.not_false, Bool.not_eq_eq_eq_not] at c4p
              refine AW.skip ?_
              show AW _ _ _ _ _ _
              refine AW.seq ?_
              refine AW.seq ?_
              refine AW.region ?_
              show AR _ _ _ _ _ [0, 1, 2, 3, 4] _
              refine AR.run rfl rfl ?_
              first | (refine AO.ops rfl rfl (opS_move (av := slE _ _ _) rfl) ?_) | (refine AO.ops rfl rfl (opS_move (av := .v _) rfl) ?_) | (refine AO.ops rfl rfl (opS_move (av := .vw _ _ _ _) rfl) ?_)
              refine AR.run rfl rfl ?_
              refine AO.ops rfl rfl (opS_move (av := .v _) rfl) ?_
              refine AR.run rfl rfl ?_
              refine AO.ops rfl rfl (opS_indexAddr_lt Try.underlying22 (by kernel_rfl) rfl rfl rfl ?h18) ?_
              (case h18 => (omega))
              refine AR.run rfl rfl ?_
              first | refine AO.ops rfl rfl (opS_load_cp Try.underlying5 rfl rfl) ?_ | refine AO.op rfl rfl (opR_load_pt (i := 0) Try.underlying5 rfl rfl rfl rfl) ?_ | refine AO.op rfl rfl (opR_load_pt (i := 1) Try.underlying5 rfl rfl rfl rfl) ?_ | refine AO.op rfl rfl (opR_load_pt (i := 2) Try.underlying5 rfl rfl rfl rfl) ?_ | refine AO.op rfl rfl (opR_load_pt (i := 3) Try.underlying5 rfl rfl rfl rfl) ?_
              refine AR.run rfl rfl ?_
              refine AO.ops rfl rfl (opS_eqi rfl rfl) ?_
              refine AR.nil ?_
              show AW _ _ _ _ _ _
              refine AW.cond rfl (fun c10 => ?_) (fun c10 => ?_)
              ·
                have c10p := c10; try simp only [decide_eq_true_eq, decide_eq_false_iff_not, Bool.not_eq_true', Bool.not_eq_false', Bool.not_true, Bool.not_false, Bool.not_eq_eq_eq_not] at c10p
                have hf := Qp.chk10 (by omega) h3 (by omega)
                have hD : 0 < i := by by_cases hk : 0 < i; exact hk; have hk0 : i = 0 := by omega
                                      subst hk0; have h4 := hf.1; rw [Qp.pv_zero] at h4; omega
                have hE : x[i - 1].toNat = 13 := by rw [← Qp.pv_pos x i (by omega) hD]; exact hf.1
                refine AW.seq ?_
                refine AW.cut (X := Unit) (fun _ => ⟨[(4, slE Enc.byte x none), (5, i64 n), (6, i64 i), (76, B false)], [], []⟩) (fun _ => True) ?_ ?_
                ·
                  refine AW.region ?_
                  show AR _ _ _ _ _ [0, 1, 2, 3, 4, 5, 6, 7, 8, 9] _
                  refine AR.run rfl rfl ?_
                  refine AO.ops rfl rfl (opS_move (av := .v _) rfl) ?_
                  refine AR.run rfl rfl ?_
                  refine AO.ops rfl rfl (opS_eqi rfl rfl) ?_
                  refine AR.run rfl rfl ?_
                  refine AO.ops rfl rfl (opS_move (av := .v _) rfl) ?_
                  refine AR.guard rfl rfl rfl rfl rfl (fun g11 => ?_) (fun g11 d hd => ?_) (fun h => by cases h)
                  ·
                    have g11p := g11; try simp only [decide_eq_true_eq, decide_eq_false_iff_not, Bool.not_eq_true', Bool.not_eq_false', Bool.not_true, Bool.not_false, Bool.not_eq_eq_eq_not] at g11p
                    first | (refine AO.ops rfl rfl (opS_move (av := slE _ _ _) rfl) ?_) | (refine AO.ops rfl rfl (opS_move (av := .v _) rfl) ?_) | (refine AO.ops rfl rfl (opS_move (av := .vw _ _ _ _) rfl) ?_)
                    refine AR.guard rfl rfl rfl rfl rfl (fun _ => ?_) (fun hx => bool_no hx g11) (fun h => by cases h)
                    refine AO.ops rfl rfl (opS_move (av := .v _) rfl) ?_
                    refine AR.guard rfl rfl rfl rfl rfl (fun _ => ?_) (fun hx => bool_no hx g11) (fun h => by cases h)
                    refine AO.ops rfl rfl (opS_sub rfl rfl ?h20) ?_
                    (case h20 => (omega))
                    refine AR.guard rfl rfl rfl rfl rfl (fun _ => ?_) (fun hx => bool_no hx g11) (fun h => by cases h)
                    refine AO.ops rfl rfl (opS_indexAddr_lt (m := i - 1) Try.underlying22 (by kernel_rfl) rfl rfl ?h21 ?h22) ?_
                    (case h21 => (omega))
                    (case h22 => (omega))
                    refine AR.guard rfl rfl rfl rfl rfl (fun _ => ?_) (fun hx => bool_no hx g11) (fun h => by cases h)
                    first | refine AO.ops rfl rfl (opS_load_cp Try.underlying5 rfl rfl) ?_ | refine AO.op rfl rfl (opR_load_pt (i := 0) Try.underlying5 rfl rfl rfl rfl) ?_ | refine AO.op rfl rfl (opR_load_pt (i := 1) Try.underlying5 rfl rfl rfl rfl) ?_ | refine AO.op rfl rfl (opR_load_pt (i := 2) Try.underlying5 rfl rfl rfl rfl) ?_ | refine AO.op rfl rfl (opR_load_pt (i := 3) Try.underlying5 rfl rfl rfl rfl) ?_
                    refine AR.guard rfl rfl rfl rfl rfl (fun _ => ?_) (fun hx => bool_no hx g11) (fun h => by cases h)
                    refine AO.ops rfl rfl (opS_nei rfl rfl) ?_
                    refine AR.run rfl rfl ?_
                    refine AO.ops rfl rfl (opS_pick_f (av := .v _) rfl g11 rfl) ?_
                    refine AR.nil ?_
                    -- END 12 (cut13)
                    refine ⟨(), ?_, ?_⟩
                    · trivial
                    · refine WK.env (Env.le.cons ?_ (Env.le.cons ?_ (Env.le.cons ?_ (Env.le.cons ?_ (Env.le.nil _))))) ?_
                      all_goals first | exact Sub.refl _ | exact Sub.nil _ | ((repeat (first | exact Sub.refl _ | exact Sub.nil _ | refine Sub.cons _ ?_ | refine Sub.skip _ ?_)); done) | exact Wv.refl _ | exact Wv.any _ | exact Wv.tok _ _ _ | exact Wv.nil _ | (refine Wv.of_eq ?_; first | rfl | exact i64_congr (by omega) | (first | (exact absurd g1 (by decide)) | (exfalso; omega) | (refine B_congr ?_; (try rw [Bool.eq_iff_iff]); simp; try omega)))
                  ·
                    cases hd; refine ⟨rfl, ?_⟩
                    have g11p := g11; try simp only [decide_eq_true_eq, decide_eq_false_iff_not, Bool.not_eq_true', Bool.not_eq_false', Bool.not_true, Bool.not_false, Bool.not_eq_eq_eq_not] at g11p
                    refine AR.guard rfl rfl rfl rfl rfl (fun hx => bool_no g11 hx) (fun _ d hd => ?_) (fun h => by cases h)
                    cases hd; refine ⟨rfl, ?_⟩
                    refine AR.guard rfl rfl rfl rfl rfl (fun hx => bool_no g11 hx) (fun _ d hd => ?_) (fun h => by cases h)
                    cases hd; refine ⟨rfl, ?_⟩
                    refine AR.guard rfl rfl rfl rfl rfl (fun hx => bool_no g11 hx) (fun _ d hd => ?_) (fun h => by cases h)
                    cases hd; refine ⟨rfl, ?_⟩
                    refine AR.guard rfl rfl rfl rfl rfl (fun hx => bool_no g11 hx) (fun _ d hd => ?_) (fun h => by cases h)
                    cases hd; refine ⟨rfl, ?_⟩
                    refine AR.guard rfl rfl rfl rfl rfl (fun hx => bool_no g11 hx) (fun _ d hd => ?_) (fun h => by cases h)
                    cases hd; refine ⟨rfl, ?_⟩
                    refine AR.run rfl rfl ?_
                    refine AO.ops rfl rfl (opS_pick_t (av := .v _) rfl g11 rfl) ?_
                    refine AR.nil ?_
                    -- END 13 (cut13)
                    refine ⟨(), ?_, ?_⟩
                    · trivial
                    · refine WK.env (Env.le.cons ?_ (Env.le.cons ?_ (Env.le.cons ?_ (Env.le.cons ?_ (Env.le.nil _))))) ?_
                      all_goals first | exact Sub.refl _ | exact Sub.nil _ | ((repeat (first | exact Sub.refl _ | exact Sub.nil _ | refine Sub.cons _ ?_ | refine Sub.skip _ ?_)); done) | exact Wv.refl _ | exact Wv.any _ | exact Wv.tok _ _ _ | exact Wv.nil _ | (refine Wv.of_eq ?_; first | rfl | exact i64_congr (by omega) | (first | (exact absurd g1 (by decide)) | (exfalso; omega) | (refine B_congr ?_; (try rw [Bool.eq_iff_iff]); simp; try omega)))
                · rintro _ _
                  show AW _ _ _ _ _ _
                  refine AW.cond rfl (fun c12 => ?_) (fun c12 => ?_)
                  ·
                    have c12p := c12; try simp only [decide_eq_true_eq, decide_eq_false_iff_not, Bool.not_eq_true', Bool.not_eq_false', Bool.not_true, Bool.not_false, Bool.not_eq_eq_eq_not] at c12p
                    refine AW.seq ?_
                    refine AW.region ?_
                    show AR _ _ _ _ _ [0] _
                    refine AR.run rfl rfl ?_
                    refine AO.ops rfl rfl (opS_assign (av := .v _) rfl) ?_
                    refine AR.nil ?_
                    show AW _ _ _ _ _ _
                    refine AW.ret ?_
                    -- END 14 (ret)
                    show RetPost _ _ _ _ .ret _
                    (refine ⟨rfl, _, _, (ResV.one (av := .v _) rfl rfl), ?sub, Ret.mk ?_⟩)
                    case sub => first | exact Sub.refl _ | exact Sub.nil _
                    first | exact absurd (by assumption : false = true) (by decide) | rfl | (exfalso; have hG0 := hG (by omega); omega) | (refine B_congr ?_; (try have hG0 := hG (by omega)); simp; try omega)
                  ·
                    have c12p := c12; try simp only [decide_eq_true_eq, decide_eq_false_iff_not, Bool.not_eq_true', Bool.not_eq_false', Bool.not_true, Bool.not_false, Bool.not_eq_eq_eq_not] at c12p
                    refine AW.skip ?_
                    show AW _ _ _ _ _ _
                    refine AW.seq ?_
                    refine AW.region ?_
                    show AR _ _ _ _ _ [0] _
                    refine AR.run rfl rfl ?_
                    refine AO.ops rfl rfl (opS_assign (av := .v _) rfl) ?_
                    refine AR.nil ?_
                    show AW _ _ _ _ _ _
                    refine AW.exit ?_
                    show AW _ _ _ _ _ _
                    refine AW.region ?_
                    show AR _ _ _ _ _ [0, 1, 2] _
                    refine AR.run rfl rfl ?_
                    refine AO.ops rfl rfl (opS_move (av := .v _) rfl) ?_
                    refine AR.run rfl rfl ?_
                    refine AO.ops rfl rfl (opS_add rfl rfl ?h24) ?_
                    (case h24 => (omega))
                    refine AR.run rfl rfl ?_
                    refine AO.ops rfl rfl (opS_assign (av := .v _) rfl) ?_
                    refine AR.nil ?_
                    -- END 15 (loop1)
                    refine ⟨(i + 1, 0), ?_, ?_, ?_⟩
                    · exact ⟨by omega, by omega, hf.2⟩
                    · (try simp only []); omega
                    · refine WK.env (Env.le.cons ?_ (Env.le.cons ?_ (Env.le.cons ?_ (Env.le.nil _)))) ?_
                      all_goals first | exact Sub.refl _ | exact Sub.nil _ | ((repeat (first | exact Sub.refl _ | exact Sub.nil _ | refine Sub.cons _ ?_ | refine Sub.skip _ ?_)); done) | exact Wv.refl _ | exact Wv.any _ | exact Wv.tok _ _ _ | exact Wv.nil _ | (refine Wv.of_eq ?_; first | rfl | exact i64_congr (by omega) | (simp))
              ·
                have c10p := c10; try simp only [decide_eq_true_eq, decide_eq_false_iff_not, Bool.not_eq_true', Bool.not_eq_false', Bool.not_true, Bool.not_false, Bool.not_eq_eq_eq_not] at c10p
                have hf := Qp.chkc (by omega) h3 (by omega) (by omega)
                refine AW.skip ?_
                show AW _ _ _ _ _ _
                refine AW.seq ?_
                refine AW.region ?_
                show AR _ _ _ _ _ [0, 1, 2] _
                refine AR.run rfl rfl ?_
                refine AO.ops rfl rfl (opS_move (av := .v _) rfl) ?_
                refine AR.run rfl rfl ?_
                refine AO.ops rfl rfl (opS_add rfl rfl ?h26) ?_
                (case h26 => (omega))
                refine AR.run rfl rfl ?_
                refine AO.ops rfl rfl (opS_assign (av := .v _) rfl) ?_
                refine AR.nil ?_
                show AW _ _ _ _ _ _
                refine AW.cut (X := Unit) (fun _ => ⟨[(4, slE Enc.byte x none), (5, i64 (n + 1)), (6, i64 i), (101, B false)], [], []⟩) (fun _ => True) ?_ ?_
                ·
                  refine AW.region ?_
                  show AR _ _ _ _ _ [0, 1, 2, 3, 4, 5, 6, 7, 8, 9, 10, 11, 12, 13, 14, 15, 16, 17, 18, 19, 20, 21, 22] _
                  refine AR.run rfl rfl ?_
                  refine AO.ops rfl rfl (opS_move (av := .v _) rfl) ?_
                  refine AR.run rfl rfl ?_
                  refine AO.ops rfl rfl (opS_gt rfl rfl) ?_
                  refine AR.run rfl rfl ?_
                  refine AO.ops rfl rfl (opS_move (av := .v _) rfl) ?_
                  refine AR.guard rfl rfl rfl rfl rfl (fun g13 => ?_) (fun g13 d hd => ?_) (fun h => by cases h)
                  ·
                    have g13p := g13; try simp only [decide_eq_true_eq, decide_eq_false_iff_not, Bool.not_eq_true', Bool.not_eq_false', Bool.not_true, Bool.not_false, Bool.not_eq_eq_eq_not] at g13p
                    first | (refine AO.ops rfl rfl (opS_move (av := slE _ _ _) rfl) ?_) | (refine AO.ops rfl rfl (opS_move (av := .v _) rfl) ?_) | (refine AO.ops rfl rfl (opS_move (av := .vw _ _ _ _) rfl) ?_)
                    refine AR.guard rfl rfl rfl rfl rfl (fun _ => ?_) (fun hx => bool_no hx g13) (fun h => by cases h)
                    refine AO.ops rfl rfl (opS_move (av := .v _) rfl) ?_
                    refine AR.guard rfl rfl rfl rfl rfl (fun _ => ?_) (fun hx => bool_no hx g13) (fun h => by cases h)
                    refine AO.ops rfl rfl (opS_indexAddr_lt Try.underlying22 (by kernel_rfl) rfl rfl rfl ?h27) ?_
                    (case h27 => (omega))
                    refine AR.guard rfl rfl rfl rfl rfl (fun _ => ?_) (fun hx => bool_no hx g13) (fun h => by cases h)
                    first | refine AO.ops rfl rfl (opS_load_cp Try.underlying5 rfl rfl) ?_ | refine AO.op rfl rfl (opR_load_pt (i := 0) Try.underlying5 rfl rfl rfl rfl) ?_ | refine AO.op rfl rfl (opR_load_pt (i := 1) Try.underlying5 rfl rfl rfl rfl) ?_ | refine AO.op rfl rfl (opR_load_pt (i := 2) Try.underlying5 rfl rfl rfl rfl) ?_ | refine AO.op rfl rfl (opR_load_pt (i := 3) Try.underlying5 rfl rfl rfl rfl) ?_
                    refine AR.guard rfl rfl rfl rfl rfl (fun _ => ?_) (fun hx => bool_no hx g13) (fun h => by cases h)
                    refine AO.ops rfl rfl (opS_nei rfl rfl) ?_
                    refine AR.guard rfl rfl rfl rfl rfl (fun _ => ?_) (fun hx => bool_no hx g13) (fun h => by cases h)
                    refine AO.ops rfl rfl (opS_move (av := .v _) rfl) ?_
                    refine AR.guard rfl rfl rfl rfl rfl (fun g14 => ?_) (fun g14 d hd => ?_) (fun h => by cases h)
                    ·
                      have g14p := g14; try simp only [decide_eq_true_eq, decide_eq_false_iff_not, Bool.not_eq_true', Bool.not_eq_false', Bool.not_true, Bool.not_false, Bool.not_eq_eq_eq_not] at g14p
                      first | (refine AO.ops rfl rfl (opS_move (av := slE _ _ _) rfl) ?_) | (refine AO.ops rfl rfl (opS_move (av := .v _) rfl) ?_) | (refine AO.ops rfl rfl (opS_move (av := .vw _ _ _ _) rfl) ?_)
                      refine AR.guard rfl rfl rfl rfl rfl (fun _ => ?_) (fun hx => bool_no g14 hx) (fun h => by cases h)
                      refine AO.ops rfl rfl (opS_move (av := .v _) rfl) ?_
                      refine AR.guard rfl rfl rfl rfl rfl (fun _ => ?_) (fun hx => bool_no g14 hx) (fun h => by cases h)
                      refine AO.ops rfl rfl (opS_indexAddr_lt Try.underlying22 (by kernel_rfl) rfl rfl rfl ?h28) ?_
                      (case h28 => (omega))
                      refine AR.guard rfl rfl rfl rfl rfl (fun _ => ?_) (fun hx => bool_no g14 hx) (fun h => by cases h)
                      first | refine AO.ops rfl rfl (opS_load_cp Try.underlying5 rfl rfl) ?_ | refine AO.op rfl rfl (opR_load_pt (i := 0) Try.underlying5 rfl rfl rfl rfl) ?_ | refine AO.op rfl rfl (opR_load_pt (i := 1) Try.underlying5 rfl rfl rfl rfl) ?_ | refine AO.op rfl rfl (opR_load_pt (i := 2) Try.underlying5 rfl rfl rfl rfl) ?_ | refine AO.op rfl rfl (opR_load_pt (i := 3) Try.underlying5 rfl rfl rfl rfl) ?_
                      refine AR.guard rfl rfl rfl rfl rfl (fun _ => ?_) (fun hx => bool_no g14 hx) (fun h => by cases h)
                      refine AO.ops rfl rfl (opS_lt rfl rfl) ?_
                      refine AR.guard rfl rfl rfl rfl rfl (fun _ => ?_) (fun hx => bool_no g14 hx) (fun h => by cases h)
                      refine AO.ops rfl rfl (opS_move (av := .v _) rfl) ?_
                      refine AR.guard rfl rfl rfl rfl rfl (fun g15 => ?_) (fun g15 d hd => ?_) (fun h => by cases h)
                      ·
                        have g15p := g15; try simp only [decide_eq_true_eq, decide_eq_false_iff_not, Bool.not_eq_true', Bool.not_eq_false', Bool.not_true, Bool.not_false, Bool.not_eq_eq_eq_not] at g15p
                        first | (refine AO.ops rfl rfl (opS_move (av := slE _ _ _) rfl) ?_) | (refine AO.ops rfl rfl (opS_move (av := .v _) rfl) ?_) | (refine AO.ops rfl rfl (opS_move (av := .vw _ _ _ _) rfl) ?_)
                        refine AR.guard rfl rfl rfl rfl rfl (fun _ => ?_) (fun hx => bool_no hx g15) (fun h => by cases h)
                        refine AO.ops rfl rfl (opS_move (av := .v _) rfl) ?_
                        refine AR.guard rfl rfl rfl rfl rfl (fun _ => ?_) (fun hx => bool_no hx g15) (fun h => by cases h)
                        refine AO.ops rfl rfl (opS_indexAddr_lt Try.underlying22 (by kernel_rfl) rfl rfl rfl ?h29) ?_
                        (case h29 => (omega))
                        refine AR.guard rfl rfl rfl rfl rfl (fun _ => ?_) (fun hx => bool_no hx g15) (fun h => by cases h)
                        first | refine AO.ops rfl rfl (opS_load_cp Try.underlying5 rfl rfl) ?_ | refine AO.op rfl rfl (opR_load_pt (i := 0) Try.underlying5 rfl rfl rfl rfl) ?_ | refine AO.op rfl rfl (opR_load_pt (i := 1) Try.underlying5 rfl rfl rfl rfl) ?_ | refine AO.op rfl rfl (opR_load_pt (i := 2) Try.underlying5 rfl rfl rfl rfl) ?_ | refine AO.op rfl rfl (opR_load_pt (i := 3) Try.underlying5 rfl rfl rfl rfl) ?_
                        refine AR.guard rfl rfl rfl rfl rfl (fun _ => ?_) (fun hx => bool_no hx g15) (fun h => by cases h)
                        refine AO.ops rfl rfl (opS_gt rfl rfl) ?_
                        refine AR.guard rfl rfl rfl rfl rfl (fun _ => ?_) (fun hx => bool_no g14 hx) (fun h => by cases h)
                        refine AO.ops rfl rfl (opS_pick_f (av := .v _) rfl g15 rfl) ?_
                        refine AR.guard rfl rfl rfl rfl rfl (fun _ => ?_) (fun hx => bool_no hx g13) (fun h => by cases h)
                        refine AO.ops rfl rfl (opS_pick_t (av := .v _) rfl g14 rfl) ?_
                        refine AR.run rfl rfl ?_
                        refine AO.ops rfl rfl (opS_pick_f (av := .v _) rfl g13 rfl) ?_
                        refine AR.nil ?_
                        -- END 16 (cut17)
                        refine ⟨(), ?_, ?_⟩
                        · trivial
                        · refine WK.env (Env.le.cons ?_ (Env.le.cons ?_ (Env.le.cons ?_ (Env.le.cons ?_ (Env.le.nil _))))) ?_
                          all_goals first | exact Sub.refl _ | exact Sub.nil _ | ((repeat (first | exact Sub.refl _ | exact Sub.nil _ | refine Sub.cons _ ?_ | refine Sub.skip _ ?_)); done) | exact Wv.refl _ | exact Wv.any _ | exact Wv.tok _ _ _ | exact Wv.nil _ | (refine Wv.of_eq ?_; first | rfl | exact i64_congr (by omega) | (first | (exact absurd g1 (by decide)) | (exfalso; omega) | (refine B_congr ?_; (try rw [Bool.eq_iff_iff]); simp; try omega)))
                      ·
                        cases hd; refine ⟨rfl, ?_⟩
                        have g15p := g15; try simp only [decide_eq_true_eq, decide_eq_false_iff_not, Bool.not_eq_true', Bool.not_eq_false', Bool.not_true, Bool.not_false, Bool.not_eq_eq_eq_not] at g15p
                        refine AR.guard rfl rfl rfl rfl rfl (fun hx => bool_no g15 hx) (fun _ d hd => ?_) (fun h => by cases h)
                        cases hd; refine ⟨rfl, ?_⟩
                        refine AR.guard rfl rfl rfl rfl rfl (fun hx => bool_no g15 hx) (fun _ d hd => ?_) (fun h => by cases h)
                        cases hd; refine ⟨rfl, ?_⟩
                        refine AR.guard rfl rfl rfl rfl rfl (fun hx => bool_no g15 hx) (fun _ d hd => ?_) (fun h => by cases h)
                        cases hd; refine ⟨rfl, ?_⟩
                        refine AR.guard rfl rfl rfl rfl rfl (fun hx => bool_no g15 hx) (fun _ d hd => ?_) (fun h => by cases h)
                        cases hd; refine ⟨rfl, ?_⟩
                        refine AR.guard rfl rfl rfl rfl rfl (fun _ => ?_) (fun hx => bool_no g14 hx) (fun h => by cases h)
                        refine AO.ops rfl rfl (opS_pick_t (av := .v _) rfl g15 rfl) ?_
                        refine AR.guard rfl rfl rfl rfl rfl (fun _ => ?_) (fun hx => bool_no hx g13) (fun h => by cases h)
                        refine AO.ops rfl rfl (opS_pick_t (av := .v _) rfl g14 rfl) ?_
                        refine AR.run rfl rfl ?_
                        refine AO.ops rfl rfl (opS_pick_f (av := .v _) rfl g13 rfl) ?_
                        refine AR.nil ?_
                        -- END 17 (cut17)
                        refine ⟨(), ?_, ?_⟩
                        · trivial
                        · refine WK.env (Env.le.cons ?_ (Env.le.cons ?_ (Env.le.cons ?_ (Env.le.cons ?_ (Env.le.nil _))))) ?_
                          all_goals first | exact Sub.refl _ | exact Sub.nil _ | ((repeat (first | exact Sub.refl _ | exact Sub.nil _ | refine Sub.cons _ ?_ | refine Sub.skip _ ?_)); done) | exact Wv.refl _ | exact Wv.any _ | exact Wv.tok _ _ _ | exact Wv.nil _ | (refine Wv.of_eq ?_; first | rfl | exact i64_congr (by omega) | (first | (exact absurd g1 (by decide)) | (exfalso; omega) | (refine B_congr ?_; (try rw [Bool.eq_iff_iff]); simp; try omega)))
                    ·
                      cases hd; refine ⟨rfl, ?_⟩
                      have g14p := g14; try simp only [decide_eq_true_eq, decide_eq_false_iff_not, Bool.not_eq_true', Bool.not_eq_false', Bool.not_true, Bool.not_false, Bool.not_eq_eq_eq_not] at g14p
                      refine AR.guard rfl rfl rfl rfl rfl (fun hx => bool_no hx g14) (fun _ d hd => ?_) (fun h => by cases h)
                      cases hd; refine ⟨rfl, ?_⟩
                      refine AR.guard rfl rfl rfl rfl rfl (fun hx => bool_no hx g14) (fun _ d hd => ?_) (fun h => by cases h)
                      cases hd; refine ⟨rfl, ?_⟩
                      refine AR.guard rfl rfl rfl rfl rfl (fun hx => bool_no hx g14) (fun _ d hd => ?_) (fun h => by cases h)
                      cases hd; refine ⟨rfl, ?_⟩
                      refine AR.guard rfl rfl rfl rfl rfl (fun hx => bool_no hx g14) (fun _ d hd => ?_) (fun h => by cases h)
                      cases hd; refine ⟨rfl, ?_⟩
                      refine AR.guard rfl rfl rfl rfl rfl (fun hx => bool_no hx g14) (fun _ d hd => ?_) (fun h => by cases h)
                      cases hd; refine ⟨rfl, ?_⟩
                      refine AR.guard_u rfl rfl rfl rfl rfl (fun d hd => ?_) (fun h => by cases h)
                      cases hd; refine ⟨rfl, ?_⟩
                      refine AR.guard_u rfl rfl rfl rfl rfl (fun d hd => ?_) (fun h => by cases h)
                      cases hd; refine ⟨rfl, ?_⟩
                      refine AR.guard_u rfl rfl rfl rfl rfl (fun d hd => ?_) (fun h => by cases h)
                      cases hd; refine ⟨rfl, ?_⟩
                      refine AR.guard_u rfl rfl rfl rfl rfl (fun d hd => ?_) (fun h => by cases h)
                      cases hd; refine ⟨rfl, ?_⟩
                      refine AR.guard_u rfl rfl rfl rfl rfl (fun d hd => ?_) (fun h => by cases h)
                      cases hd; refine ⟨rfl, ?_⟩
                      refine AR.guard rfl rfl rfl rfl rfl (fun hx => bool_no hx g14) (fun _ d hd => ?_) (fun h => by cases h)
                      cases hd; refine ⟨rfl, ?_⟩
                      refine AR.guard rfl rfl rfl rfl rfl (fun _ => ?_) (fun hx => bool_no hx g13) (fun h => by cases h)
                      refine AO.ops rfl rfl (opS_pick_f (av := .v _) rfl g14 rfl) ?_
                      refine AR.run rfl rfl ?_
                      refine AO.ops rfl rfl (opS_pick_f (av := .v _) rfl g13 rfl) ?_
                      refine AR.nil ?_
                      -- END 18 (cut17)
                      refine ⟨(), ?_, ?_⟩
                      · trivial
                      · refine WK.env (Env.le.cons ?_ (Env.le.cons ?_ (Env.le.cons ?_ (Env.le.cons ?_ (Env.le.nil _))))) ?_
                        all_goals first | exact Sub.refl _ | exact Sub.nil _ | ((repeat (first | exact Sub.refl _ | exact Sub.nil _ | refine Sub.cons _ ?_ | refine Sub.skip _ ?_)); done) | exact Wv.refl _ | exact Wv.any _ | exact Wv.tok _ _ _ | exact Wv.nil _ | (refine Wv.of_eq ?_; first | rfl | exact i64_congr (by omega) | (first | (exact absurd g1 (by decide)) | (exfalso; omega) | (refine B_congr ?_; (try rw [Bool.eq_iff_iff]); simp; try omega)))
                  ·
                    cases hd; refine ⟨rfl, ?_⟩
                    have g13p := g13; try simp only [decide_eq_true_eq, decide_eq_false_iff_not, Bool.not_eq_true', Bool.not_eq_false', Bool.not_true, Bool.not_false, Bool.not_eq_eq_eq_not] at g13p
                    refine AR.guard rfl rfl rfl rfl rfl (fun hx => bool_no g13 hx) (fun _ d hd => ?_) (fun h => by cases h)
                    cases hd; refine ⟨rfl, ?_⟩
                    refine AR.guard rfl rfl rfl rfl rfl (fun hx => bool_no g13 hx) (fun _ d hd => ?_) (fun h => by cases h)
                    cases hd; refine ⟨rfl, ?_⟩
                    refine AR.guard rfl rfl rfl rfl rfl (fun hx => bool_no g13 hx) (fun _ d hd => ?_) (fun h => by cases h)
                    cases hd; refine ⟨rfl, ?_⟩
                    refine AR.guard rfl rfl rfl rfl rfl (fun hx => bool_no g13 hx) (fun _ d hd => ?_) (fun h => by cases h)
                    cases hd; refine ⟨rfl, ?_⟩
                    refine AR.guard rfl rfl rfl rfl rfl (fun hx => bool_no g13 hx) (fun _ d hd => ?_) (fun h => by cases h)
                    cases hd; refine ⟨rfl, ?_⟩
                    refine AR.guard_u rfl rfl rfl rfl rfl (fun d hd => ?_) (fun h => by cases h)
                    cases hd; refine ⟨rfl, ?_⟩
                    refine AR.guard_u rfl rfl rfl rfl rfl (fun d hd => ?_) (fun h => by cases h)
                    cases hd; refine ⟨rfl, ?_⟩
                    refine AR.guard_u rfl rfl rfl rfl rfl (fun d hd => ?_) (fun h => by cases h)
                    cases hd; refine ⟨rfl, ?_⟩
                    refine AR.guard_u rfl rfl rfl rfl rfl (fun d hd => ?_) (fun h => by cases h)
                    cases hd; refine ⟨rfl, ?_⟩
                    refine AR.guard_u rfl rfl rfl rfl rfl (fun d hd => ?_) (fun h => by cases h)
                    cases hd; refine ⟨rfl, ?_⟩
                    refine AR.guard_u rfl rfl rfl rfl rfl (fun d hd => ?_) (fun h => by cases h)
                    cases hd; refine ⟨rfl, ?_⟩
                    refine AR.guard_u rfl rfl rfl rfl rfl (fun d hd => ?_) (fun h => by cases h)
                    cases hd; refine ⟨rfl, ?_⟩
                    refine AR.guard_u rfl rfl rfl rfl rfl (fun d hd => ?_) (fun h => by cases h)
                    cases hd; refine ⟨rfl, ?_⟩
                    refine AR.guard_u rfl rfl rfl rfl rfl (fun d hd => ?_) (fun h => by cases h)
                    cases hd; refine ⟨rfl, ?_⟩
                    refine AR.guard_u rfl rfl rfl rfl rfl (fun d hd => ?_) (fun h => by cases h)
                    cases hd; refine ⟨rfl, ?_⟩
                    refine AR.guard_u rfl rfl rfl rfl rfl (fun d hd => ?_) (fun h => by cases h)
                    cases hd; refine ⟨rfl, ?_⟩
                    refine AR.guard_u rfl rfl rfl rfl rfl (fun d hd => ?_) (fun h => by cases h)
                    cases hd; refine ⟨rfl, ?_⟩
                    refine AR.guard rfl rfl rfl rfl rfl (fun hx => bool_no g13 hx) (fun _ d hd => ?_) (fun h => by cases h)
                    cases hd; refine ⟨rfl, ?_⟩
                    refine AR.run rfl rfl ?_
                    refine AO.ops rfl rfl (opS_pick_t (av := .v _) rfl g13 rfl) ?_
                    refine AR.nil ?_
                    -- END 19 (cut17)
                    refine ⟨(), ?_, ?_⟩
                    · trivial
                    · refine WK.env (Env.le.cons ?_ (Env.le.cons ?_ (Env.le.cons ?_ (Env.le.cons ?_ (Env.le.nil _))))) ?_
                      all_goals first | exact Sub.refl _ | exact Sub.nil _ | ((repeat (first | exact Sub.refl _ | exact Sub.nil _ | refine Sub.cons _ ?_ | refine Sub.skip _ ?_)); done) | exact Wv.refl _ | exact Wv.any _ | exact Wv.tok _ _ _ | exact Wv.nil _ | (refine Wv.of_eq ?_; first | rfl | exact i64_congr (by omega) | (first | (exact absurd g1 (by decide)) | (exfalso; omega) | (refine B_congr ?_; (try rw [Bool.eq_iff_iff]); simp; try omega)))
                · rintro _ _
                  show AW _ _ _ _ _ _
                  refine AW.cond rfl (fun c16 => ?_) (fun c16 => ?_)
                  ·
                    have c16p := c16; try simp only [decide_eq_true_eq, decide_eq_false_iff_not, Bool.not_eq_true', Bool.not_eq_false', Bool.not_true, Bool.not_false, Bool.not_eq_eq_eq_not] at c16p
                    refine AW.seq ?_
                    refine AW.region ?_
                    show AR _ _ _ _ _ [0] _
                    refine AR.run rfl rfl ?_
                    refine AO.ops rfl rfl (opS_assign (av := .v _) rfl) ?_
                    refine AR.nil ?_
                    show AW _ _ _ _ _ _
                    refine AW.ret ?_
                    -- END 20 (ret)
                    show RetPost _ _ _ _ .ret _
                    (refine ⟨rfl, _, _, (ResV.one (av := .v _) rfl rfl), ?sub, Ret.mk ?_⟩)
                    case sub => first | exact Sub.refl _ | exact Sub.nil _
                    first | exact absurd (by assumption : false = true) (by decide) | rfl | (exfalso; have hG0 := hG (by omega); omega) | (refine B_congr ?_; (try have hG0 := hG (by omega)); simp; try omega)
                  ·
                    have c16p := c16; try simp only [decide_eq_true_eq, decide_eq_false_iff_not, Bool.not_eq_true', Bool.not_eq_false', Bool.not_true, Bool.not_false, Bool.not_eq_eq_eq_not] at c16p
                    refine AW.skip ?_
                    show AW _ _ _ _ _ _
                    refine AW.region ?_
                    show AR _ _ _ _ _ [0, 1, 2] _
                    refine AR.run rfl rfl ?_
                    refine AO.ops rfl rfl (opS_move (av := .v _) rfl) ?_
                    refine AR.run rfl rfl ?_
                    refine AO.ops rfl rfl (opS_add rfl rfl ?h31) ?_
                    (case h31 => (omega))
                    refine AR.run rfl rfl ?_
                    refine AO.ops rfl rfl (opS_assign (av := .v _) rfl) ?_
                    refine AR.nil ?_
                    -- END 21 (loop1)
                    refine ⟨(i + 1, n + 1), ?_, ?_, ?_⟩
                    · exact ⟨by omega, by omega, hf.2.2⟩
                    · (try simp only []); omega
                    · refine WK.env (Env.le.cons ?_ (Env.le.cons ?_ (Env.le.cons ?_ (Env.le.nil _)))) ?_
                      all_goals first | exact Sub.refl _ | exact Sub.nil _ | ((repeat (first | exact Sub.refl _ | exact Sub.nil _ | refine Sub.cons _ ?_ | refine Sub.skip _ ?_)); done) | exact Wv.refl _ | exact Wv.any _ | exact Wv.tok _ _ _ | exact Wv.nil _ | (refine Wv.of_eq ?_; first | rfl | exact i64_congr (by omega) | (simp))
          ·
            have c3p := c3; try simp only [decide_eq_true_eq, decide_eq_false_iff_not, Bool.not_eq_true', Bool.not_eq_false', Bool.not_true, Bool.not_false, Bool.not_eq_eq_eq_not] at c3p
            have hi : i = x.length := by omega
            have hG : ∀ h : 0 < x.length, x[x.length - 1].toNat ≠ 32 ∧ x[x.length - 1].toNat ≠ 9 := fun h => by
              subst hi; rw [List.drop_length, Qp.chk, decide_eq_true_eq] at h3; rw [← Qp.pv_pos x x.length (by omega) h]; exact h3
            refine AW.exit ?_
            show AW _ _ _ _ _ _
            refine AW.seq ?_
            refine AW.region ?_
            show AR _ _ _ _ _ [0, 1, 2, 3, 4, 5, 6, 7, 8, 9, 10, 11, 12, 13, 14, 15, 16, 17, 18, 19, 20, 21] _
            refine AR.run rfl rfl ?_
            first | (refine AO.ops rfl rfl (opS_move (av := slE _ _ _) rfl) ?_) | (refine AO.ops rfl rfl (opS_move (av := .v _) rfl) ?_) | (refine AO.ops rfl rfl (opS_move (av := .vw _ _ _ _) rfl) ?_)
            refine AR.run rfl rfl ?_
            first | (refine AO.ops rfl rfl (opS_len_sl Try.underlying22 rfl) ?_) | (refine AO.ops rfl rfl (opS_len_nil Try.underlying22 rfl) ?_)
            refine AR.run rfl rfl ?_
            refine AO.ops rfl rfl (opS_eqi rfl rfl) ?_
            refine AR.run rfl rfl ?_
            refine AO.ops rfl rfl (opS_move (av := .v _) rfl) ?_
            refine AR.guard rfl rfl rfl rfl rfl (fun g17 => ?_) (fun g17 d hd => ?_) (fun h => by cases h)
            ·
              have g17p := g17; try simp only [decide_eq_true_eq, decide_eq_false_iff_not, Bool.not_eq_true', Bool.not_eq_false', Bool.not_true, Bool.not_false, Bool.not_eq_eq_eq_not] at g17p
              first | (refine AO.ops rfl rfl (opS_move (av := slE _ _ _) rfl) ?_) | (refine AO.ops rfl rfl (opS_move (av := .v _) rfl) ?_) | (refine AO.ops rfl rfl (opS_move (av := .vw _ _ _ _) rfl) ?_)
              refine AR.guard rfl rfl rfl rfl rfl (fun _ => ?_) (fun hx => bool_no hx g17) (fun h => by cases h)
              first | (refine AO.ops rfl rfl (opS_move (av := slE _ _ _) rfl) ?_) | (refine AO.ops rfl rfl (opS_move (av := .v _) rfl) ?_) | (refine AO.ops rfl rfl (opS_move (av := .vw _ _ _ _) rfl) ?_)
              refine AR.guard rfl rfl rfl rfl rfl (fun _ => ?_) (fun hx => bool_no hx g17) (fun h => by cases h)
              first | (refine AO.ops rfl rfl (opS_len_sl Try.underlying22 rfl) ?_) | (refine AO.ops rfl rfl (opS_len_nil Try.underlying22 rfl) ?_)
              refine AR.guard rfl rfl rfl rfl rfl (fun _ => ?_) (fun hx => bool_no hx g17) (fun h => by cases h)
              refine AO.ops rfl rfl (opS_sub rfl rfl ?h33) ?_
              (case h33 => (omega))
              refine AR.guard rfl rfl rfl rfl rfl (fun _ => ?_) (fun hx => bool_no hx g17) (fun h => by cases h)
              refine AO.ops rfl rfl (opS_indexAddr_lt (m := x.length - 1) Try.underlying22 (by kernel_rfl) rfl rfl ?h34 ?h35) ?_
              (case h34 => (omega))
              (case h35 => (omega))
              refine AR.guard rfl rfl rfl rfl rfl (fun _ => ?_) (fun hx => bool_no hx g17) (fun h => by cases h)
              first | refine AO.ops rfl rfl (opS_load_cp Try.underlying5 rfl rfl) ?_ | refine AO.op rfl rfl (opR_load_pt (i := 0) Try.underlying5 rfl rfl rfl rfl) ?_ | refine AO.op rfl rfl (opR_load_pt (i := 1) Try.underlying5 rfl rfl rfl rfl) ?_ | refine AO.op rfl rfl (opR_load_pt (i := 2) Try.underlying5 rfl rfl rfl rfl) ?_ | refine AO.op rfl rfl (opR_load_pt (i := 3) Try.underlying5 rfl rfl rfl rfl) ?_
              refine AR.guard rfl rfl rfl rfl rfl (fun _ => ?_) (fun hx => bool_no hx g17) (fun h => by cases h)
              refine AO.ops rfl rfl (opS_nei rfl rfl) ?_
              refine AR.guard rfl rfl rfl rfl rfl (fun _ => ?_) (fun hx => bool_no hx g17) (fun h => by cases h)
              refine AO.ops rfl rfl (opS_move (av := .v _) rfl) ?_
              refine AR.guard rfl rfl rfl rfl rfl (fun g18 => ?_) (fun g18 d hd => ?_) (fun h => by cases h)
              ·
                have g18p := g18; try simp only [decide_eq_true_eq, decide_eq_false_iff_not, Bool.not_eq_true', Bool.not_eq_false', Bool.not_true, Bool.not_false, Bool.not_eq_eq_eq_not] at g18p
                first | (refine AO.ops rfl rfl (opS_move (av := slE _ _ _) rfl) ?_) | (refine AO.ops rfl rfl (opS_move (av := .v _) rfl) ?_) | (refine AO.ops rfl rfl (opS_move (av := .vw _ _ _ _) rfl) ?_)
                refine AR.guard rfl rfl rfl rfl rfl (fun _ => ?_) (fun hx => bool_no g18 hx) (fun h => by cases h)
                first | (refine AO.ops rfl rfl (opS_move (av := slE _ _ _) rfl) ?_) | (refine AO.ops rfl rfl (opS_move (av := .v _) rfl) ?_) | (refine AO.ops rfl rfl (opS_move (av := .vw _ _ _ _) rfl) ?_)
                refine AR.guard rfl rfl rfl rfl rfl (fun _ => ?_) (fun hx => bool_no g18 hx) (fun h => by cases h)
                first | (refine AO.ops rfl rfl (opS_len_sl Try.underlying22 rfl) ?_) | (refine AO.ops rfl rfl (opS_len_nil Try.underlying22 rfl) ?_)
                refine AR.guard rfl rfl rfl rfl rfl (fun _ => ?_) (fun hx => bool_no g18 hx) (fun h => by cases h)
                refine AO.ops rfl rfl (opS_sub rfl rfl ?h37) ?_
                (case h37 => (omega))
                refine AR.guard rfl rfl rfl rfl rfl (fun _ => ?_) (fun hx => bool_no g18 hx) (fun h => by cases h)
                refine AO.ops rfl rfl (opS_indexAddr_lt (m := x.length - 1) Try.underlying22 (by kernel_rfl) rfl rfl ?h38 ?h39) ?_
                (case h38 => (omega))
                (case h39 => (omega))
                refine AR.guard rfl rfl rfl rfl rfl (fun _ => ?_) (fun hx => bool_no g18 hx) (fun h => by cases h)
                first | refine AO.ops rfl rfl (opS_load_cp Try.underlying5 rfl rfl) ?_ | refine AO.op rfl rfl (opR_load_pt (i := 0) Try.underlying5 rfl rfl rfl rfl) ?_ | refine AO.op rfl rfl (opR_load_pt (i := 1) Try.underlying5 rfl rfl rfl rfl) ?_ | refine AO.op rfl rfl (opR_load_pt (i := 2) Try.underlying5 rfl rfl rfl rfl) ?_ | refine AO.op rfl rfl (opR_load_pt (i := 3) Try.underlying5 rfl rfl rfl rfl) ?_
                refine AR.guard rfl rfl rfl rfl rfl (fun _ => ?_) (fun hx => bool_no g18 hx) (fun h => by cases h)
                refine AO.ops rfl rfl (opS_nei rfl rfl) ?_
                refine AR.guard rfl rfl rfl rfl rfl (fun _ => ?_) (fun hx => bool_no hx g17) (fun h => by cases h)
                refine AO.ops rfl rfl (opS_pick_t (av := .v _) rfl g18 rfl) ?_
                refine AR.run rfl rfl ?_
                refine AO.ops rfl rfl (opS_pick_f (av := .v _) rfl g17 rfl) ?_
                refine AR.run rfl rfl ?_
                refine AO.ops rfl rfl (opS_assign (av := .v _) rfl) ?_
                refine AR.nil ?_
                show AW _ _ _ _ _ _
                refine AW.ret ?_
                -- END 22 (ret)
                show RetPost _ _ _ _ .ret _
                (refine ⟨rfl, _, _, (ResV.one (av := .v _) rfl rfl), ?sub, Ret.mk ?_⟩)
                case sub => first | exact Sub.refl _ | exact Sub.nil _
                first | exact absurd (by assumption : false = true) (by decide) | rfl | (exfalso; have hG0 := hG (by omega); omega) | (refine B_congr ?_; (try have hG0 := hG (by omega)); simp; try omega)
              ·
                cases hd; refine ⟨rfl, ?_⟩
                have g18p := g18; try simp only [decide_eq_true_eq, decide_eq_false_iff_not, Bool.not_eq_true', Bool.not_eq_false', Bool.not_true, Bool.not_false, Bool.not_eq_eq_eq_not] at g18p
                refine AR.guard rfl rfl rfl rfl rfl (fun hx => bool_no hx g18) (fun _ d hd => ?_) (fun h => by cases h)
                cases hd; refine ⟨rfl, ?_⟩
                refine AR.guard rfl rfl rfl rfl rfl (fun hx => bool_no hx g18) (fun _ d hd => ?_) (fun h => by cases h)
                cases hd; refine ⟨rfl, ?_⟩
                refine AR.guard rfl rfl rfl rfl rfl (fun hx => bool_no hx g18) (fun _ d hd => ?_) (fun h => by cases h)
                cases hd; refine ⟨rfl, ?_⟩
                refine AR.guard rfl rfl rfl rfl rfl (fun hx => bool_no hx g18) (fun _ d hd => ?_) (fun h => by cases h)
                cases hd; refine ⟨rfl, ?_⟩
                refine AR.guard rfl rfl rfl rfl rfl (fun hx => bool_no hx g18) (fun _ d hd => ?_) (fun h => by cases h)
                cases hd; refine ⟨rfl, ?_⟩
                refine AR.guard rfl rfl rfl rfl rfl (fun hx => bool_no hx g18) (fun _ d hd => ?_) (fun h => by cases h)
                cases hd; refine ⟨rfl, ?_⟩
                refine AR.guard rfl rfl rfl rfl rfl (fun _ => ?_) (fun hx => bool_no hx g17) (fun h => by cases h)
                refine AO.ops rfl rfl (opS_pick_f (av := .v _) rfl g18 rfl) ?_
                refine AR.run rfl rfl ?_
                refine AO.ops rfl rfl (opS_pick_f (av := .v _) rfl g17 rfl) ?_
                refine AR.run rfl rfl ?_
                refine AO.ops rfl rfl (opS_assign (av := .v _) rfl) ?_
                refine AR.nil ?_
                show AW _ _ _ _ _ _
                refine AW.ret ?_
                -- END 23 (ret)
                show RetPost _ _ _ _ .ret _
                (refine ⟨rfl, _, _, (ResV.one (av := .v _) rfl rfl), ?sub, Ret.mk ?_⟩)
                case sub => first | exact Sub.refl _ | exact Sub.nil _
                first | exact absurd (by assumption : false = true) (by decide) | rfl | (exfalso; have hG0 := hG (by omega); omega) | (refine B_congr ?_; (try have hG0 := hG (by omega)); simp; try omega)
            ·
              cases hd; refine ⟨rfl, ?_⟩
              have g17p := g17; try simp only [decide_eq_true_eq, decide_eq_false_iff_not, Bool.not_eq_true', Bool.not_eq_false', Bool.not_true, Bool.not_false, Bool.not_eq_eq_eq_not] at g17p
              refine AR.guard rfl rfl rfl rfl rfl (fun hx => bool_no g17 hx) (fun _ d hd => ?_) (fun h => by cases h)
              cases hd; refine ⟨rfl, ?_⟩
              refine AR.guard rfl rfl rfl rfl rfl (fun hx => bool_no g17 hx) (fun _ d hd => ?_) (fun h => by cases h)
              cases hd; refine ⟨rfl, ?_⟩
              refine AR.guard rfl rfl rfl rfl rfl (fun hx => bool_no g17 hx) (fun _ d hd => ?_) (fun h => by cases h)
              cases hd; refine ⟨rfl, ?_⟩
              refine AR.guard rfl rfl rfl rfl rfl (fun hx => bool_no g17 hx) (fun _ d hd => ?_) (fun h => by cases h)
              cases hd; refine ⟨rfl, ?_⟩
              refine AR.guard rfl rfl rfl rfl rfl (fun hx => bool_no g17 hx) (fun _ d hd => ?_) (fun h => by cases h)
              cases hd; refine ⟨rfl, ?_⟩
              refine AR.guard rfl rfl rfl rfl rfl (fun hx => bool_no g17 hx) (fun _ d hd => ?_) (fun h => by cases h)
              cases hd; refine ⟨rfl, ?_⟩
              refine AR.guard rfl rfl rfl rfl rfl (fun hx => bool_no g17 hx) (fun _ d hd => ?_) (fun h => by cases h)
              cases hd; refine ⟨rfl, ?_⟩
              refine AR.guard_u rfl rfl rfl rfl rfl (fun d hd => ?_) (fun h => by cases h)
              cases hd; refine ⟨rfl, ?_⟩
              refine AR.guard_u rfl rfl rfl rfl rfl (fun d hd => ?_) (fun h => by cases h)
              cases hd; refine ⟨rfl, ?_⟩
              refine AR.guard_u rfl rfl rfl rfl rfl (fun d hd => ?_) (fun h => by cases h)
              cases hd; refine ⟨rfl, ?_⟩
              refine AR.guard_u rfl rfl rfl rfl rfl (fun d hd => ?_) (fun h => by cases h)
              cases hd; refine ⟨rfl, ?_⟩
              refine AR.guard_u rfl rfl rfl rfl rfl (fun d hd => ?_) (fun h => by cases h)
              cases hd; refine ⟨rfl, ?_⟩
              refine AR.guard_u rfl rfl rfl rfl rfl (fun d hd => ?_) (fun h => by cases h)
              cases hd; refine ⟨rfl, ?_⟩
              refine AR.guard_u rfl rfl rfl rfl rfl (fun d hd => ?_) (fun h => by cases h)
              cases hd; refine ⟨rfl, ?_⟩
              refine AR.guard rfl rfl rfl rfl rfl (fun hx => bool_no g17 hx) (fun _ d hd => ?_) (fun h => by cases h)
              cases hd; refine ⟨rfl, ?_⟩
              refine AR.run rfl rfl ?_
              refine AO.ops rfl rfl (opS_pick_t (av := .v _) rfl g17 rfl) ?_
              refine AR.run rfl rfl ?_
              refine AO.ops rfl rfl (opS_assign (av := .v _) rfl) ?_
              refine AR.nil ?_
              show AW _ _ _ _ _ _
              refine AW.ret ?_
              -- END 24 (ret)
              show RetPost _ _ _ _ .ret _
              (refine ⟨rfl, _, _, (ResV.one (av := .v _) rfl rfl), ?sub, Ret.mk ?_⟩)
              case sub => first | exact Sub.refl _ | exact Sub.nil _
              first | exact absurd (by assumption : false = true) (by decide) | rfl | (exfalso; have hG0 := hG (by omega); omega) | (refine B_congr ?_; (try have hG0 := hG (by omega)); simp; try omega)

/-! mailcoachlaw12.QpTells -/
set_option maxRecDepth 100000 in
set_option maxHeartbeats 1000000 in
theorem law_Tells (b : List UInt8) (tb : Option Nat) :
    ACalls Try.prog 3 [slE Enc.byte b tb] [] (Ret (B true) []) := by
  have hel := Qp.enc_length b 0
  refine ACalls.of_body Try.func3 rfl rfl ?_
  show AW _ _ 46 _ _ _
  refine AW.seq ?_
  refine AW.region ?_
  show AR _ _ _ _ _ [0] _
  refine AR.run rfl rfl ?_
  refine AO.ops rfl rfl (opS_assign (av := .v _) rfl) ?_
  refine AR.nil ?_
  show AW _ _ _ _ _ _
  refine AW.seq ?_
  refine AW.region ?_
  show AR _ _ _ _ _ [0, 1] _
  refine AR.run rfl rfl ?_
  refine AO.callp rfl en9 rfl law_awake ?_
  refine AR.run rfl rfl ?_
  refine AO.ops rfl rfl (opS_assign (av := .v _) rfl) ?_
  refine AR.nil ?_
  show AW _ _ _ _ _ _
  refine AW.seq ?_
  refine AW.cut (X := Unit) (fun _ => ⟨[(0, slE Enc.byte b tb), (3, B true), (15, B (decide (1000 < b.length)))], [], []⟩) (fun _ => True) ?_ ?_
  ·
    refine AW.region ?_
    show AR _ _ _ _ _ [0, 1, 2, 3, 4, 5, 6] _
    refine AR.run rfl rfl ?_
    refine AO.ops rfl rfl (opS_move (av := .v _) rfl) ?_
    refine AR.run rfl rfl ?_
    refine AO.ops rfl rfl (opS_not rfl) ?_
    refine AR.run rfl rfl ?_
    refine AO.ops rfl rfl (opS_move (av := .v _) rfl) ?_
    refine AR.guard rfl rfl rfl rfl rfl (fun g1 => ?_) (fun g1 d hd => ?_) (fun h => by cases h)
    ·
      have g1p := g1; try simp only [decide_eq_true_eq, decide_eq_false_iff_not, Bool.not_eq_true', Bool.not_eq_false', Bool.not_true, Bool.not_false, Bool.not_eq_eq_eq_not] at g1p
      first | (refine AO.ops rfl rfl (opS_move (av := slE _ _ _) rfl) ?_) | (refine AO.ops rfl rfl (opS_move (av := .v _) rfl) ?_) | (refine AO.ops rfl rfl (opS_move (av := .vw _ _ _ _) rfl) ?_)
      refine AR.guard rfl rfl rfl rfl rfl (fun _ => ?_) (fun hx => bool_no hx g1) (fun h => by cases h)
      first | (refine AO.ops rfl rfl (opS_len_sl Try.underlying22 rfl) ?_) | (refine AO.ops rfl rfl (opS_len_nil Try.underlying22 rfl) ?_)
      refine AR.guard rfl rfl rfl rfl rfl (fun _ => ?_) (fun hx => bool_no hx g1) (fun h => by cases h)
      refine AO.ops rfl rfl (opS_gt rfl rfl) ?_
      refine AR.run rfl rfl ?_
      refine AO.ops rfl rfl (opS_pick_f (av := .v _) rfl g1 rfl) ?_
      refine AR.nil ?_
      -- END 1 (cut2)
      refine ⟨(), ?_, ?_⟩
      · trivial
      · refine WK.env (Env.le.cons ?_ (Env.le.cons ?_ (Env.le.cons ?_ (Env.le.nil _)))) ?_
        all_goals first | exact Sub.refl _ | exact Sub.nil _ | ((repeat (first | exact Sub.refl _ | exact Sub.nil _ | refine Sub.cons _ ?_ | refine Sub.skip _ ?_)); done) | exact Wv.refl _ | exact Wv.any _ | exact Wv.tok _ _ _ | exact Wv.nil _ | (refine Wv.of_eq ?_; first | rfl | exact i64_congr (by omega) | (first | (exact absurd g1 (by decide)) | (refine B_congr ?_; rw [Bool.eq_iff_iff]; simp; try omega)))
    ·
      cases hd; refine ⟨rfl, ?_⟩
      have g1p := g1; try simp only [decide_eq_true_eq, decide_eq_false_iff_not, Bool.not_eq_true', Bool.not_eq_false', Bool.not_true, Bool.not_false, Bool.not_eq_eq_eq_not] at g1p
      refine AR.guard rfl rfl rfl rfl rfl (fun hx => bool_no g1 hx) (fun _ d hd => ?_) (fun h => by cases h)
      cases hd; refine ⟨rfl, ?_⟩
      refine AR.guard rfl rfl rfl rfl rfl (fun hx => bool_no g1 hx) (fun _ d hd => ?_) (fun h => by cases h)
      cases hd; refine ⟨rfl, ?_⟩
      refine AR.run rfl rfl ?_
      refine AO.ops rfl rfl (opS_pick_t (av := .v _) rfl g1 rfl) ?_
      refine AR.nil ?_
      -- END 2 (cut2)
      refine ⟨(), ?_, ?_⟩
      · trivial
      · refine WK.env (Env.le.cons ?_ (Env.le.cons ?_ (Env.le.cons ?_ (Env.le.nil _)))) ?_
        all_goals first | exact Sub.refl _ | exact Sub.nil _ | ((repeat (first | exact Sub.refl _ | exact Sub.nil _ | refine Sub.cons _ ?_ | refine Sub.skip _ ?_)); done) | exact Wv.refl _ | exact Wv.any _ | exact Wv.tok _ _ _ | exact Wv.nil _ | (refine Wv.of_eq ?_; first | rfl | exact i64_congr (by omega) | (first | (exact absurd g1 (by decide)) | (refine B_congr ?_; rw [Bool.eq_iff_iff]; simp; try omega)))
  · rintro _ _
    show AW _ _ _ _ _ _
    refine AW.cond rfl (fun c2 => ?_) (fun c2 => ?_)
    ·
      have c2p := c2; try simp only [decide_eq_true_eq, decide_eq_false_iff_not, Bool.not_eq_true', Bool.not_eq_false', Bool.not_true, Bool.not_false, Bool.not_eq_eq_eq_not] at c2p
      refine AW.seq ?_
      refine AW.region ?_
      show AR _ _ _ _ _ [0, 1] _
      refine AR.run rfl rfl ?_
      refine AO.ops rfl rfl (opS_move (av := .v _) rfl) ?_
      refine AR.run rfl rfl ?_
      refine AO.ops rfl rfl (opS_assign (av := .v _) rfl) ?_
      refine AR.nil ?_
      show AW _ _ _ _ _ _
      refine AW.ret ?_
      -- END 3 (ret)
      show RetPost _ _ _ _ .ret _
      (refine ⟨rfl, _, _, (ResV.one (av := .v _) rfl rfl), ?sub, Ret.mk ?_⟩)
      case sub => first | exact Sub.refl _ | exact Sub.nil _
      first | rfl | (refine B_congr ?_; simp_all)
    ·
      have c2p := c2; try simp only [decide_eq_true_eq, decide_eq_false_iff_not, Bool.not_eq_true', Bool.not_eq_false', Bool.not_true, Bool.not_false, Bool.not_eq_eq_eq_not] at c2p
      refine AW.skip ?_
      show AW _ _ _ _ _ _
      refine AW.seq ?_
      refine AW.region ?_
      show AR _ _ _ _ _ [0, 1, 2, 3, 4, 5, 6] _
      refine AR.run rfl rfl ?_
      first | (refine AO.ops rfl rfl (opS_move (av := slE _ _ _) rfl) ?_) | (refine AO.ops rfl rfl (opS_move (av := .v _) rfl) ?_) | (refine AO.ops rfl rfl (opS_move (av := .vw _ _ _ _) rfl) ?_)
      refine AR.run rfl rfl ?_
      refine AO.callp rfl en10 rfl (qp_Decode _ _ (by first | omega | (simp; omega))) ?_
      refine AR.run rfl rfl ?_
      refine AO.ops rfl rfl (opS_move (av := .tup _) rfl) ?_
      refine AR.run rfl rfl ?_
      first | (refine AO.ops rfl rfl (opS_extract (av := slE _ _ _) rfl rfl) ?_) | (refine AO.ops rfl rfl (opS_extract (av := .v _) rfl rfl) ?_) | (refine AO.ops rfl rfl (opS_extract (av := .vw _ _ _ _) rfl rfl) ?_)
      refine AR.run rfl rfl ?_
      refine AO.ops rfl rfl (opS_extract (av := .v _) rfl rfl) ?_
      refine AR.run rfl rfl ?_
      first | (refine AO.ops rfl rfl (opS_assign (av := slE _ _ _) rfl) ?_) | (refine AO.ops rfl rfl (opS_assign (av := .v _) rfl) ?_) | (refine AO.ops rfl rfl (opS_assign (av := .vw _ _ _ _) rfl) ?_)
      refine AR.run rfl rfl ?_
      refine AO.ops rfl rfl (opS_assign (av := .v _) rfl) ?_
      refine AR.nil ?_
      show AW _ _ _ _ _ _
      refine AW.seq ?_
      refine AW.region ?_
      show AR _ _ _ _ _ [0, 1, 2, 3, 4, 5, 6] _
      refine AR.run rfl rfl ?_
      first | (refine AO.ops rfl rfl (opS_move (av := slE _ _ _) rfl) ?_) | (refine AO.ops rfl rfl (opS_move (av := .v _) rfl) ?_) | (refine AO.ops rfl rfl (opS_move (av := .vw _ _ _ _) rfl) ?_)
      refine AR.run rfl rfl ?_
      refine AO.callp rfl en11 rfl (ref_Decode _ _ (by omega)) ?_
      refine AR.run rfl rfl ?_
      refine AO.ops rfl rfl (opS_move (av := .tup _) rfl) ?_
      refine AR.run rfl rfl ?_
      first | (refine AO.ops rfl rfl (opS_extract (av := slE _ _ _) rfl rfl) ?_) | (refine AO.ops rfl rfl (opS_extract (av := .v _) rfl rfl) ?_) | (refine AO.ops rfl rfl (opS_extract (av := .vw _ _ _ _) rfl rfl) ?_)
      refine AR.run rfl rfl ?_
      refine AO.ops rfl rfl (opS_extract (av := .v _) rfl rfl) ?_
      refine AR.run rfl rfl ?_
      first | (refine AO.ops rfl rfl (opS_assign (av := slE _ _ _) rfl) ?_) | (refine AO.ops rfl rfl (opS_assign (av := .v _) rfl) ?_) | (refine AO.ops rfl rfl (opS_assign (av := .vw _ _ _ _) rfl) ?_)
      refine AR.run rfl rfl ?_
      refine AO.ops rfl rfl (opS_assign (av := .v _) rfl) ?_
      refine AR.nil ?_
      show AW _ _ _ _ _ _
      refine AW.seq ?_
      refine AW.region_draw (by kernel_rfl) ?_
      show AI _ _ _ _ 20 (Array.replicate 20 false) _
      first | (refine AI.take (i := 0) rfl rfl (by kernel_rfl) (by kernel_rfl) (by kernel_rfl) (fun _ _ h => by obtain ⟨_, _, _, h, _⟩ := h; cases h) (opS_move (av := slE _ _ _) rfl) ?_) | (refine AI.take (i := 0) rfl rfl (by kernel_rfl) (by kernel_rfl) (by kernel_rfl) (fun _ _ h => by obtain ⟨_, _, _, h, _⟩ := h; cases h) (opS_move (av := .v _) rfl) ?_) | (refine AI.take (i := 0) rfl rfl (by kernel_rfl) (by kernel_rfl) (by kernel_rfl) (fun _ _ h => by obtain ⟨_, _, _, h, _⟩ := h; cases h) (opS_move (av := .vw _ _ _ _) rfl) ?_)
      show AI _ _ _ _ _ #[true, false, false, false, false, false, false, false, false, false, false, false, false, false, false, false, false, false, false, false] _
      first | (refine AI.take (i := 3) rfl rfl (by kernel_rfl) (by kernel_rfl) (by kernel_rfl) (fun _ _ h => by obtain ⟨_, _, _, h, _⟩ := h; cases h) (opS_move (av := slE _ _ _) rfl) ?_) | (refine AI.take (i := 3) rfl rfl (by kernel_rfl) (by kernel_rfl) (by kernel_rfl) (fun _ _ h => by obtain ⟨_, _, _, h, _⟩ := h; cases h) (opS_move (av := .v _) rfl) ?_) | (refine AI.take (i := 3) rfl rfl (by kernel_rfl) (by kernel_rfl) (by kernel_rfl) (fun _ _ h => by obtain ⟨_, _, _, h, _⟩ := h; cases h) (opS_move (av := .vw _ _ _ _) rfl) ?_)
      show AI _ _ _ _ _ #[true, false, false, true, false, false, false, false, false, false, false, false, false, false, false, false, false, false, false, false] _
      refine AI.one (i := 1) (by kernel_rfl) rfl rfl ?_
      refine AIO.callp rfl en12 rfl (qp_Encode _ _ (by first | omega | (simp; omega))) ?_
      show AI _ _ _ _ _ #[true, true, false, true, false, false, false, false, false, false, false, false, false, false, false, false, false, false, false, false] _
      refine AI.take (i := 2) rfl rfl (by kernel_rfl) (by kernel_rfl) (by kernel_rfl) (fun _ _ h => by obtain ⟨_, _, _, h, _⟩ := h; cases h) (opS_conv_bytes_str Try.underlying22 Try.underlying5 Try.underlying9 rfl) ?_
      show AI _ _ _ _ _ #[true, true, true, true, false, false, false, false, false, false, false, false, false, false, false, false, false, false, false, false] _
      refine AI.one (i := 4) (by kernel_rfl) rfl rfl ?_
      refine AIO.callp rfl en13 rfl (ref_Encode _ _ (by omega)) ?_
      show AI _ _ _ _ _ #[true, true, true, true, true, false, false, false, false, false, false, false, false, false, false, false, false, false, false, false] _
      refine AI.take (i := 5) rfl rfl (by kernel_rfl) (by kernel_rfl) (by kernel_rfl) (fun _ _ h => by obtain ⟨_, _, _, h, _⟩ := h; cases h) (opS_conv_bytes_str Try.underlying22 Try.underlying5 Try.underlying9 rfl) ?_
      show AI _ _ _ _ _ #[true, true, true, true, true, true, false, false, false, false, false, false, false, false, false, false, false, false, false, false] _
      refine AI.take (i := 6) rfl rfl (by kernel_rfl) (by kernel_rfl) (by kernel_rfl) (fun _ _ h => by obtain ⟨_, _, _, h, _⟩ := h; cases h) (opS_eqs rfl rfl) ?_
      show AI _ _ _ _ _ #[true, true, true, true, true, true, true, false, false, false, false, false, false, false, false, false, false, false, false, false] _
      refine AI.take (i := 7) rfl rfl (by kernel_rfl) (by kernel_rfl) (by kernel_rfl) (fun _ _ h => by obtain ⟨_, _, _, h, _⟩ := h; cases h) (opS_move (av := .v _) rfl) ?_
      show AI _ _ _ _ _ #[true, true, true, true, true, true, true, true, false, false, false, false, false, false, false, false, false, false, false, false] _
      refine AI.gsplit (t := 34) rfl (fun g3 => ?_) (fun g3 => ?_)
      ·
        have g3p := g3; try simp only [decide_eq_true_eq, decide_eq_false_iff_not, Bool.not_eq_true', Bool.not_eq_false', Bool.not_true, Bool.not_false, Bool.not_eq_eq_eq_not] at g3p
        first | (refine AI.gtake (i := 8) rfl rfl (by kernel_rfl) (by kernel_rfl) (by kernel_rfl) rfl rfl rfl (fun _ _ h => by obtain ⟨_, _, _, h, _⟩ := h; cases h) g3 (opS_move (av := slE _ _ _) rfl) ?_) | (refine AI.gtake (i := 8) rfl rfl (by kernel_rfl) (by kernel_rfl) (by kernel_rfl) rfl rfl rfl (fun _ _ h => by obtain ⟨_, _, _, h, _⟩ := h; cases h) g3 (opS_move (av := .v _) rfl) ?_) | (refine AI.gtake (i := 8) rfl rfl (by kernel_rfl) (by kernel_rfl) (by kernel_rfl) rfl rfl rfl (fun _ _ h => by obtain ⟨_, _, _, h, _⟩ := h; cases h) g3 (opS_move (av := .vw _ _ _ _) rfl) ?_)
        show AI _ _ _ _ _ #[true, true, true, true, true, true, true, true, true, false, false, false, false, false, false, false, false, false, false, false] _
        refine AI.gtake (i := 9) rfl rfl (by kernel_rfl) (by kernel_rfl) (by kernel_rfl) rfl rfl rfl (fun _ _ h => by obtain ⟨_, _, _, h, _⟩ := h; cases h) g3 (opS_conv_bytes_str Try.underlying22 Try.underlying5 Try.underlying9 rfl) ?_
        show AI _ _ _ _ _ #[true, true, true, true, true, true, true, true, true, true, false, false, false, false, false, false, false, false, false, false] _
        first | (refine AI.gtake (i := 10) rfl rfl (by kernel_rfl) (by kernel_rfl) (by kernel_rfl) rfl rfl rfl (fun _ _ h => by obtain ⟨_, _, _, h, _⟩ := h; cases h) g3 (opS_move (av := slE _ _ _) rfl) ?_) | (refine AI.gtake (i := 10) rfl rfl (by kernel_rfl) (by kernel_rfl) (by kernel_rfl) rfl rfl rfl (fun _ _ h => by obtain ⟨_, _, _, h, _⟩ := h; cases h) g3 (opS_move (av := .v _) rfl) ?_) | (refine AI.gtake (i := 10) rfl rfl (by kernel_rfl) (by kernel_rfl) (by kernel_rfl) rfl rfl rfl (fun _ _ h => by obtain ⟨_, _, _, h, _⟩ := h; cases h) g3 (opS_move (av := .vw _ _ _ _) rfl) ?_)
        show AI _ _ _ _ _ #[true, true, true, true, true, true, true, true, true, true, true, false, false, false, false, false, false, false, false, false] _
        refine AI.gtake (i := 11) rfl rfl (by kernel_rfl) (by kernel_rfl) (by kernel_rfl) rfl rfl rfl (fun _ _ h => by obtain ⟨_, _, _, h, _⟩ := h; cases h) g3 (opS_conv_bytes_str Try.underlying22 Try.underlying5 Try.underlying9 rfl) ?_
        show AI _ _ _ _ _ #[true, true, true, true, true, true, true, true, true, true, true, true, false, false, false, false, false, false, false, false] _
        refine AI.gtake (i := 12) rfl rfl (by kernel_rfl) (by kernel_rfl) (by kernel_rfl) rfl rfl rfl (fun _ _ h => by obtain ⟨_, _, _, h, _⟩ := h; cases h) g3 (opS_eqs rfl rfl) ?_
        show AI _ _ _ _ _ #[true, true, true, true, true, true, true, true, true, true, true, true, true, false, false, false, false, false, false, false] _
        refine AI.take (i := 13) rfl rfl (by kernel_rfl) (by kernel_rfl) (by kernel_rfl) (fun _ _ h => by obtain ⟨_, _, _, h, _⟩ := h; cases h) (opS_pick_t (av := .v _) rfl g3 rfl) ?_
        show AI _ _ _ _ _ #[true, true, true, true, true, true, true, true, true, true, true, true, true, true, false, false, false, false, false, false] _
        refine AI.take (i := 14) rfl rfl (by kernel_rfl) (by kernel_rfl) (by kernel_rfl) (fun _ _ h => by obtain ⟨_, _, _, h, _⟩ := h; cases h) (opS_move (av := .v _) rfl) ?_
        show AI _ _ _ _ _ #[true, true, true, true, true, true, true, true, true, true, true, true, true, true, true, false, false, false, false, false] _
        refine AI.gsplit (t := 41) rfl (fun g4 => ?_) (fun g4 => ?_)
        ·
          have g4p := g4; try simp only [decide_eq_true_eq, decide_eq_false_iff_not, Bool.not_eq_true', Bool.not_eq_false', Bool.not_true, Bool.not_false, Bool.not_eq_eq_eq_not] at g4p
          refine AI.gtake (i := 15) rfl rfl (by kernel_rfl) (by kernel_rfl) (by kernel_rfl) rfl rfl rfl (fun _ _ h => by obtain ⟨_, _, _, h, _⟩ := h; cases h) g4 (opS_move (av := .v _) rfl) ?_
          show AI _ _ _ _ _ #[true, true, true, true, true, true, true, true, true, true, true, true, true, true, true, true, false, false, false, false] _
          refine AI.gtake (i := 16) rfl rfl (by kernel_rfl) (by kernel_rfl) (by kernel_rfl) rfl rfl rfl (fun _ _ h => by obtain ⟨_, _, _, h, _⟩ := h; cases h) g4 (opS_move (av := .v _) rfl) ?_
          show AI _ _ _ _ _ #[true, true, true, true, true, true, true, true, true, true, true, true, true, true, true, true, true, false, false, false] _
          refine AI.gtake (i := 17) rfl rfl (by kernel_rfl) (by kernel_rfl) (by kernel_rfl) rfl rfl rfl (fun _ _ h => by obtain ⟨_, _, _, h, _⟩ := h; cases h) g4 (opS_eqi rfl rfl) ?_
          show AI _ _ _ _ _ #[true, true, true, true, true, true, true, true, true, true, true, true, true, true, true, true, true, true, false, false] _
          refine AI.take (i := 18) rfl rfl (by kernel_rfl) (by kernel_rfl) (by kernel_rfl) (fun _ _ h => by obtain ⟨_, _, _, h, _⟩ := h; cases h) (opS_pick_t (av := .v _) rfl g4 rfl) ?_
          show AI _ _ _ _ _ #[true, true, true, true, true, true, true, true, true, true, true, true, true, true, true, true, true, true, true, false] _
          refine AI.take (i := 19) rfl rfl (by kernel_rfl) (by kernel_rfl) (by kernel_rfl) (fun _ _ h => by obtain ⟨_, _, _, h, _⟩ := h; cases h) (opS_assign (av := .v _) rfl) ?_
          show AI _ _ _ _ _ #[true, true, true, true, true, true, true, true, true, true, true, true, true, true, true, true, true, true, true, true] _
          refine AI.done rfl ?_
          show AW _ _ _ _ _ _
          refine AW.ret ?_
          -- END 4 (ret)
          show RetPost _ _ _ _ .ret _
          (refine ⟨rfl, _, _, (ResV.one (av := .v _) rfl rfl), ?sub, Ret.mk ?_⟩)
          case sub => first | exact Sub.refl _ | exact Sub.nil _
          first | rfl | (refine B_congr ?_; simp_all)
        ·
          have g4p := g4; try simp only [decide_eq_true_eq, decide_eq_false_iff_not, Bool.not_eq_true', Bool.not_eq_false', Bool.not_true, Bool.not_false, Bool.not_eq_eq_eq_not] at g4p
          refine AI.gskip (i := 15) rfl rfl (by kernel_rfl) (by kernel_rfl) (by kernel_rfl) rfl rfl rfl (fun _ _ h => by obtain ⟨_, _, _, h, _⟩ := h; cases h) g4 ?_
          show AI _ _ _ _ _ #[true, true, true, true, true, true, true, true, true, true, true, true, true, true, true, true, false, false, false, false] _
          refine AI.gskip (i := 16) rfl rfl (by kernel_rfl) (by kernel_rfl) (by kernel_rfl) rfl rfl rfl (fun _ _ h => by obtain ⟨_, _, _, h, _⟩ := h; cases h) g4 ?_
          show AI _ _ _ _ _ #[true, true, true, true, true, true, true, true, true, true, true, true, true, true, true, true, true, false, false, false] _
          refine AI.gskip (i := 17) rfl rfl (by kernel_rfl) (by kernel_rfl) (by kernel_rfl) rfl rfl rfl (fun _ _ h => by obtain ⟨_, _, _, h, _⟩ := h; cases h) g4 ?_
          show AI _ _ _ _ _ #[true, true, true, true, true, true, true, true, true, true, true, true, true, true, true, true, true, true, false, false] _
          refine AI.take (i := 18) rfl rfl (by kernel_rfl) (by kernel_rfl) (by kernel_rfl) (fun _ _ h => by obtain ⟨_, _, _, h, _⟩ := h; cases h) (opS_pick_f (av := .v _) rfl g4 rfl) ?_
          show AI _ _ _ _ _ #[true, true, true, true, true, true, true, true, true, true, true, true, true, true, true, true, true, true, true, false] _
          refine AI.take (i := 19) rfl rfl (by kernel_rfl) (by kernel_rfl) (by kernel_rfl) (fun _ _ h => by obtain ⟨_, _, _, h, _⟩ := h; cases h) (opS_assign (av := .v _) rfl) ?_
          show AI _ _ _ _ _ #[true, true, true, true, true, true, true, true, true, true, true, true, true, true, true, true, true, true, true, true] _
          refine AI.done rfl ?_
          show AW _ _ _ _ _ _
          refine AW.ret ?_
          -- END 5 (ret)
          show RetPost _ _ _ _ .ret _
          (refine ⟨rfl, _, _, (ResV.one (av := .v _) rfl rfl), ?sub, Ret.mk ?_⟩)
          case sub => first | exact Sub.refl _ | exact Sub.nil _
          first | rfl | (refine B_congr ?_; simp_all)
      ·
        have g3p := g3; try simp only [decide_eq_true_eq, decide_eq_false_iff_not, Bool.not_eq_true', Bool.not_eq_false', Bool.not_true, Bool.not_false, Bool.not_eq_eq_eq_not] at g3p
        refine AI.gskip (i := 8) rfl rfl (by kernel_rfl) (by kernel_rfl) (by kernel_rfl) rfl rfl rfl (fun _ _ h => by obtain ⟨_, _, _, h, _⟩ := h; cases h) g3 ?_
        show AI _ _ _ _ _ #[true, true, true, true, true, true, true, true, true, false, false, false, false, false, false, false, false, false, false, false] _
        refine AI.gskip (i := 9) rfl rfl (by kernel_rfl) (by kernel_rfl) (by kernel_rfl) rfl rfl rfl (fun _ _ h => by obtain ⟨_, _, _, h, _⟩ := h; cases h) g3 ?_
        show AI _ _ _ _ _ #[true, true, true, true, true, true, true, true, true, true, false, false, false, false, false, false, false, false, false, false] _
        refine AI.gskip (i := 10) rfl rfl (by kernel_rfl) (by kernel_rfl) (by kernel_rfl) rfl rfl rfl (fun _ _ h => by obtain ⟨_, _, _, h, _⟩ := h; cases h) g3 ?_
        show AI _ _ _ _ _ #[true, true, true, true, true, true, true, true, true, true, true, false, false, false, false, false, false, false, false, false] _
        refine AI.gskip (i := 11) rfl rfl (by kernel_rfl) (by kernel_rfl) (by kernel_rfl) rfl rfl rfl (fun _ _ h => by obtain ⟨_, _, _, h, _⟩ := h; cases h) g3 ?_
        show AI _ _ _ _ _ #[true, true, true, true, true, true, true, true, true, true, true, true, false, false, false, false, false, false, false, false] _
        refine AI.gskip (i := 12) rfl rfl (by kernel_rfl) (by kernel_rfl) (by kernel_rfl) rfl rfl rfl (fun _ _ h => by obtain ⟨_, _, _, h, _⟩ := h; cases h) g3 ?_
        show AI _ _ _ _ _ #[true, true, true, true, true, true, true, true, true, true, true, true, true, false, false, false, false, false, false, false] _
        refine AI.take (i := 13) rfl rfl (by kernel_rfl) (by kernel_rfl) (by kernel_rfl) (fun _ _ h => by obtain ⟨_, _, _, h, _⟩ := h; cases h) (opS_pick_f (av := .v _) rfl g3 rfl) ?_
        show AI _ _ _ _ _ #[true, true, true, true, true, true, true, true, true, true, true, true, true, true, false, false, false, false, false, false] _
        refine AI.take (i := 14) rfl rfl (by kernel_rfl) (by kernel_rfl) (by kernel_rfl) (fun _ _ h => by obtain ⟨_, _, _, h, _⟩ := h; cases h) (opS_move (av := .v _) rfl) ?_
        show AI _ _ _ _ _ #[true, true, true, true, true, true, true, true, true, true, true, true, true, true, true, false, false, false, false, false] _
        refine AI.gskip (i := 15) rfl rfl (by kernel_rfl) (by kernel_rfl) (by kernel_rfl) rfl rfl rfl (fun _ _ h => by obtain ⟨_, _, _, h, _⟩ := h; cases h) (rfl : false = false) ?_
        show AI _ _ _ _ _ #[true, true, true, true, true, true, true, true, true, true, true, true, true, true, true, true, false, false, false, false] _
        refine AI.gskip (i := 16) rfl rfl (by kernel_rfl) (by kernel_rfl) (by kernel_rfl) rfl rfl rfl (fun _ _ h => by obtain ⟨_, _, _, h, _⟩ := h; cases h) (rfl : false = false) ?_
        show AI _ _ _ _ _ #[true, true, true, true, true, true, true, true, true, true, true, true, true, true, true, true, true, false, false, false] _
        refine AI.gskip (i := 17) rfl rfl (by kernel_rfl) (by kernel_rfl) (by kernel_rfl) rfl rfl rfl (fun _ _ h => by obtain ⟨_, _, _, h, _⟩ := h; cases h) (rfl : false = false) ?_
        show AI _ _ _ _ _ #[true, true, true, true, true, true, true, true, true, true, true, true, true, true, true, true, true, true, false, false] _
        refine AI.take (i := 18) rfl rfl (by kernel_rfl) (by kernel_rfl) (by kernel_rfl) (fun _ _ h => by obtain ⟨_, _, _, h, _⟩ := h; cases h) (opS_pick_f (av := .v _) rfl (rfl : false = false) rfl) ?_
        show AI _ _ _ _ _ #[true, true, true, true, true, true, true, true, true, true, true, true, true, true, true, true, true, true, true, false] _
        refine AI.take (i := 19) rfl rfl (by kernel_rfl) (by kernel_rfl) (by kernel_rfl) (fun _ _ h => by obtain ⟨_, _, _, h, _⟩ := h; cases h) (opS_assign (av := .v _) rfl) ?_
        show AI _ _ _ _ _ #[true, true, true, true, true, true, true, true, true, true, true, true, true, true, true, true, true, true, true, true] _
        refine AI.done rfl ?_
        show AW _ _ _ _ _ _
        refine AW.ret ?_
        -- END 6 (ret)
        show RetPost _ _ _ _ .ret _
        (refine ⟨rfl, _, _, (ResV.one (av := .v _) rfl rfl), ?sub, Ret.mk ?_⟩)
        case sub => first | exact Sub.refl _ | exact Sub.nil _
        first | rfl | (refine B_congr ?_; simp_all)
end Go.Proofs.Ytgdelfhbelfefaa
