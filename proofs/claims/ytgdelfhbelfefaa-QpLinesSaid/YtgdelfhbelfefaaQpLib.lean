/-
  The library's functions that quoted text calls, by content.
-/
import Derived.Test.YtgdelfhbelfefaaAvMore
import Derived.Test.YtgdelfhbelfefaaRows
set_option linter.unusedVariables false
set_option linter.unusedSimpArgs false
namespace Go.Proofs.Ytgdelfhbelfefaa
open Go.RowKit Go.Av

theorem en21 : ∀ (args : Array Value) (w : World), (callFunc 21 args).run Try.prog w = .ok (.enter 21 args) w := fun _ _ => by kernel_rfl
theorem en14 : ∀ (args : Array Value) (w : World), (callFunc 14 args).run Try.prog w = .ok (.enter 14 args) w := fun _ _ => by kernel_rfl
theorem en23 : ∀ (args : Array Value) (w : World), (callFunc 23 args).run Try.prog w = .ok (.enter 23 args) w := fun _ _ => by kernel_rfl
theorem en22 : ∀ (args : Array Value) (w : World), (callFunc 22 args).run Try.prog w = .ok (.enter 22 args) w := fun _ _ => by kernel_rfl

/-! bytes.Equal -/
set_option maxRecDepth 100000 in
set_option maxHeartbeats 1000000 in
theorem bytes_Equal (l m : List UInt8) (t t' : Option Nat) :
    ACalls Try.prog 21 [slE Enc.byte l t, slE Enc.byte m t'] [] (Ret (B (decide (l = m))) []) := by
  refine ACalls.of_body Try.func21 rfl rfl ?_
  show AW _ _ 10 _ _ _
  refine AW.seq ?_
  refine AW.region ?_
  show AR _ _ _ _ _ [0] _
  refine AR.run rfl rfl ?_
  refine AO.ops rfl rfl (opS_assign (av := .v _) rfl) ?_
  refine AR.nil ?_
  show AW _ _ _ _ _ _
  refine AW.seq ?_
  refine AW.region ?_
  show AR _ _ _ _ _ [0, 1, 2, 3, 4, 5] _
  refine AR.run rfl rfl ?_
  first | (refine AO.ops rfl rfl (opS_move (av := slE _ _ _) rfl) ?_) | (refine AO.ops rfl rfl (opS_move (av := .v _) rfl) ?_) | (refine AO.ops rfl rfl (opS_move (av := .vw _ _ _ _) rfl) ?_)
  refine AR.run rfl rfl ?_
  refine AO.ops rfl rfl (opS_conv_bytes_str Try.underlying22 Try.underlying5 Try.underlying9 rfl) ?_
  refine AR.run rfl rfl ?_
  first | (refine AO.ops rfl rfl (opS_move (av := slE _ _ _) rfl) ?_) | (refine AO.ops rfl rfl (opS_move (av := .v _) rfl) ?_) | (refine AO.ops rfl rfl (opS_move (av := .vw _ _ _ _) rfl) ?_)
  refine AR.run rfl rfl ?_
  refine AO.ops rfl rfl (opS_conv_bytes_str Try.underlying22 Try.underlying5 Try.underlying9 rfl) ?_
  refine AR.run rfl rfl ?_
  refine AO.ops rfl rfl (opS_eqs rfl rfl) ?_
  refine AR.run rfl rfl ?_
  refine AO.ops rfl rfl (opS_assign (av := .v _) rfl) ?_
  refine AR.nil ?_
  show AW _ _ _ _ _ _
  refine AW.ret ?_
  -- END 1 (ret)
  show RetPost _ _ _ _ .ret _
  (refine ⟨rfl, _, _, ResV.oneW rfl ?_, ?_, ⟨rfl, rfl⟩⟩; all_goals first | exact Sub.refl _ | exact Sub.nil _ | ((repeat (first | exact Sub.refl _ | exact Sub.nil _ | refine Sub.cons _ ?_ | refine Sub.skip _ ?_)); done) | exact Wv.refl _ | exact Wv.tok _ _ _ | exact Wv.nil _)

/-! bytes.HasPrefix -/
set_option maxRecDepth 100000 in
set_option maxHeartbeats 1000000 in
theorem bytes_HasPrefix (l m : List UInt8) (t t' : Option Nat) :
    ACalls Try.prog 14 [slE Enc.byte l t, slE Enc.byte m t'] [] (Ret (B (decide (m.length ≤ l.length) && decide (l.take m.length = m))) []) := by
  refine ACalls.of_body Try.func14 rfl rfl ?_
  show AW _ _ 18 _ _ _
  refine AW.seq ?_
  refine AW.region ?_
  show AR _ _ _ _ _ [0] _
  refine AR.run rfl rfl ?_
  refine AO.ops rfl rfl (opS_assign (av := .v _) rfl) ?_
  refine AR.nil ?_
  show AW _ _ _ _ _ _
  refine AW.seq ?_
  refine AW.region ?_
  show AR _ _ _ _ _ [0, 1, 2, 3, 4, 5, 6, 7, 8, 9, 10, 11, 12, 13] _
  refine AR.run rfl rfl ?_
  first | (refine AO.ops rfl rfl (opS_move (av := slE _ _ _) rfl) ?_) | (refine AO.ops rfl rfl (opS_move (av := .v _) rfl) ?_) | (refine AO.ops rfl rfl (opS_move (av := .vw _ _ _ _) rfl) ?_)
  refine AR.run rfl rfl ?_
  first | (refine AO.ops rfl rfl (opS_len_sl Try.underlying22 rfl) ?_) | (refine AO.ops rfl rfl (opS_len_nil Try.underlying22 rfl) ?_)
  refine AR.run rfl rfl ?_
  first | (refine AO.ops rfl rfl (opS_move (av := slE _ _ _) rfl) ?_) | (refine AO.ops rfl rfl (opS_move (av := .v _) rfl) ?_) | (refine AO.ops rfl rfl (opS_move (av := .vw _ _ _ _) rfl) ?_)
  refine AR.run rfl rfl ?_
  first | (refine AO.ops rfl rfl (opS_len_sl Try.underlying22 rfl) ?_) | (refine AO.ops rfl rfl (opS_len_nil Try.underlying22 rfl) ?_)
  refine AR.run rfl rfl ?_
  refine AO.ops rfl rfl (opS_ge rfl rfl) ?_
  refine AR.run rfl rfl ?_
  refine AO.ops rfl rfl (opS_move (av := .v _) rfl) ?_
  refine AR.guard rfl rfl rfl rfl rfl (fun g1 => ?_) (fun g1 d hd => ?_) (fun h => by cases h)
  ·
    have g1p := g1; try simp only [decide_eq_true_eq, decide_eq_false_iff_not, Bool.not_eq_true', Bool.not_eq_false', Bool.not_true, Bool.not_false, Bool.not_eq_eq_eq_not] at g1p
    first | (refine AO.ops rfl rfl (opS_move (av := slE _ _ _) rfl) ?_) | (refine AO.ops rfl rfl (opS_move (av := .v _) rfl) ?_) | (refine AO.ops rfl rfl (opS_move (av := .vw _ _ _ _) rfl) ?_)
    refine AR.guard rfl rfl rfl rfl rfl (fun _ => ?_) (fun hx => bool_no g1 hx) (fun h => by cases h)
    first | (refine AO.ops rfl rfl (opS_move (av := slE _ _ _) rfl) ?_) | (refine AO.ops rfl rfl (opS_move (av := .v _) rfl) ?_) | (refine AO.ops rfl rfl (opS_move (av := .vw _ _ _ _) rfl) ?_)
    refine AR.guard rfl rfl rfl rfl rfl (fun _ => ?_) (fun hx => bool_no g1 hx) (fun h => by cases h)
    first | (refine AO.ops rfl rfl (opS_len_sl Try.underlying22 rfl) ?_) | (refine AO.ops rfl rfl (opS_len_nil Try.underlying22 rfl) ?_)
    refine AR.guard rfl rfl rfl rfl rfl (fun _ => ?_) (fun hx => bool_no g1 hx) (fun h => by cases h)
    refine AO.ops rfl rfl (opS_slice_sl_to Try.underlying22 (by kernel_rfl) rfl rfl rfl ?h2) ?_
    (case h2 => (first | omega | (simp; done) | (simp; omega)))
    refine AR.guard rfl rfl rfl rfl rfl (fun _ => ?_) (fun hx => bool_no g1 hx) (fun h => by cases h)
    first | (refine AO.ops rfl rfl (opS_move (av := slE _ _ _) rfl) ?_) | (refine AO.ops rfl rfl (opS_move (av := .v _) rfl) ?_) | (refine AO.ops rfl rfl (opS_move (av := .vw _ _ _ _) rfl) ?_)
    refine AR.guard rfl rfl rfl rfl rfl (fun _ => ?_) (fun hx => bool_no g1 hx) (fun h => by cases h)
    refine AO.callp rfl en21 rfl (bytes_Equal _ _ _ _) ?_
    refine AR.run rfl rfl ?_
    refine AO.ops rfl rfl (opS_pick_t (av := .v _) rfl g1 rfl) ?_
    refine AR.run rfl rfl ?_
    refine AO.ops rfl rfl (opS_assign (av := .v _) rfl) ?_
    refine AR.nil ?_
    show AW _ _ _ _ _ _
    refine AW.ret ?_
    -- END 1 (ret)
    show RetPost _ _ _ _ .ret _
    (refine ⟨rfl, _, _, (ResV.one (av := .v _) rfl rfl), ?sub, Ret.mk ?_⟩)
    case sub => first | exact Sub.refl _ | exact Sub.nil _
    have h : m.length ≤ l.length := by omega
    simp [h]
  ·
    cases hd; refine ⟨rfl, ?_⟩
    have g1p := g1; try simp only [decide_eq_true_eq, decide_eq_false_iff_not, Bool.not_eq_true', Bool.not_eq_false', Bool.not_true, Bool.not_false, Bool.not_eq_eq_eq_not] at g1p
    refine AR.guard rfl rfl rfl rfl rfl (fun hx => bool_no hx g1) (fun _ d hd => ?_) (fun h => by cases h)
    cases hd; refine ⟨rfl, ?_⟩
    refine AR.guard rfl rfl rfl rfl rfl (fun hx => bool_no hx g1) (fun _ d hd => ?_) (fun h => by cases h)
    cases hd; refine ⟨rfl, ?_⟩
    refine AR.guard rfl rfl rfl rfl rfl (fun hx => bool_no hx g1) (fun _ d hd => ?_) (fun h => by cases h)
    cases hd; refine ⟨rfl, ?_⟩
    refine AR.guard rfl rfl rfl rfl rfl (fun hx => bool_no hx g1) (fun _ d hd => ?_) (fun h => by cases h)
    cases hd; refine ⟨rfl, ?_⟩
    refine AR.guard rfl rfl rfl rfl rfl (fun hx => bool_no hx g1) (fun _ d hd => ?_) (fun h => by cases h)
    cases hd; refine ⟨rfl, ?_⟩
    refine AR.run rfl rfl ?_
    refine AO.ops rfl rfl (opS_pick_f (av := .v _) rfl g1 rfl) ?_
    refine AR.run rfl rfl ?_
    refine AO.ops rfl rfl (opS_assign (av := .v _) rfl) ?_
    refine AR.nil ?_
    show AW _ _ _ _ _ _
    refine AW.ret ?_
    -- END 2 (ret)
    show RetPost _ _ _ _ .ret _
    (refine ⟨rfl, _, _, (ResV.one (av := .v _) rfl rfl), ?sub, Ret.mk ?_⟩)
    case sub => first | exact Sub.refl _ | exact Sub.nil _
    have h : ¬ m.length ≤ l.length := by omega
    simp [h]

/-! internal/stringslite.IndexByte -/
set_option maxRecDepth 100000 in
set_option maxHeartbeats 1000000 in
theorem stringslite_IndexByte (s : List UInt8) (c : UInt8) :
    ACalls Try.prog 23 [S s, u8 c] [] (Ret (i64 (idx s c)) []) := by
  refine ACalls.of_body Try.func23 rfl rfl ?_
  show AW _ _ 8 _ _ _
  refine AW.seq ?_
  refine AW.region ?_
  show AR _ _ _ _ _ [0] _
  refine AR.run rfl rfl ?_
  refine AO.ops rfl rfl (opS_assign (av := .v _) rfl) ?_
  refine AR.nil ?_
  show AW _ _ _ _ _ _
  refine AW.seq ?_
  refine AW.region ?_
  show AR _ _ _ _ _ [0, 1, 2, 3] _
  refine AR.run rfl rfl ?_
  refine AO.ops rfl rfl (opS_move (av := .v _) rfl) ?_
  refine AR.run rfl rfl ?_
  refine AO.ops rfl rfl (opS_move (av := .v _) rfl) ?_
  refine AR.run rfl rfl ?_
  refine AO.ops rfl rfl (opS_indexByte Try.func24 ⟨by kernel_rfl, by kernel_rfl, by kernel_rfl, by kernel_rfl⟩ rfl rfl) ?_
  refine AR.run rfl rfl ?_
  refine AO.ops rfl rfl (opS_assign (av := .v _) rfl) ?_
  refine AR.nil ?_
  show AW _ _ _ _ _ _
  refine AW.ret ?_
  -- END 1 (ret)
  show RetPost _ _ _ _ .ret _
  (refine ⟨rfl, _, _, ResV.oneW rfl ?_, ?_, ⟨rfl, rfl⟩⟩; all_goals first | exact Sub.refl _ | exact Sub.nil _ | ((repeat (first | exact Sub.refl _ | exact Sub.nil _ | refine Sub.cons _ ?_ | refine Sub.skip _ ?_)); done) | exact Wv.refl _ | exact Wv.tok _ _ _ | exact Wv.nil _)

/-! strings.IndexByte -/
set_option maxRecDepth 100000 in
set_option maxHeartbeats 1000000 in
theorem strings_IndexByte (s : List UInt8) (c : UInt8) :
    ACalls Try.prog 22 [S s, u8 c] [] (Ret (i64 (idx s c)) []) := by
  refine ACalls.of_body Try.func22 rfl rfl ?_
  show AW _ _ 8 _ _ _
  refine AW.seq ?_
  refine AW.region ?_
  show AR _ _ _ _ _ [0] _
  refine AR.run rfl rfl ?_
  refine AO.ops rfl rfl (opS_assign (av := .v _) rfl) ?_
  refine AR.nil ?_
  show AW _ _ _ _ _ _
  refine AW.seq ?_
  refine AW.region ?_
  show AR _ _ _ _ _ [0, 1, 2, 3] _
  refine AR.run rfl rfl ?_
  refine AO.ops rfl rfl (opS_move (av := .v _) rfl) ?_
  refine AR.run rfl rfl ?_
  refine AO.ops rfl rfl (opS_move (av := .v _) rfl) ?_
  refine AR.run rfl rfl ?_
  refine AO.callp rfl en23 rfl (stringslite_IndexByte _ _) ?_
  refine AR.run rfl rfl ?_
  refine AO.ops rfl rfl (opS_assign (av := .v _) rfl) ?_
  refine AR.nil ?_
  show AW _ _ _ _ _ _
  refine AW.ret ?_
  -- END 1 (ret)
  show RetPost _ _ _ _ .ret _
  (refine ⟨rfl, _, _, ResV.oneW rfl ?_, ?_, ⟨rfl, rfl⟩⟩; all_goals first | exact Sub.refl _ | exact Sub.nil _ | ((repeat (first | exact Sub.refl _ | exact Sub.nil _ | refine Sub.cons _ ?_ | refine Sub.skip _ ?_)); done) | exact Wv.refl _ | exact Wv.tok _ _ _ | exact Wv.nil _)
end Go.Proofs.Ytgdelfhbelfefaa
