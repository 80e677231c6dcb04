/-
  What the functions of quoted text compute, by content.
-/
import Derived.Test.YtgdelfhbelfefaaQpLib
import Derived.Test.YtgdelfhbelfefaaQpPure
set_option linter.unusedVariables false
set_option linter.unusedSimpArgs false
namespace Go.Proofs.Ytgdelfhbelfefaa
open Go.RowKit Go.Av

def hexs : List UInt8 := [48, 49, 50, 51, 52, 53, 54, 55, 56, 57, 65, 66, 67, 68, 69, 70]
theorem idx_hex : ∀ n : Nat, n < 256 → (n < 97 ∨ 102 < n) → idx hexs (UInt8.ofNat n) = (match Qp.dig (UInt8.ofNat n) with | some i => (i : Int) | none => -1) := by decide +kernel
theorem idx_hex_low : ∀ n : Nat, n < 256 → (97 ≤ n ∧ n ≤ 102) → idx hexs (UInt8.ofNat n - 32) = (match Qp.dig (UInt8.ofNat n) with | some i => (i : Int) | none => -1) := by decide +kernel
theorem dig_lt : ∀ n : Nat, n < 256 → ∀ i, Qp.dig (UInt8.ofNat n) = some i → i < 16 := by decide +kernel
theorem u8_sub32' : ∀ n : Nat, n < 256 → (97 ≤ n) → IntKind.u8.wrap (((UInt8.ofNat n).toNat : Int) - 32) = ((UInt8.ofNat n - 32).toNat : Int) := by decide +kernel
theorem u8_sub32 (c : UInt8) (h : 97 ≤ (c.toNat : Int)) : AV.v (.int .u8 (IntKind.u8.wrap ((c.toNat : Int) - 32))) = u8 (c - 32) := by
  have := u8_sub32' c.toNat c.toNat_lt (by omega)
  rw [UInt8.ofNat_toNat] at this
  rw [this]
theorem dig_end (c : UInt8) (z : Int) (hz : z = (match Qp.dig c with | some i => (i : Int) | none => -1)) :
    AV.tup [.v (.int .u8 (IntKind.u8.wrap (max z 0))), .v (.bool (decide (0 ≤ z)))] = .tup [u8 (UInt8.ofNat ((Qp.dig c).getD 0)), B (Qp.dig c).isSome] := by
  subst hz
  cases h : Qp.dig c with
  | none =>
    have h1 : IntKind.u8.wrap (max (-1) 0) = 0 := by decide
    simp only [h1]
    rfl
  | some i =>
    have hi := dig_lt c.toNat c.toNat_lt i (by rw [UInt8.ofNat_toNat]; exact h)
    have h1 : IntKind.u8.wrap (max (i : Int) 0) = i := by rw [show max (i : Int) 0 = i by omega]; exact IntWalk.u8_in _ (by omega)
    have h2 : ((UInt8.ofNat i).toNat : Int) = i := by simp; omega
    show AV.tup [.v (.int .u8 (IntKind.u8.wrap (max (i : Int) 0))), .v (.bool (decide (0 ≤ (i : Int))))] = .tup [.v (.int .u8 ((UInt8.ofNat i).toNat : Int)), B true]
    rw [h1, h2, decide_eq_true (show (0 : Int) ≤ i by omega)]
theorem shr4' : ∀ n : Nat, n < 256 → ((n : Int).fdiv (2 ^ min (4 : Int).toNat IntKind.u8.bits)) = ((n / 16 : Nat) : Int) := by decide +kernel
theorem shr4 (c : UInt8) : AV.v (.int .u8 ((c.toNat : Int).fdiv (2 ^ min (4 : Int).toNat IntKind.u8.bits))) = .v (.int .u8 ((c.toNat / 16 : Nat) : Int)) := by rw [shr4' c.toNat c.toNat_lt]
theorem and15' : ∀ n : Nat, n < 256 → IntKind.u8.wrap ((BitVec.ofInt IntKind.u8.bits (n : Int) &&& BitVec.ofInt IntKind.u8.bits 15).toNat : Int) = ((n % 16 : Nat) : Int) := by decide +kernel
theorem and15 (c : UInt8) : AV.v (.int .u8 (IntKind.u8.wrap ((BitVec.ofInt IntKind.u8.bits (c.toNat : Int) &&& BitVec.ofInt IntKind.u8.bits 15).toNat : Int))) = .v (.int .u8 ((c.toNat % 16 : Nat) : Int)) := by rw [and15' c.toNat c.toNat_lt]
theorem dg_at : ∀ n : Nat, n < 16 → hexs[n]? = some (Qp.dg n) := by decide

theorem en15 : ∀ (args : Array Value) (w : World), (callFunc 15 args).run Try.prog w = .ok (.enter 15 args) w := fun _ _ => by kernel_rfl
theorem en17 : ∀ (args : Array Value) (w : World), (callFunc 17 args).run Try.prog w = .ok (.enter 17 args) w := fun _ _ => by kernel_rfl
theorem en18 : ∀ (args : Array Value) (w : World), (callFunc 18 args).run Try.prog w = .ok (.enter 18 args) w := fun _ _ => by kernel_rfl
theorem en12 : ∀ (args : Array Value) (w : World), (callFunc 12 args).run Try.prog w = .ok (.enter 12 args) w := fun _ _ => by kernel_rfl
theorem en10 : ∀ (args : Array Value) (w : World), (callFunc 10 args).run Try.prog w = .ok (.enter 10 args) w := fun _ _ => by kernel_rfl

/-! qp.digit -/
set_option maxRecDepth 100000 in
set_option maxHeartbeats 1000000 in
theorem qp_digit (c : UInt8) :
    ACalls Try.prog 15 [u8 c] [] (Ret (.tup [u8 (UInt8.ofNat ((Qp.dig c).getD 0)), B (Qp.dig c).isSome]) []) := by
  refine ACalls.of_body Try.func15 rfl rfl ?_
  show AW _ _ 20 _ _ _
  refine AW.seq ?_
  refine AW.region ?_
  show AR _ _ _ _ _ [0, 1] _
  refine AR.run rfl rfl ?_
  refine AO.ops rfl rfl (opS_assign (av := .v _) rfl) ?_
  refine AR.run rfl rfl ?_
  refine AO.ops rfl rfl (opS_assign (av := .v _) rfl) ?_
  refine AR.nil ?_
  show AW _ _ _ _ _ _
  refine AW.seq ?_
  refine AW.seq ?_
  refine AW.region ?_
  show AR _ _ _ _ _ [0, 1, 2, 3, 4, 5] _
  refine AR.run rfl rfl ?_
  refine AO.ops rfl rfl (opS_move (av := .v _) rfl) ?_
  refine AR.run rfl rfl ?_
  refine AO.ops rfl rfl (opS_ge rfl rfl) ?_
  refine AR.run rfl rfl ?_
  refine AO.ops rfl rfl (opS_move (av := .v _) rfl) ?_
  refine AR.guard rfl rfl rfl rfl rfl (fun g1 => ?_) (fun g1 d hd => ?_) (fun h => by cases h)
  ·
    have g1p := g1; try simp only [decide_eq_true_eq, decide_eq_false_iff_not, Bool.not_eq_true', Bool.not_eq_false', Bool.not_true, Bool.not_false, Bool.not_eq_eq_eq_not] at g1p
    refine AO.ops rfl rfl (opS_move (av := .v _) rfl) ?_
    refine AR.guard rfl rfl rfl rfl rfl (fun _ => ?_) (fun hx => bool_no g1 hx) (fun h => by cases h)
    refine AO.ops rfl rfl (opS_le rfl rfl) ?_
    refine AR.run rfl rfl ?_
    refine AO.ops rfl rfl (opS_pick_t (av := .v _) rfl g1 rfl) ?_
    refine AR.nil ?_
    show AW _ _ _ _ _ _
    refine AW.cond rfl (fun c2 => ?_) (fun c2 => ?_)
    ·
      have c2p := c2; try simp only [decide_eq_true_eq, decide_eq_false_iff_not, Bool.not_eq_true', Bool.not_eq_false', Bool.not_true, Bool.not_false, Bool.not_eq_eq_eq_not] at c2p
      refine AW.region ?_
      show AR _ _ _ _ _ [0, 1, 2] _
      refine AR.run rfl rfl ?_
      refine AO.ops rfl rfl (opS_move (av := .v _) rfl) ?_
      refine AR.run rfl rfl ?_
      refine AO.ops rfl rfl (OpS.eq (av' := u8 (c - 32)) (opS_subw rfl rfl) ?h1) ?_
      (case h1 => (exact u8_sub32 c g1p))
      refine AR.run rfl rfl ?_
      refine AO.ops rfl rfl (opS_assign (av := .v _) rfl) ?_
      refine AR.nil ?_
      show AW _ _ _ _ _ _
      refine AW.seq ?_
      refine AW.region ?_
      show AR _ _ _ _ _ [0, 1, 2] _
      refine AR.run rfl rfl ?_
      refine AO.ops rfl rfl (opS_move (av := .v _) rfl) ?_
      refine AR.run rfl rfl ?_
      refine AO.callp rfl en22 rfl (strings_IndexByte hexs _) ?_
      refine AR.run rfl rfl ?_
      refine AO.ops rfl rfl (opS_assign (av := .v _) rfl) ?_
      refine AR.nil ?_
      show AW _ _ _ _ _ _
      refine AW.seq ?_
      refine AW.region ?_
      show AR _ _ _ _ _ [0, 1, 2, 3, 4, 5, 6] _
      refine AR.run rfl rfl ?_
      refine AO.ops rfl rfl (opS_move (av := .v _) rfl) ?_
      refine AR.run rfl rfl ?_
      refine AO.ops rfl rfl (opS_max rfl rfl) ?_
      refine AR.run rfl rfl ?_
      refine AO.ops rfl rfl (opS_conv_int (by kernel_rfl) Try.underlying5 rfl) ?_
      refine AR.run rfl rfl ?_
      refine AO.ops rfl rfl (opS_move (av := .v _) rfl) ?_
      refine AR.run rfl rfl ?_
      refine AO.ops rfl rfl (opS_ge rfl rfl) ?_
      refine AR.run rfl rfl ?_
      refine AO.ops rfl rfl (opS_assign (av := .v _) rfl) ?_
      refine AR.run rfl rfl ?_
      refine AO.ops rfl rfl (opS_assign (av := .v _) rfl) ?_
      refine AR.nil ?_
      show AW _ _ _ _ _ _
      refine AW.ret ?_
      -- END 1 (ret)
      show RetPost _ _ _ _ .ret _
      (refine ⟨rfl, _, _, (ResV.two (av := .v _) (bv := .v _) rfl rfl rfl), ?sub, Ret.mk ?_⟩)
      case sub => first | exact Sub.refl _ | exact Sub.nil _
      refine dig_end c _ ?_
      have := idx_hex_low c.toNat c.toNat_lt (by omega)
      rwa [UInt8.ofNat_toNat] at this
    ·
      have c2p := c2; try simp only [decide_eq_true_eq, decide_eq_false_iff_not, Bool.not_eq_true', Bool.not_eq_false', Bool.not_true, Bool.not_false, Bool.not_eq_eq_eq_not] at c2p
      refine AW.skip ?_
      show AW _ _ _ _ _ _
      refine AW.seq ?_
      refine AW.region ?_
      show AR _ _ _ _ _ [0, 1, 2] _
      refine AR.run rfl rfl ?_
      refine AO.ops rfl rfl (opS_move (av := .v _) rfl) ?_
      refine AR.run rfl rfl ?_
      refine AO.callp rfl en22 rfl (strings_IndexByte hexs _) ?_
      refine AR.run rfl rfl ?_
      refine AO.ops rfl rfl (opS_assign (av := .v _) rfl) ?_
      refine AR.nil ?_
      show AW _ _ _ _ _ _
      refine AW.seq ?_
      refine AW.region ?_
      show AR _ _ _ _ _ [0, 1, 2, 3, 4, 5, 6] _
      refine AR.run rfl rfl ?_
      refine AO.ops rfl rfl (opS_move (av := .v _) rfl) ?_
      refine AR.run rfl rfl ?_
      refine AO.ops rfl rfl (opS_max rfl rfl) ?_
      refine AR.run rfl rfl ?_
      refine AO.ops rfl rfl (opS_conv_int (by kernel_rfl) Try.underlying5 rfl) ?_
      refine AR.run rfl rfl ?_
      refine AO.ops rfl rfl (opS_move (av := .v _) rfl) ?_
      refine AR.run rfl rfl ?_
      refine AO.ops rfl rfl (opS_ge rfl rfl) ?_
      refine AR.run rfl rfl ?_
      refine AO.ops rfl rfl (opS_assign (av := .v _) rfl) ?_
      refine AR.run rfl rfl ?_
      refine AO.ops rfl rfl (opS_assign (av := .v _) rfl) ?_
      refine AR.nil ?_
      show AW _ _ _ _ _ _
      refine AW.ret ?_
      -- END 2 (ret)
      show RetPost _ _ _ _ .ret _
      (refine ⟨rfl, _, _, (ResV.two (av := .v _) (bv := .v _) rfl rfl rfl), ?sub, Ret.mk ?_⟩)
      case sub => first | exact Sub.refl _ | exact Sub.nil _
      refine dig_end c _ ?_
      have := idx_hex c.toNat c.toNat_lt (by omega)
      rwa [UInt8.ofNat_toNat] at this
  ·
    cases hd; refine ⟨rfl, ?_⟩
    have g1p := g1; try simp only [decide_eq_true_eq, decide_eq_false_iff_not, Bool.not_eq_true', Bool.not_eq_false', Bool.not_true, Bool.not_false, Bool.not_eq_eq_eq_not] at g1p
    refine AR.guard rfl rfl rfl rfl rfl (fun hx => bool_no hx g1) (fun _ d hd => ?_) (fun h => by cases h)
    cases hd; refine ⟨rfl, ?_⟩
    refine AR.run rfl rfl ?_
    refine AO.ops rfl rfl (opS_pick_f (av := .v _) rfl g1 rfl) ?_
    refine AR.nil ?_
    show AW _ _ _ _ _ _
    refine AW.cond rfl (fun hx => ?_) (fun hx => ?_)
    · exact bool_no hx (rfl : false = false)
    ·
      refine AW.skip ?_
      show AW _ _ _ _ _ _
      refine AW.seq ?_
      refine AW.region ?_
      show AR _ _ _ _ _ [0, 1, 2] _
      refine AR.run rfl rfl ?_
      refine AO.ops rfl rfl (opS_move (av := .v _) rfl) ?_
      refine AR.run rfl rfl ?_
      refine AO.callp rfl en22 rfl (strings_IndexByte hexs _) ?_
      refine AR.run rfl rfl ?_
      refine AO.ops rfl rfl (opS_assign (av := .v _) rfl) ?_
      refine AR.nil ?_
      show AW _ _ _ _ _ _
      refine AW.seq ?_
      refine AW.region ?_
      show AR _ _ _ _ _ [0, 1, 2, 3, 4, 5, 6] _
      refine AR.run rfl rfl ?_
      refine AO.ops rfl rfl (opS_move (av := .v _) rfl) ?_
      refine AR.run rfl rfl ?_
      refine AO.ops rfl rfl (opS_max rfl rfl) ?_
      refine AR.run rfl rfl ?_
      refine AO.ops rfl rfl (opS_conv_int (by kernel_rfl) Try.underlying5 rfl) ?_
      refine AR.run rfl rfl ?_
      refine AO.ops rfl rfl (opS_move (av := .v _) rfl) ?_
      refine AR.run rfl rfl ?_
      refine AO.ops rfl rfl (opS_ge rfl rfl) ?_
      refine AR.run rfl rfl ?_
      refine AO.ops rfl rfl (opS_assign (av := .v _) rfl) ?_
      refine AR.run rfl rfl ?_
      refine AO.ops rfl rfl (opS_assign (av := .v _) rfl) ?_
      refine AR.nil ?_
      show AW _ _ _ _ _ _
      refine AW.ret ?_
      -- END 3 (ret)
      show RetPost _ _ _ _ .ret _
      (refine ⟨rfl, _, _, (ResV.two (av := .v _) (bv := .v _) rfl rfl rfl), ?sub, Ret.mk ?_⟩)
      case sub => first | exact Sub.refl _ | exact Sub.nil _
      refine dig_end c _ ?_
      have := idx_hex c.toNat c.toNat_lt (by omega)
      rwa [UInt8.ofNat_toNat] at this

/-! (*qp.writer).put -/
set_option maxRecDepth 100000 in
set_option maxHeartbeats 1000000 in
theorem qp_put (o t n : Nat) (l s : List UInt8) (hn : n ≤ 1000000) (hl : l.length ≤ 1000000000) (hs : s.length ≤ 1000000) :
    ACalls Try.prog 17 [.pt o 0, S s] [.obj o [slE Enc.byte l (some t), i64 n], .tok t] (fun e A' => e = .ret (.tup []) ∧ ∃ t', A' = [.obj o [slE Enc.byte (l ++ (Qp.put n s).1) (some t'), i64 (Qp.put n s).2], .tok t']) := by
  refine ACalls.of_body Try.func17 rfl rfl ?_
  show AW _ _ 42 _ _ _
  refine AW.seq ?_
  refine AW.seq ?_
  refine AW.region ?_
  show AR _ _ _ _ _ [0, 1, 2, 3, 4, 5, 6, 7] _
  refine AR.run rfl rfl ?_
  first | (refine AO.ops rfl rfl (opS_move (av := .pt _ _) rfl) ?_) | (refine AO.ops rfl rfl (opS_move (av := .cp _) rfl) ?_) | (refine AO.ops rfl rfl (opS_move (av := .v _) rfl) ?_)
  refine AR.run rfl rfl ?_
  first | (refine AO.ops rfl rfl (opS_nilCheck_pt rfl) ?_) | (refine AO.ops rfl rfl (opS_nilCheck_cp rfl) ?_) | (refine AO.ops rfl rfl (opS_nilCheck_fn rfl) ?_)
  refine AR.run rfl rfl ?_
  refine AO.ops rfl rfl (opS_fieldAddr_pt (n := 1) (by kernel_rfl) rfl) ?_
  refine AR.run rfl rfl ?_
  first | refine AO.ops rfl rfl (opS_load_cp Try.underlying3 rfl rfl) ?_ | refine AO.op rfl rfl (opR_load_pt (i := 0) Try.underlying3 rfl rfl rfl rfl) ?_ | refine AO.op rfl rfl (opR_load_pt (i := 1) Try.underlying3 rfl rfl rfl rfl) ?_ | refine AO.op rfl rfl (opR_load_pt (i := 2) Try.underlying3 rfl rfl rfl rfl) ?_ | refine AO.op rfl rfl (opR_load_pt (i := 3) Try.underlying3 rfl rfl rfl rfl) ?_
  refine AR.run rfl rfl ?_
  refine AO.ops rfl rfl (opS_move (av := .v _) rfl) ?_
  refine AR.run rfl rfl ?_
  refine AO.ops rfl rfl (opS_len_str Try.underlying9 rfl) ?_
  refine AR.run rfl rfl ?_
  refine AO.ops rfl rfl (opS_add rfl rfl ?h2) ?_
  (case h2 => (omega))
  refine AR.run rfl rfl ?_
  refine AO.ops rfl rfl (opS_gt rfl rfl) ?_
  refine AR.nil ?_
  show AW _ _ _ _ _ _
  refine AW.cond rfl (fun c1 => ?_) (fun c1 => ?_)
  ·
    have c1p := c1; try simp only [decide_eq_true_eq, decide_eq_false_iff_not, Bool.not_eq_true', Bool.not_eq_false', Bool.not_true, Bool.not_false, Bool.not_eq_eq_eq_not] at c1p
    refine AW.region ?_
    show AR _ _ _ _ _ [0, 1, 2, 3, 4, 5, 6, 7, 8, 9, 10, 11, 12] _
    refine AR.run rfl rfl ?_
    first | (refine AO.ops rfl rfl (opS_move (av := .pt _ _) rfl) ?_) | (refine AO.ops rfl rfl (opS_move (av := .cp _) rfl) ?_) | (refine AO.ops rfl rfl (opS_move (av := .v _) rfl) ?_)
    refine AR.run rfl rfl ?_
    first | (refine AO.ops rfl rfl (opS_move (av := .pt _ _) rfl) ?_) | (refine AO.ops rfl rfl (opS_move (av := .cp _) rfl) ?_) | (refine AO.ops rfl rfl (opS_move (av := .v _) rfl) ?_)
    refine AR.run rfl rfl ?_
    first | (refine AO.ops rfl rfl (opS_move (av := .pt _ _) rfl) ?_) | (refine AO.ops rfl rfl (opS_move (av := .cp _) rfl) ?_) | (refine AO.ops rfl rfl (opS_move (av := .v _) rfl) ?_)
    refine AR.run rfl rfl ?_
    first | (refine AO.ops rfl rfl (opS_nilCheck_pt rfl) ?_) | (refine AO.ops rfl rfl (opS_nilCheck_cp rfl) ?_) | (refine AO.ops rfl rfl (opS_nilCheck_fn rfl) ?_)
    refine AR.run rfl rfl ?_
    refine AO.ops rfl rfl (opS_fieldAddr_pt (n := 0) (by kernel_rfl) rfl) ?_
    refine AR.run rfl rfl ?_
    first | refine AO.ops rfl rfl (opS_load_cp Try.underlying22 rfl rfl) ?_ | refine AO.op rfl rfl (opR_load_pt (i := 0) Try.underlying22 rfl rfl rfl rfl) ?_ | refine AO.op rfl rfl (opR_load_pt (i := 1) Try.underlying22 rfl rfl rfl rfl) ?_ | refine AO.op rfl rfl (opR_load_pt (i := 2) Try.underlying22 rfl rfl rfl rfl) ?_ | refine AO.op rfl rfl (opR_load_pt (i := 3) Try.underlying22 rfl rfl rfl rfl) ?_
    refine AR.run rfl rfl ?_
    first | (refine AO.opx rfl rfl (opX_append_str (bytes := 1) 0 Try.underlying22 Try.underlying9 rfl (by kernel_rfl) rfl rfl rfl ?h5 ?h6) ?_; (case h5 => (first | omega | (simp; done) | (simp; omega))); (case h6 => (first | omega | (simp; done) | (simp; omega)))) | (refine AO.opx rfl rfl (opX_append_str (bytes := 1) 1 Try.underlying22 Try.underlying9 rfl (by kernel_rfl) rfl rfl rfl ?h7 ?h8) ?_; (case h7 => (first | omega | (simp; done) | (simp; omega))); (case h8 => (first | omega | (simp; done) | (simp; omega)))) | (refine AO.opx rfl rfl (opX_append_str (bytes := 1) 2 Try.underlying22 Try.underlying9 rfl (by kernel_rfl) rfl rfl rfl ?h9 ?h10) ?_; (case h9 => (first | omega | (simp; done) | (simp; omega))); (case h10 => (first | omega | (simp; done) | (simp; omega)))) | (refine AO.opx rfl rfl (opX_append_str (bytes := 1) 3 Try.underlying22 Try.underlying9 rfl (by kernel_rfl) rfl rfl rfl ?h11 ?h12) ?_; (case h11 => (first | omega | (simp; done) | (simp; omega))); (case h12 => (first | omega | (simp; done) | (simp; omega))))
    rintro _ _ ⟨t18, rfl, rfl⟩
    refine AR.run rfl rfl ?_
    first | (refine AO.ops rfl rfl (opS_nilCheck_pt rfl) ?_) | (refine AO.ops rfl rfl (opS_nilCheck_cp rfl) ?_) | (refine AO.ops rfl rfl (opS_nilCheck_fn rfl) ?_)
    refine AR.run rfl rfl ?_
    refine AO.ops rfl rfl (opS_fieldAddr_pt (n := 0) (by kernel_rfl) rfl) ?_
    refine AR.run rfl rfl ?_
    first | (refine AO.op0 rfl (opR_store_pt (i := 0) (c := slE _ _ _) (by kernel_rfl) rfl rfl rfl rfl ?h14) ?_; (case h14 => (simp))) | (refine AO.op0 rfl (opR_store_pt (i := 0) (c := .v _) (by kernel_rfl) rfl rfl rfl rfl ?h15) ?_; (case h15 => (simp))) | (refine AO.op0 rfl (opR_store_pt (i := 0) (c := .vw _ _ _ _) (by kernel_rfl) rfl rfl rfl rfl ?h16) ?_; (case h16 => (simp))) | (refine AO.op0 rfl (opR_store_pt (i := 1) (c := slE _ _ _) (by kernel_rfl) rfl rfl rfl rfl ?h17) ?_; (case h17 => (simp))) | (refine AO.op0 rfl (opR_store_pt (i := 1) (c := .v _) (by kernel_rfl) rfl rfl rfl rfl ?h18) ?_; (case h18 => (simp))) | (refine AO.op0 rfl (opR_store_pt (i := 1) (c := .vw _ _ _ _) (by kernel_rfl) rfl rfl rfl rfl ?h19) ?_; (case h19 => (simp))) | (refine AO.op0 rfl (opR_store_pt (i := 2) (c := slE _ _ _) (by kernel_rfl) rfl rfl rfl rfl ?h20) ?_; (case h20 => (simp))) | (refine AO.op0 rfl (opR_store_pt (i := 2) (c := .v _) (by kernel_rfl) rfl rfl rfl rfl ?h21) ?_; (case h21 => (simp))) | (refine AO.op0 rfl (opR_store_pt (i := 2) (c := .vw _ _ _ _) (by kernel_rfl) rfl rfl rfl rfl ?h22) ?_; (case h22 => (simp))) | (refine AO.op0 rfl (opR_store_pt (i := 3) (c := slE _ _ _) (by kernel_rfl) rfl rfl rfl rfl ?h23) ?_; (case h23 => (simp))) | (refine AO.op0 rfl (opR_store_pt (i := 3) (c := .v _) (by kernel_rfl) rfl rfl rfl rfl ?h24) ?_; (case h24 => (simp))) | (refine AO.op0 rfl (opR_store_pt (i := 3) (c := .vw _ _ _ _) (by kernel_rfl) rfl rfl rfl rfl ?h25) ?_; (case h25 => (simp)))
    refine AR.run rfl rfl ?_
    first | (refine AO.ops rfl rfl (opS_nilCheck_pt rfl) ?_) | (refine AO.ops rfl rfl (opS_nilCheck_cp rfl) ?_) | (refine AO.ops rfl rfl (opS_nilCheck_fn rfl) ?_)
    refine AR.run rfl rfl ?_
    refine AO.ops rfl rfl (opS_fieldAddr_pt (n := 1) (by kernel_rfl) rfl) ?_
    refine AR.run rfl rfl ?_
    first | (refine AO.op0 rfl (opR_store_pt (i := 0) (c := .v _) (by kernel_rfl) rfl rfl rfl rfl ?h27) ?_; (case h27 => (simp))) | (refine AO.op0 rfl (opR_store_pt (i := 1) (c := .v _) (by kernel_rfl) rfl rfl rfl rfl ?h28) ?_; (case h28 => (simp))) | (refine AO.op0 rfl (opR_store_pt (i := 2) (c := .v _) (by kernel_rfl) rfl rfl rfl rfl ?h29) ?_; (case h29 => (simp))) | (refine AO.op0 rfl (opR_store_pt (i := 3) (c := .v _) (by kernel_rfl) rfl rfl rfl rfl ?h30) ?_; (case h30 => (simp)))
    refine AR.nil ?_
    show AW _ _ _ _ _ _
    refine AW.region_draw (by kernel_rfl) ?_
    show AI _ _ _ _ 21 (Array.replicate 21 false) _
    first | (refine AI.take (i := 0) rfl rfl (by kernel_rfl) (by kernel_rfl) (by kernel_rfl) (fun _ _ h => by obtain ⟨_, _, _, h, _⟩ := h; cases h) (opS_move (av := .pt _ _) rfl) ?_) | (refine AI.take (i := 0) rfl rfl (by kernel_rfl) (by kernel_rfl) (by kernel_rfl) (fun _ _ h => by obtain ⟨_, _, _, h, _⟩ := h; cases h) (opS_move (av := .cp _) rfl) ?_) | (refine AI.take (i := 0) rfl rfl (by kernel_rfl) (by kernel_rfl) (by kernel_rfl) (fun _ _ h => by obtain ⟨_, _, _, h, _⟩ := h; cases h) (opS_move (av := .v _) rfl) ?_)
    show AI _ _ _ _ _ #[true, false, false, false, false, false, false, false, false, false, false, false, false, false, false, false, false, false, false, false, false] _
    first | (refine AI.take (i := 1) rfl rfl (by kernel_rfl) (by kernel_rfl) (by kernel_rfl) (fun _ _ h => by obtain ⟨_, _, _, h, _⟩ := h; cases h) (opS_move (av := .pt _ _) rfl) ?_) | (refine AI.take (i := 1) rfl rfl (by kernel_rfl) (by kernel_rfl) (by kernel_rfl) (fun _ _ h => by obtain ⟨_, _, _, h, _⟩ := h; cases h) (opS_move (av := .cp _) rfl) ?_) | (refine AI.take (i := 1) rfl rfl (by kernel_rfl) (by kernel_rfl) (by kernel_rfl) (fun _ _ h => by obtain ⟨_, _, _, h, _⟩ := h; cases h) (opS_move (av := .v _) rfl) ?_)
    show AI _ _ _ _ _ #[true, true, false, false, false, false, false, false, false, false, false, false, false, false, false, false, false, false, false, false, false] _
    first | (refine AI.take (i := 2) rfl rfl (by kernel_rfl) (by kernel_rfl) (by kernel_rfl) (fun _ _ h => by obtain ⟨_, _, _, h, _⟩ := h; cases h) (opS_move (av := .pt _ _) rfl) ?_) | (refine AI.take (i := 2) rfl rfl (by kernel_rfl) (by kernel_rfl) (by kernel_rfl) (fun _ _ h => by obtain ⟨_, _, _, h, _⟩ := h; cases h) (opS_move (av := .cp _) rfl) ?_) | (refine AI.take (i := 2) rfl rfl (by kernel_rfl) (by kernel_rfl) (by kernel_rfl) (fun _ _ h => by obtain ⟨_, _, _, h, _⟩ := h; cases h) (opS_move (av := .v _) rfl) ?_)
    show AI _ _ _ _ _ #[true, true, true, false, false, false, false, false, false, false, false, false, false, false, false, false, false, false, false, false, false] _
    first | (refine AI.take (i := 3) rfl rfl (by kernel_rfl) (by kernel_rfl) (by kernel_rfl) (fun _ _ h => by obtain ⟨_, _, _, h, _⟩ := h; cases h) (opS_nilCheck_pt rfl) ?_) | (refine AI.take (i := 3) rfl rfl (by kernel_rfl) (by kernel_rfl) (by kernel_rfl) (fun _ _ h => by obtain ⟨_, _, _, h, _⟩ := h; cases h) (opS_nilCheck_cp rfl) ?_) | (refine AI.take (i := 3) rfl rfl (by kernel_rfl) (by kernel_rfl) (by kernel_rfl) (fun _ _ h => by obtain ⟨_, _, _, h, _⟩ := h; cases h) (opS_nilCheck_fn rfl) ?_)
    show AI _ _ _ _ _ #[true, true, true, true, false, false, false, false, false, false, false, false, false, false, false, false, false, false, false, false, false] _
    refine AI.take (i := 4) rfl rfl (by kernel_rfl) (by kernel_rfl) (by kernel_rfl) (fun _ _ h => by obtain ⟨_, _, _, h, _⟩ := h; cases h) (opS_fieldAddr_pt (n := 0) (by kernel_rfl) rfl) ?_
    show AI _ _ _ _ _ #[true, true, true, true, true, false, false, false, false, false, false, false, false, false, false, false, false, false, false, false, false] _
    refine AI.take (i := 6) rfl rfl (by kernel_rfl) (by kernel_rfl) (by kernel_rfl) (fun _ _ h => by obtain ⟨_, _, _, h, _⟩ := h; cases h) (opS_move (av := .v _) rfl) ?_
    show AI _ _ _ _ _ #[true, true, true, true, true, false, true, false, false, false, false, false, false, false, false, false, false, false, false, false, false] _
    first | (refine AI.take (i := 8) rfl rfl (by kernel_rfl) (by kernel_rfl) (by kernel_rfl) (fun _ _ h => by obtain ⟨_, _, _, h, _⟩ := h; cases h) (opS_move (av := .pt _ _) rfl) ?_) | (refine AI.take (i := 8) rfl rfl (by kernel_rfl) (by kernel_rfl) (by kernel_rfl) (fun _ _ h => by obtain ⟨_, _, _, h, _⟩ := h; cases h) (opS_move (av := .cp _) rfl) ?_) | (refine AI.take (i := 8) rfl rfl (by kernel_rfl) (by kernel_rfl) (by kernel_rfl) (fun _ _ h => by obtain ⟨_, _, _, h, _⟩ := h; cases h) (opS_move (av := .v _) rfl) ?_)
    show AI _ _ _ _ _ #[true, true, true, true, true, false, true, false, true, false, false, false, false, false, false, false, false, false, false, false, false] _
    first | (refine AI.take (i := 9) rfl rfl (by kernel_rfl) (by kernel_rfl) (by kernel_rfl) (fun _ _ h => by obtain ⟨_, _, _, h, _⟩ := h; cases h) (opS_nilCheck_pt rfl) ?_) | (refine AI.take (i := 9) rfl rfl (by kernel_rfl) (by kernel_rfl) (by kernel_rfl) (fun _ _ h => by obtain ⟨_, _, _, h, _⟩ := h; cases h) (opS_nilCheck_cp rfl) ?_) | (refine AI.take (i := 9) rfl rfl (by kernel_rfl) (by kernel_rfl) (by kernel_rfl) (fun _ _ h => by obtain ⟨_, _, _, h, _⟩ := h; cases h) (opS_nilCheck_fn rfl) ?_)
    show AI _ _ _ _ _ #[true, true, true, true, true, false, true, false, true, true, false, false, false, false, false, false, false, false, false, false, false] _
    refine AI.take (i := 10) rfl rfl (by kernel_rfl) (by kernel_rfl) (by kernel_rfl) (fun _ _ h => by obtain ⟨_, _, _, h, _⟩ := h; cases h) (opS_fieldAddr_pt (n := 1) (by kernel_rfl) rfl) ?_
    show AI _ _ _ _ _ #[true, true, true, true, true, false, true, false, true, true, true, false, false, false, false, false, false, false, false, false, false] _
    refine AI.take (i := 12) rfl rfl (by kernel_rfl) (by kernel_rfl) (by kernel_rfl) (fun _ _ h => by obtain ⟨_, _, _, h, _⟩ := h; cases h) (opS_move (av := .v _) rfl) ?_
    show AI _ _ _ _ _ #[true, true, true, true, true, false, true, false, true, true, true, false, true, false, false, false, false, false, false, false, false] _
    refine AI.take (i := 13) rfl rfl (by kernel_rfl) (by kernel_rfl) (by kernel_rfl) (fun _ _ h => by obtain ⟨_, _, _, h, _⟩ := h; cases h) (opS_len_str Try.underlying9 rfl) ?_
    show AI _ _ _ _ _ #[true, true, true, true, true, false, true, false, true, true, true, false, true, true, false, false, false, false, false, false, false] _
    refine AI.two (i := 5) (j := 11) (by kernel_rfl) rfl rfl rfl rfl ?_ ?_
    ·
      first | refine AIO.op rfl (opR_load_pt (i := 0) Try.underlying22 rfl rfl rfl rfl) ?_ | refine AIO.op rfl (opR_load_pt (i := 1) Try.underlying22 rfl rfl rfl rfl) ?_ | refine AIO.op rfl (opR_load_pt (i := 2) Try.underlying22 rfl rfl rfl rfl) ?_ | refine AIO.op rfl (opR_load_pt (i := 3) Try.underlying22 rfl rfl rfl rfl) ?_
      show AI _ _ _ _ _ #[true, true, true, true, true, true, true, false, true, true, true, false, true, true, false, false, false, false, false, false, false] _
      refine AI.two (i := 7) (j := 11) (by kernel_rfl) rfl rfl rfl rfl ?_ ?_
      ·
        first | (refine AIO.opx rfl (opX_append_str (bytes := 1) 0 Try.underlying22 Try.underlying9 rfl (by kernel_rfl) rfl rfl rfl ?h33 ?h34) ?_; (case h33 => (first | omega | (simp; done) | (simp; omega))); (case h34 => (first | omega | (simp; done) | (simp; omega)))) | (refine AIO.opx rfl (opX_append_str (bytes := 1) 1 Try.underlying22 Try.underlying9 rfl (by kernel_rfl) rfl rfl rfl ?h35 ?h36) ?_; (case h35 => (first | omega | (simp; done) | (simp; omega))); (case h36 => (first | omega | (simp; done) | (simp; omega)))) | (refine AIO.opx rfl (opX_append_str (bytes := 1) 2 Try.underlying22 Try.underlying9 rfl (by kernel_rfl) rfl rfl rfl ?h37 ?h38) ?_; (case h37 => (first | omega | (simp; done) | (simp; omega))); (case h38 => (first | omega | (simp; done) | (simp; omega)))) | (refine AIO.opx rfl (opX_append_str (bytes := 1) 3 Try.underlying22 Try.underlying9 rfl (by kernel_rfl) rfl rfl rfl ?h39 ?h40) ?_; (case h39 => (first | omega | (simp; done) | (simp; omega))); (case h40 => (first | omega | (simp; done) | (simp; omega))))
        rintro _ _ ⟨t30, rfl, rfl⟩
        show AI _ _ _ _ _ #[true, true, true, true, true, true, true, true, true, true, true, false, true, true, false, false, false, false, false, false, false] _
        refine AI.one (i := 11) (by kernel_rfl) rfl rfl ?_
        first | refine AIO.op rfl (opR_load_pt (i := 0) Try.underlying3 rfl rfl rfl rfl) ?_ | refine AIO.op rfl (opR_load_pt (i := 1) Try.underlying3 rfl rfl rfl rfl) ?_ | refine AIO.op rfl (opR_load_pt (i := 2) Try.underlying3 rfl rfl rfl rfl) ?_ | refine AIO.op rfl (opR_load_pt (i := 3) Try.underlying3 rfl rfl rfl rfl) ?_
        show AI _ _ _ _ _ #[true, true, true, true, true, true, true, true, true, true, true, true, true, true, false, false, false, false, false, false, false] _
        refine AI.take (i := 14) rfl rfl (by kernel_rfl) (by kernel_rfl) (by kernel_rfl) (fun _ _ h => by obtain ⟨_, _, _, h, _⟩ := h; cases h) (opS_add rfl rfl ?h42) ?_; (case h42 => (omega))
        show AI _ _ _ _ _ #[true, true, true, true, true, true, true, true, true, true, true, true, true, true, true, false, false, false, false, false, false] _
        first | (refine AI.take (i := 15) rfl rfl (by kernel_rfl) (by kernel_rfl) (by kernel_rfl) (fun _ _ h => by obtain ⟨_, _, _, h, _⟩ := h; cases h) (opS_nilCheck_pt rfl) ?_) | (refine AI.take (i := 15) rfl rfl (by kernel_rfl) (by kernel_rfl) (by kernel_rfl) (fun _ _ h => by obtain ⟨_, _, _, h, _⟩ := h; cases h) (opS_nilCheck_cp rfl) ?_) | (refine AI.take (i := 15) rfl rfl (by kernel_rfl) (by kernel_rfl) (by kernel_rfl) (fun _ _ h => by obtain ⟨_, _, _, h, _⟩ := h; cases h) (opS_nilCheck_fn rfl) ?_)
        show AI _ _ _ _ _ #[true, true, true, true, true, true, true, true, true, true, true, true, true, true, true, true, false, false, false, false, false] _
        refine AI.take (i := 16) rfl rfl (by kernel_rfl) (by kernel_rfl) (by kernel_rfl) (fun _ _ h => by obtain ⟨_, _, _, h, _⟩ := h; cases h) (opS_fieldAddr_pt (n := 0) (by kernel_rfl) rfl) ?_
        show AI _ _ _ _ _ #[true, true, true, true, true, true, true, true, true, true, true, true, true, true, true, true, true, false, false, false, false] _
        refine AI.one (i := 17) (by kernel_rfl) rfl rfl ?_
        first | (refine AIO.op0 (opR_store_pt (i := 0) (c := slE _ _ _) (by kernel_rfl) rfl rfl rfl rfl ?h44) ?_; (case h44 => (simp))) | (refine AIO.op0 (opR_store_pt (i := 0) (c := .v _) (by kernel_rfl) rfl rfl rfl rfl ?h45) ?_; (case h45 => (simp))) | (refine AIO.op0 (opR_store_pt (i := 0) (c := .vw _ _ _ _) (by kernel_rfl) rfl rfl rfl rfl ?h46) ?_; (case h46 => (simp))) | (refine AIO.op0 (opR_store_pt (i := 1) (c := slE _ _ _) (by kernel_rfl) rfl rfl rfl rfl ?h47) ?_; (case h47 => (simp))) | (refine AIO.op0 (opR_store_pt (i := 1) (c := .v _) (by kernel_rfl) rfl rfl rfl rfl ?h48) ?_; (case h48 => (simp))) | (refine AIO.op0 (opR_store_pt (i := 1) (c := .vw _ _ _ _) (by kernel_rfl) rfl rfl rfl rfl ?h49) ?_; (case h49 => (simp))) | (refine AIO.op0 (opR_store_pt (i := 2) (c := slE _ _ _) (by kernel_rfl) rfl rfl rfl rfl ?h50) ?_; (case h50 => (simp))) | (refine AIO.op0 (opR_store_pt (i := 2) (c := .v _) (by kernel_rfl) rfl rfl rfl rfl ?h51) ?_; (case h51 => (simp))) | (refine AIO.op0 (opR_store_pt (i := 2) (c := .vw _ _ _ _) (by kernel_rfl) rfl rfl rfl rfl ?h52) ?_; (case h52 => (simp))) | (refine AIO.op0 (opR_store_pt (i := 3) (c := slE _ _ _) (by kernel_rfl) rfl rfl rfl rfl ?h53) ?_; (case h53 => (simp))) | (refine AIO.op0 (opR_store_pt (i := 3) (c := .v _) (by kernel_rfl) rfl rfl rfl rfl ?h54) ?_; (case h54 => (simp))) | (refine AIO.op0 (opR_store_pt (i := 3) (c := .vw _ _ _ _) (by kernel_rfl) rfl rfl rfl rfl ?h55) ?_; (case h55 => (simp)))
        show AI _ _ _ _ _ #[true, true, true, true, true, true, true, true, true, true, true, true, true, true, true, true, true, true, false, false, false] _
        first | (refine AI.take (i := 18) rfl rfl (by kernel_rfl) (by kernel_rfl) (by kernel_rfl) (fun _ _ h => by obtain ⟨_, _, _, h, _⟩ := h; cases h) (opS_nilCheck_pt rfl) ?_) | (refine AI.take (i := 18) rfl rfl (by kernel_rfl) (by kernel_rfl) (by kernel_rfl) (fun _ _ h => by obtain ⟨_, _, _, h, _⟩ := h; cases h) (opS_nilCheck_cp rfl) ?_) | (refine AI.take (i := 18) rfl rfl (by kernel_rfl) (by kernel_rfl) (by kernel_rfl) (fun _ _ h => by obtain ⟨_, _, _, h, _⟩ := h; cases h) (opS_nilCheck_fn rfl) ?_)
        show AI _ _ _ _ _ #[true, true, true, true, true, true, true, true, true, true, true, true, true, true, true, true, true, true, true, false, false] _
        refine AI.take (i := 19) rfl rfl (by kernel_rfl) (by kernel_rfl) (by kernel_rfl) (fun _ _ h => by obtain ⟨_, _, _, h, _⟩ := h; cases h) (opS_fieldAddr_pt (n := 1) (by kernel_rfl) rfl) ?_
        show AI _ _ _ _ _ #[true, true, true, true, true, true, true, true, true, true, true, true, true, true, true, true, true, true, true, true, false] _
        refine AI.one (i := 20) (by kernel_rfl) rfl rfl ?_
        first | (refine AIO.op0 (opR_store_pt (i := 0) (c := .v _) (by kernel_rfl) rfl rfl rfl rfl ?h57) ?_; (case h57 => (simp))) | (refine AIO.op0 (opR_store_pt (i := 1) (c := .v _) (by kernel_rfl) rfl rfl rfl rfl ?h58) ?_; (case h58 => (simp))) | (refine AIO.op0 (opR_store_pt (i := 2) (c := .v _) (by kernel_rfl) rfl rfl rfl rfl ?h59) ?_; (case h59 => (simp))) | (refine AIO.op0 (opR_store_pt (i := 3) (c := .v _) (by kernel_rfl) rfl rfl rfl rfl ?h60) ?_; (case h60 => (simp)))
        show AI _ _ _ _ _ #[true, true, true, true, true, true, true, true, true, true, true, true, true, true, true, true, true, true, true, true, true] _
        refine AI.done rfl ?_
        -- END 1 (end)
        show RetPost _ _ _ _ .normal _
        refine ⟨rfl, _, _, ResV.none rfl, Sub.refl _, rfl, t30, ?_⟩
        first | simp [Qp.put, show 75 < n + s.length by omega] | simp [Qp.put, show ¬ 75 < n + s.length by omega]
      ·
        first | refine AIO.op rfl (opR_load_pt (i := 0) Try.underlying3 rfl rfl rfl rfl) ?_ | refine AIO.op rfl (opR_load_pt (i := 1) Try.underlying3 rfl rfl rfl rfl) ?_ | refine AIO.op rfl (opR_load_pt (i := 2) Try.underlying3 rfl rfl rfl rfl) ?_ | refine AIO.op rfl (opR_load_pt (i := 3) Try.underlying3 rfl rfl rfl rfl) ?_
        show AI _ _ _ _ _ #[true, true, true, true, true, true, true, false, true, true, true, true, true, true, false, false, false, false, false, false, false] _
        refine AI.take (i := 14) rfl rfl (by kernel_rfl) (by kernel_rfl) (by kernel_rfl) (fun _ _ h => by obtain ⟨_, _, _, h, _⟩ := h; cases h) (opS_add rfl rfl ?h62) ?_; (case h62 => (omega))
        show AI _ _ _ _ _ #[true, true, true, true, true, true, true, false, true, true, true, true, true, true, true, false, false, false, false, false, false] _
        refine AI.one (i := 7) (by kernel_rfl) rfl rfl ?_
        first | (refine AIO.opx rfl (opX_append_str (bytes := 1) 0 Try.underlying22 Try.underlying9 rfl (by kernel_rfl) rfl rfl rfl ?h65 ?h66) ?_; (case h65 => (first | omega | (simp; done) | (simp; omega))); (case h66 => (first | omega | (simp; done) | (simp; omega)))) | (refine AIO.opx rfl (opX_append_str (bytes := 1) 1 Try.underlying22 Try.underlying9 rfl (by kernel_rfl) rfl rfl rfl ?h67 ?h68) ?_; (case h67 => (first | omega | (simp; done) | (simp; omega))); (case h68 => (first | omega | (simp; done) | (simp; omega)))) | (refine AIO.opx rfl (opX_append_str (bytes := 1) 2 Try.underlying22 Try.underlying9 rfl (by kernel_rfl) rfl rfl rfl ?h69 ?h70) ?_; (case h69 => (first | omega | (simp; done) | (simp; omega))); (case h70 => (first | omega | (simp; done) | (simp; omega)))) | (refine AIO.opx rfl (opX_append_str (bytes := 1) 3 Try.underlying22 Try.underlying9 rfl (by kernel_rfl) rfl rfl rfl ?h71 ?h72) ?_; (case h71 => (first | omega | (simp; done) | (simp; omega))); (case h72 => (first | omega | (simp; done) | (simp; omega))))
        rintro _ _ ⟨t30, rfl, rfl⟩
        show AI _ _ _ _ _ #[true, true, true, true, true, true, true, true, true, true, true, true, true, true, true, false, false, false, false, false, false] _
        first | (refine AI.take (i := 15) rfl rfl (by kernel_rfl) (by kernel_rfl) (by kernel_rfl) (fun _ _ h => by obtain ⟨_, _, _, h, _⟩ := h; cases h) (opS_nilCheck_pt rfl) ?_) | (refine AI.take (i := 15) rfl rfl (by kernel_rfl) (by kernel_rfl) (by kernel_rfl) (fun _ _ h => by obtain ⟨_, _, _, h, _⟩ := h; cases h) (opS_nilCheck_cp rfl) ?_) | (refine AI.take (i := 15) rfl rfl (by kernel_rfl) (by kernel_rfl) (by kernel_rfl) (fun _ _ h => by obtain ⟨_, _, _, h, _⟩ := h; cases h) (opS_nilCheck_fn rfl) ?_)
        show AI _ _ _ _ _ #[true, true, true, true, true, true, true, true, true, true, true, true, true, true, true, true, false, false, false, false, false] _
        refine AI.take (i := 16) rfl rfl (by kernel_rfl) (by kernel_rfl) (by kernel_rfl) (fun _ _ h => by obtain ⟨_, _, _, h, _⟩ := h; cases h) (opS_fieldAddr_pt (n := 0) (by kernel_rfl) rfl) ?_
        show AI _ _ _ _ _ #[true, true, true, true, true, true, true, true, true, true, true, true, true, true, true, true, true, false, false, false, false] _
        refine AI.one (i := 17) (by kernel_rfl) rfl rfl ?_
        first | (refine AIO.op0 (opR_store_pt (i := 0) (c := slE _ _ _) (by kernel_rfl) rfl rfl rfl rfl ?h74) ?_; (case h74 => (simp))) | (refine AIO.op0 (opR_store_pt (i := 0) (c := .v _) (by kernel_rfl) rfl rfl rfl rfl ?h75) ?_; (case h75 => (simp))) | (refine AIO.op0 (opR_store_pt (i := 0) (c := .vw _ _ _ _) (by kernel_rfl) rfl rfl rfl rfl ?h76) ?_; (case h76 => (simp))) | (refine AIO.op0 (opR_store_pt (i := 1) (c := slE _ _ _) (by kernel_rfl) rfl rfl rfl rfl ?h77) ?_; (case h77 => (simp))) | (refine AIO.op0 (opR_store_pt (i := 1) (c := .v _) (by kernel_rfl) rfl rfl rfl rfl ?h78) ?_; (case h78 => (simp))) | (refine AIO.op0 (opR_store_pt (i := 1) (c := .vw _ _ _ _) (by kernel_rfl) rfl rfl rfl rfl ?h79) ?_; (case h79 => (simp))) | (refine AIO.op0 (opR_store_pt (i := 2) (c := slE _ _ _) (by kernel_rfl) rfl rfl rfl rfl ?h80) ?_; (case h80 => (simp))) | (refine AIO.op0 (opR_store_pt (i := 2) (c := .v _) (by kernel_rfl) rfl rfl rfl rfl ?h81) ?_; (case h81 => (simp))) | (refine AIO.op0 (opR_store_pt (i := 2) (c := .vw _ _ _ _) (by kernel_rfl) rfl rfl rfl rfl ?h82) ?_; (case h82 => (simp))) | (refine AIO.op0 (opR_store_pt (i := 3) (c := slE _ _ _) (by kernel_rfl) rfl rfl rfl rfl ?h83) ?_; (case h83 => (simp))) | (refine AIO.op0 (opR_store_pt (i := 3) (c := .v _) (by kernel_rfl) rfl rfl rfl rfl ?h84) ?_; (case h84 => (simp))) | (refine AIO.op0 (opR_store_pt (i := 3) (c := .vw _ _ _ _) (by kernel_rfl) rfl rfl rfl rfl ?h85) ?_; (case h85 => (simp)))
        show AI _ _ _ _ _ #[true, true, true, true, true, true, true, true, true, true, true, true, true, true, true, true, true, true, false, false, false] _
        first | (refine AI.take (i := 18) rfl rfl (by kernel_rfl) (by kernel_rfl) (by kernel_rfl) (fun _ _ h => by obtain ⟨_, _, _, h, _⟩ := h; cases h) (opS_nilCheck_pt rfl) ?_) | (refine AI.take (i := 18) rfl rfl (by kernel_rfl) (by kernel_rfl) (by kernel_rfl) (fun _ _ h => by obtain ⟨_, _, _, h, _⟩ := h; cases h) (opS_nilCheck_cp rfl) ?_) | (refine AI.take (i := 18) rfl rfl (by kernel_rfl) (by kernel_rfl) (by kernel_rfl) (fun _ _ h => by obtain ⟨_, _, _, h, _⟩ := h; cases h) (opS_nilCheck_fn rfl) ?_)
        show AI _ _ _ _ _ #[true, true, true, true, true, true, true, true, true, true, true, true, true, true, true, true, true, true, true, false, false] _
        refine AI.take (i := 19) rfl rfl (by kernel_rfl) (by kernel_rfl) (by kernel_rfl) (fun _ _ h => by obtain ⟨_, _, _, h, _⟩ := h; cases h) (opS_fieldAddr_pt (n := 1) (by kernel_rfl) rfl) ?_
        show AI _ _ _ _ _ #[true, true, true, true, true, true, true, true, true, true, true, true, true, true, true, true, true, true, true, true, false] _
        refine AI.one (i := 20) (by kernel_rfl) rfl rfl ?_
        first | (refine AIO.op0 (opR_store_pt (i := 0) (c := .v _) (by kernel_rfl) rfl rfl rfl rfl ?h87) ?_; (case h87 => (simp))) | (refine AIO.op0 (opR_store_pt (i := 1) (c := .v _) (by kernel_rfl) rfl rfl rfl rfl ?h88) ?_; (case h88 => (simp))) | (refine AIO.op0 (opR_store_pt (i := 2) (c := .v _) (by kernel_rfl) rfl rfl rfl rfl ?h89) ?_; (case h89 => (simp))) | (refine AIO.op0 (opR_store_pt (i := 3) (c := .v _) (by kernel_rfl) rfl rfl rfl rfl ?h90) ?_; (case h90 => (simp)))
        show AI _ _ _ _ _ #[true, true, true, true, true, true, true, true, true, true, true, true, true, true, true, true, true, true, true, true, true] _
        refine AI.done rfl ?_
        -- END 2 (end)
        show RetPost _ _ _ _ .normal _
        refine ⟨rfl, _, _, ResV.none rfl, Sub.refl _, rfl, t30, ?_⟩
        first | simp [Qp.put, show 75 < n + s.length by omega] | simp [Qp.put, show ¬ 75 < n + s.length by omega]
    ·
      first | refine AIO.op rfl (opR_load_pt (i := 0) Try.underlying3 rfl rfl rfl rfl) ?_ | refine AIO.op rfl (opR_load_pt (i := 1) Try.underlying3 rfl rfl rfl rfl) ?_ | refine AIO.op rfl (opR_load_pt (i := 2) Try.underlying3 rfl rfl rfl rfl) ?_ | refine AIO.op rfl (opR_load_pt (i := 3) Try.underlying3 rfl rfl rfl rfl) ?_
      show AI _ _ _ _ _ #[true, true, true, true, true, false, true, false, true, true, true, true, true, true, false, false, false, false, false, false, false] _
      refine AI.take (i := 14) rfl rfl (by kernel_rfl) (by kernel_rfl) (by kernel_rfl) (fun _ _ h => by obtain ⟨_, _, _, h, _⟩ := h; cases h) (opS_add rfl rfl ?h92) ?_; (case h92 => (omega))
      show AI _ _ _ _ _ #[true, true, true, true, true, false, true, false, true, true, true, true, true, true, true, false, false, false, false, false, false] _
      refine AI.one (i := 5) (by kernel_rfl) rfl rfl ?_
      first | refine AIO.op rfl (opR_load_pt (i := 0) Try.underlying22 rfl rfl rfl rfl) ?_ | refine AIO.op rfl (opR_load_pt (i := 1) Try.underlying22 rfl rfl rfl rfl) ?_ | refine AIO.op rfl (opR_load_pt (i := 2) Try.underlying22 rfl rfl rfl rfl) ?_ | refine AIO.op rfl (opR_load_pt (i := 3) Try.underlying22 rfl rfl rfl rfl) ?_
      show AI _ _ _ _ _ #[true, true, true, true, true, true, true, false, true, true, true, true, true, true, true, false, false, false, false, false, false] _
      refine AI.one (i := 7) (by kernel_rfl) rfl rfl ?_
      first | (refine AIO.opx rfl (opX_append_str (bytes := 1) 0 Try.underlying22 Try.underlying9 rfl (by kernel_rfl) rfl rfl rfl ?h95 ?h96) ?_; (case h95 => (first | omega | (simp; done) | (simp; omega))); (case h96 => (first | omega | (simp; done) | (simp; omega)))) | (refine AIO.opx rfl (opX_append_str (bytes := 1) 1 Try.underlying22 Try.underlying9 rfl (by kernel_rfl) rfl rfl rfl ?h97 ?h98) ?_; (case h97 => (first | omega | (simp; done) | (simp; omega))); (case h98 => (first | omega | (simp; done) | (simp; omega)))) | (refine AIO.opx rfl (opX_append_str (bytes := 1) 2 Try.underlying22 Try.underlying9 rfl (by kernel_rfl) rfl rfl rfl ?h99 ?h100) ?_; (case h99 => (first | omega | (simp; done) | (simp; omega))); (case h100 => (first | omega | (simp; done) | (simp; omega)))) | (refine AIO.opx rfl (opX_append_str (bytes := 1) 3 Try.underlying22 Try.underlying9 rfl (by kernel_rfl) rfl rfl rfl ?h101 ?h102) ?_; (case h101 => (first | omega | (simp; done) | (simp; omega))); (case h102 => (first | omega | (simp; done) | (simp; omega))))
      rintro _ _ ⟨t30, rfl, rfl⟩
      show AI _ _ _ _ _ #[true, true, true, true, true, true, true, true, true, true, true, true, true, true, true, false, false, false, false, false, false] _
      first | (refine AI.take (i := 15) rfl rfl (by kernel_rfl) (by kernel_rfl) (by kernel_rfl) (fun _ _ h => by obtain ⟨_, _, _, h, _⟩ := h; cases h) (opS_nilCheck_pt rfl) ?_) | (refine AI.take (i := 15) rfl rfl (by kernel_rfl) (by kernel_rfl) (by kernel_rfl) (fun _ _ h => by obtain ⟨_, _, _, h, _⟩ := h; cases h) (opS_nilCheck_cp rfl) ?_) | (refine AI.take (i := 15) rfl rfl (by kernel_rfl) (by kernel_rfl) (by kernel_rfl) (fun _ _ h => by obtain ⟨_, _, _, h, _⟩ := h; cases h) (opS_nilCheck_fn rfl) ?_)
      show AI _ _ _ _ _ #[true, true, true, true, true, true, true, true, true, true, true, true, true, true, true, true, false, false, false, false, false] _
      refine AI.take (i := 16) rfl rfl (by kernel_rfl) (by kernel_rfl) (by kernel_rfl) (fun _ _ h => by obtain ⟨_, _, _, h, _⟩ := h; cases h) (opS_fieldAddr_pt (n := 0) (by kernel_rfl) rfl) ?_
      show AI _ _ _ _ _ #[true, true, true, true, true, true, true, true, true, true, true, true, true, true, true, true, true, false, false, false, false] _
      refine AI.one (i := 17) (by kernel_rfl) rfl rfl ?_
      first | (refine AIO.op0 (opR_store_pt (i := 0) (c := slE _ _ _) (by kernel_rfl) rfl rfl rfl rfl ?h104) ?_; (case h104 => (simp))) | (refine AIO.op0 (opR_store_pt (i := 0) (c := .v _) (by kernel_rfl) rfl rfl rfl rfl ?h105) ?_; (case h105 => (simp))) | (refine AIO.op0 (opR_store_pt (i := 0) (c := .vw _ _ _ _) (by kernel_rfl) rfl rfl rfl rfl ?h106) ?_; (case h106 => (simp))) | (refine AIO.op0 (opR_store_pt (i := 1) (c := slE _ _ _) (by kernel_rfl) rfl rfl rfl rfl ?h107) ?_; (case h107 => (simp))) | (refine AIO.op0 (opR_store_pt (i := 1) (c := .v _) (by kernel_rfl) rfl rfl rfl rfl ?h108) ?_; (case h108 => (simp))) | (refine AIO.op0 (opR_store_pt (i := 1) (c := .vw _ _ _ _) (by kernel_rfl) rfl rfl rfl rfl ?h109) ?_; (case h109 => (simp))) | (refine AIO.op0 (opR_store_pt (i := 2) (c := slE _ _ _) (by kernel_rfl) rfl rfl rfl rfl ?h110) ?_; (case h110 => (simp))) | (refine AIO.op0 (opR_store_pt (i := 2) (c := .v _) (by kernel_rfl) rfl rfl rfl rfl ?h111) ?_; (case h111 => (simp))) | (refine AIO.op0 (opR_store_pt (i := 2) (c := .vw _ _ _ _) (by kernel_rfl) rfl rfl rfl rfl ?h112) ?_; (case h112 => (simp))) | (refine AIO.op0 (opR_store_pt (i := 3) (c := slE _ _ _) (by kernel_rfl) rfl rfl rfl rfl ?h113) ?_; (case h113 => (simp))) | (refine AIO.op0 (opR_store_pt (i := 3) (c := .v _) (by kernel_rfl) rfl rfl rfl rfl ?h114) ?_; (case h114 => (simp))) | (refine AIO.op0 (opR_store_pt (i := 3) (c := .vw _ _ _ _) (by kernel_rfl) rfl rfl rfl rfl ?h115) ?_; (case h115 => (simp)))
      show AI _ _ _ _ _ #[true, true, true, true, true, true, true, true, true, true, true, true, true, true, true, true, true, true, false, false, false] _
      first | (refine AI.take (i := 18) rfl rfl (by kernel_rfl) (by kernel_rfl) (by kernel_rfl) (fun _ _ h => by obtain ⟨_, _, _, h, _⟩ := h; cases h) (opS_nilCheck_pt rfl) ?_) | (refine AI.take (i := 18) rfl rfl (by kernel_rfl) (by kernel_rfl) (by kernel_rfl) (fun _ _ h => by obtain ⟨_, _, _, h, _⟩ := h; cases h) (opS_nilCheck_cp rfl) ?_) | (refine AI.take (i := 18) rfl rfl (by kernel_rfl) (by kernel_rfl) (by kernel_rfl) (fun _ _ h => by obtain ⟨_, _, _, h, _⟩ := h; cases h) (opS_nilCheck_fn rfl) ?_)
      show AI _ _ _ _ _ #[true, true, true, true, true, true, true, true, true, true, true, true, true, true, true, true, true, true, true, false, false] _
      refine AI.take (i := 19) rfl rfl (by kernel_rfl) (by kernel_rfl) (by kernel_rfl) (fun _ _ h => by obtain ⟨_, _, _, h, _⟩ := h; cases h) (opS_fieldAddr_pt (n := 1) (by kernel_rfl) rfl) ?_
      show AI _ _ _ _ _ #[true, true, true, true, true, true, true, true, true, true, true, true, true, true, true, true, true, true, true, true, false] _
      refine AI.one (i := 20) (by kernel_rfl) rfl rfl ?_
      first | (refine AIO.op0 (opR_store_pt (i := 0) (c := .v _) (by kernel_rfl) rfl rfl rfl rfl ?h117) ?_; (case h117 => (simp))) | (refine AIO.op0 (opR_store_pt (i := 1) (c := .v _) (by kernel_rfl) rfl rfl rfl rfl ?h118) ?_; (case h118 => (simp))) | (refine AIO.op0 (opR_store_pt (i := 2) (c := .v _) (by kernel_rfl) rfl rfl rfl rfl ?h119) ?_; (case h119 => (simp))) | (refine AIO.op0 (opR_store_pt (i := 3) (c := .v _) (by kernel_rfl) rfl rfl rfl rfl ?h120) ?_; (case h120 => (simp)))
      show AI _ _ _ _ _ #[true, true, true, true, true, true, true, true, true, true, true, true, true, true, true, true, true, true, true, true, true] _
      refine AI.done rfl ?_
      -- END 3 (end)
      show RetPost _ _ _ _ .normal _
      refine ⟨rfl, _, _, ResV.none rfl, Sub.refl _, rfl, t30, ?_⟩
      first | simp [Qp.put, show 75 < n + s.length by omega] | simp [Qp.put, show ¬ 75 < n + s.length by omega]
  ·
    have c1p := c1; try simp only [decide_eq_true_eq, decide_eq_false_iff_not, Bool.not_eq_true', Bool.not_eq_false', Bool.not_true, Bool.not_false, Bool.not_eq_eq_eq_not] at c1p
    refine AW.skip ?_
    show AW _ _ _ _ _ _
    refine AW.region_draw (by kernel_rfl) ?_
    show AI _ _ _ _ 21 (Array.replicate 21 false) _
    first | (refine AI.take (i := 0) rfl rfl (by kernel_rfl) (by kernel_rfl) (by kernel_rfl) (fun _ _ h => by obtain ⟨_, _, _, h, _⟩ := h; cases h) (opS_move (av := .pt _ _) rfl) ?_) | (refine AI.take (i := 0) rfl rfl (by kernel_rfl) (by kernel_rfl) (by kernel_rfl) (fun _ _ h => by obtain ⟨_, _, _, h, _⟩ := h; cases h) (opS_move (av := .cp _) rfl) ?_) | (refine AI.take (i := 0) rfl rfl (by kernel_rfl) (by kernel_rfl) (by kernel_rfl) (fun _ _ h => by obtain ⟨_, _, _, h, _⟩ := h; cases h) (opS_move (av := .v _) rfl) ?_)
    show AI _ _ _ _ _ #[true, false, false, false, false, false, false, false, false, false, false, false, false, false, false, false, false, false, false, false, false] _
    first | (refine AI.take (i := 1) rfl rfl (by kernel_rfl) (by kernel_rfl) (by kernel_rfl) (fun _ _ h => by obtain ⟨_, _, _, h, _⟩ := h; cases h) (opS_move (av := .pt _ _) rfl) ?_) | (refine AI.take (i := 1) rfl rfl (by kernel_rfl) (by kernel_rfl) (by kernel_rfl) (fun _ _ h => by obtain ⟨_, _, _, h, _⟩ := h; cases h) (opS_move (av := .cp _) rfl) ?_) | (refine AI.take (i := 1) rfl rfl (by kernel_rfl) (by kernel_rfl) (by kernel_rfl) (fun _ _ h => by obtain ⟨_, _, _, h, _⟩ := h; cases h) (opS_move (av := .v _) rfl) ?_)
    show AI _ _ _ _ _ #[true, true, false, false, false, false, false, false, false, false, false, false, false, false, false, false, false, false, false, false, false] _
    first | (refine AI.take (i := 2) rfl rfl (by kernel_rfl) (by kernel_rfl) (by kernel_rfl) (fun _ _ h => by obtain ⟨_, _, _, h, _⟩ := h; cases h) (opS_move (av := .pt _ _) rfl) ?_) | (refine AI.take (i := 2) rfl rfl (by kernel_rfl) (by kernel_rfl) (by kernel_rfl) (fun _ _ h => by obtain ⟨_, _, _, h, _⟩ := h; cases h) (opS_move (av := .cp _) rfl) ?_) | (refine AI.take (i := 2) rfl rfl (by kernel_rfl) (by kernel_rfl) (by kernel_rfl) (fun _ _ h => by obtain ⟨_, _, _, h, _⟩ := h; cases h) (opS_move (av := .v _) rfl) ?_)
    show AI _ _ _ _ _ #[true, true, true, false, false, false, false, false, false, false, false, false, false, false, false, false, false, false, false, false, false] _
    first | (refine AI.take (i := 3) rfl rfl (by kernel_rfl) (by kernel_rfl) (by kernel_rfl) (fun _ _ h => by obtain ⟨_, _, _, h, _⟩ := h; cases h) (opS_nilCheck_pt rfl) ?_) | (refine AI.take (i := 3) rfl rfl (by kernel_rfl) (by kernel_rfl) (by kernel_rfl) (fun _ _ h => by obtain ⟨_, _, _, h, _⟩ := h; cases h) (opS_nilCheck_cp rfl) ?_) | (refine AI.take (i := 3) rfl rfl (by kernel_rfl) (by kernel_rfl) (by kernel_rfl) (fun _ _ h => by obtain ⟨_, _, _, h, _⟩ := h; cases h) (opS_nilCheck_fn rfl) ?_)
    show AI _ _ _ _ _ #[true, true, true, true, false, false, false, false, false, false, false, false, false, false, false, false, false, false, false, false, false] _
    refine AI.take (i := 4) rfl rfl (by kernel_rfl) (by kernel_rfl) (by kernel_rfl) (fun _ _ h => by obtain ⟨_, _, _, h, _⟩ := h; cases h) (opS_fieldAddr_pt (n := 0) (by kernel_rfl) rfl) ?_
    show AI _ _ _ _ _ #[true, true, true, true, true, false, false, false, false, false, false, false, false, false, false, false, false, false, false, false, false] _
    refine AI.take (i := 6) rfl rfl (by kernel_rfl) (by kernel_rfl) (by kernel_rfl) (fun _ _ h => by obtain ⟨_, _, _, h, _⟩ := h; cases h) (opS_move (av := .v _) rfl) ?_
    show AI _ _ _ _ _ #[true, true, true, true, true, false, true, false, false, false, false, false, false, false, false, false, false, false, false, false, false] _
    first | (refine AI.take (i := 8) rfl rfl (by kernel_rfl) (by kernel_rfl) (by kernel_rfl) (fun _ _ h => by obtain ⟨_, _, _, h, _⟩ := h; cases h) (opS_move (av := .pt _ _) rfl) ?_) | (refine AI.take (i := 8) rfl rfl (by kernel_rfl) (by kernel_rfl) (by kernel_rfl) (fun _ _ h => by obtain ⟨_, _, _, h, _⟩ := h; cases h) (opS_move (av := .cp _) rfl) ?_) | (refine AI.take (i := 8) rfl rfl (by kernel_rfl) (by kernel_rfl) (by kernel_rfl) (fun _ _ h => by obtain ⟨_, _, _, h, _⟩ := h; cases h) (opS_move (av := .v _) rfl) ?_)
    show AI _ _ _ _ _ #[true, true, true, true, true, false, true, false, true, false, false, false, false, false, false, false, false, false, false, false, false] _
    first | (refine AI.take (i := 9) rfl rfl (by kernel_rfl) (by kernel_rfl) (by kernel_rfl) (fun _ _ h => by obtain ⟨_, _, _, h, _⟩ := h; cases h) (opS_nilCheck_pt rfl) ?_) | (refine AI.take (i := 9) rfl rfl (by kernel_rfl) (by kernel_rfl) (by kernel_rfl) (fun _ _ h => by obtain ⟨_, _, _, h, _⟩ := h; cases h) (opS_nilCheck_cp rfl) ?_) | (refine AI.take (i := 9) rfl rfl (by kernel_rfl) (by kernel_rfl) (by kernel_rfl) (fun _ _ h => by obtain ⟨_, _, _, h, _⟩ := h; cases h) (opS_nilCheck_fn rfl) ?_)
    show AI _ _ _ _ _ #[true, true, true, true, true, false, true, false, true, true, false, false, false, false, false, false, false, false, false, false, false] _
    refine AI.take (i := 10) rfl rfl (by kernel_rfl) (by kernel_rfl) (by kernel_rfl) (fun _ _ h => by obtain ⟨_, _, _, h, _⟩ := h; cases h) (opS_fieldAddr_pt (n := 1) (by kernel_rfl) rfl) ?_
    show AI _ _ _ _ _ #[true, true, true, true, true, false, true, false, true, true, true, false, false, false, false, false, false, false, false, false, false] _
    refine AI.take (i := 12) rfl rfl (by kernel_rfl) (by kernel_rfl) (by kernel_rfl) (fun _ _ h => by obtain ⟨_, _, _, h, _⟩ := h; cases h) (opS_move (av := .v _) rfl) ?_
    show AI _ _ _ _ _ #[true, true, true, true, true, false, true, false, true, true, true, false, true, false, false, false, false, false, false, false, false] _
    refine AI.take (i := 13) rfl rfl (by kernel_rfl) (by kernel_rfl) (by kernel_rfl) (fun _ _ h => by obtain ⟨_, _, _, h, _⟩ := h; cases h) (opS_len_str Try.underlying9 rfl) ?_
    show AI _ _ _ _ _ #[true, true, true, true, true, false, true, false, true, true, true, false, true, true, false, false, false, false, false, false, false] _
    refine AI.two (i := 5) (j := 11) (by kernel_rfl) rfl rfl rfl rfl ?_ ?_
    ·
      first | refine AIO.op rfl (opR_load_pt (i := 0) Try.underlying22 rfl rfl rfl rfl) ?_ | refine AIO.op rfl (opR_load_pt (i := 1) Try.underlying22 rfl rfl rfl rfl) ?_ | refine AIO.op rfl (opR_load_pt (i := 2) Try.underlying22 rfl rfl rfl rfl) ?_ | refine AIO.op rfl (opR_load_pt (i := 3) Try.underlying22 rfl rfl rfl rfl) ?_
      show AI _ _ _ _ _ #[true, true, true, true, true, true, true, false, true, true, true, false, true, true, false, false, false, false, false, false, false] _
      refine AI.two (i := 7) (j := 11) (by kernel_rfl) rfl rfl rfl rfl ?_ ?_
      ·
        first | (refine AIO.opx rfl (opX_append_str (bytes := 1) 0 Try.underlying22 Try.underlying9 rfl (by kernel_rfl) rfl rfl rfl ?h123 ?h124) ?_; (case h123 => (first | omega | (simp; done) | (simp; omega))); (case h124 => (first | omega | (simp; done) | (simp; omega)))) | (refine AIO.opx rfl (opX_append_str (bytes := 1) 1 Try.underlying22 Try.underlying9 rfl (by kernel_rfl) rfl rfl rfl ?h125 ?h126) ?_; (case h125 => (first | omega | (simp; done) | (simp; omega))); (case h126 => (first | omega | (simp; done) | (simp; omega)))) | (refine AIO.opx rfl (opX_append_str (bytes := 1) 2 Try.underlying22 Try.underlying9 rfl (by kernel_rfl) rfl rfl rfl ?h127 ?h128) ?_; (case h127 => (first | omega | (simp; done) | (simp; omega))); (case h128 => (first | omega | (simp; done) | (simp; omega)))) | (refine AIO.opx rfl (opX_append_str (bytes := 1) 3 Try.underlying22 Try.underlying9 rfl (by kernel_rfl) rfl rfl rfl ?h129 ?h130) ?_; (case h129 => (first | omega | (simp; done) | (simp; omega))); (case h130 => (first | omega | (simp; done) | (simp; omega))))
        rintro _ _ ⟨t30, rfl, rfl⟩
        show AI _ _ _ _ _ #[true, true, true, true, true, true, true, true, true, true, true, false, true, true, false, false, false, false, false, false, false] _
        refine AI.one (i := 11) (by kernel_rfl) rfl rfl ?_
        first | refine AIO.op rfl (opR_load_pt (i := 0) Try.underlying3 rfl rfl rfl rfl) ?_ | refine AIO.op rfl (opR_load_pt (i := 1) Try.underlying3 rfl rfl rfl rfl) ?_ | refine AIO.op rfl (opR_load_pt (i := 2) Try.underlying3 rfl rfl rfl rfl) ?_ | refine AIO.op rfl (opR_load_pt (i := 3) Try.underlying3 rfl rfl rfl rfl) ?_
        show AI _ _ _ _ _ #[true, true, true, true, true, true, true, true, true, true, true, true, true, true, false, false, false, false, false, false, false] _
        refine AI.take (i := 14) rfl rfl (by kernel_rfl) (by kernel_rfl) (by kernel_rfl) (fun _ _ h => by obtain ⟨_, _, _, h, _⟩ := h; cases h) (opS_add rfl rfl ?h132) ?_; (case h132 => (omega))
        show AI _ _ _ _ _ #[true, true, true, true, true, true, true, true, true, true, true, true, true, true, true, false, false, false, false, false, false] _
        first | (refine AI.take (i := 15) rfl rfl (by kernel_rfl) (by kernel_rfl) (by kernel_rfl) (fun _ _ h => by obtain ⟨_, _, _, h, _⟩ := h; cases h) (opS_nilCheck_pt rfl) ?_) | (refine AI.take (i := 15) rfl rfl (by kernel_rfl) (by kernel_rfl) (by kernel_rfl) (fun _ _ h => by obtain ⟨_, _, _, h, _⟩ := h; cases h) (opS_nilCheck_cp rfl) ?_) | (refine AI.take (i := 15) rfl rfl (by kernel_rfl) (by kernel_rfl) (by kernel_rfl) (fun _ _ h => by obtain ⟨_, _, _, h, _⟩ := h; cases h) (opS_nilCheck_fn rfl) ?_)
        show AI _ _ _ _ _ #[true, true, true, true, true, true, true, true, true, true, true, true, true, true, true, true, false, false, false, false, false] _
        refine AI.take (i := 16) rfl rfl (by kernel_rfl) (by kernel_rfl) (by kernel_rfl) (fun _ _ h => by obtain ⟨_, _, _, h, _⟩ := h; cases h) (opS_fieldAddr_pt (n := 0) (by kernel_rfl) rfl) ?_
        show AI _ _ _ _ _ #[true, true, true, true, true, true, true, true, true, true, true, true, true, true, true, true, true, false, false, false, false] _
        refine AI.one (i := 17) (by kernel_rfl) rfl rfl ?_
        first | (refine AIO.op0 (opR_store_pt (i := 0) (c := slE _ _ _) (by kernel_rfl) rfl rfl rfl rfl ?h134) ?_; (case h134 => (simp))) | (refine AIO.op0 (opR_store_pt (i := 0) (c := .v _) (by kernel_rfl) rfl rfl rfl rfl ?h135) ?_; (case h135 => (simp))) | (refine AIO.op0 (opR_store_pt (i := 0) (c := .vw _ _ _ _) (by kernel_rfl) rfl rfl rfl rfl ?h136) ?_; (case h136 => (simp))) | (refine AIO.op0 (opR_store_pt (i := 1) (c := slE _ _ _) (by kernel_rfl) rfl rfl rfl rfl ?h137) ?_; (case h137 => (simp))) | (refine AIO.op0 (opR_store_pt (i := 1) (c := .v _) (by kernel_rfl) rfl rfl rfl rfl ?h138) ?_; (case h138 => (simp))) | (refine AIO.op0 (opR_store_pt (i := 1) (c := .vw _ _ _ _) (by kernel_rfl) rfl rfl rfl rfl ?h139) ?_; (case h139 => (simp))) | (refine AIO.op0 (opR_store_pt (i := 2) (c := slE _ _ _) (by kernel_rfl) rfl rfl rfl rfl ?h140) ?_; (case h140 => (simp))) | (refine AIO.op0 (opR_store_pt (i := 2) (c := .v _) (by kernel_rfl) rfl rfl rfl rfl ?h141) ?_; (case h141 => (simp))) | (refine AIO.op0 (opR_store_pt (i := 2) (c := .vw _ _ _ _) (by kernel_rfl) rfl rfl rfl rfl ?h142) ?_; (case h142 => (simp))) | (refine AIO.op0 (opR_store_pt (i := 3) (c := slE _ _ _) (by kernel_rfl) rfl rfl rfl rfl ?h143) ?_; (case h143 => (simp))) | (refine AIO.op0 (opR_store_pt (i := 3) (c := .v _) (by kernel_rfl) rfl rfl rfl rfl ?h144) ?_; (case h144 => (simp))) | (refine AIO.op0 (opR_store_pt (i := 3) (c := .vw _ _ _ _) (by kernel_rfl) rfl rfl rfl rfl ?h145) ?_; (case h145 => (simp)))
        show AI _ _ _ _ _ #[true, true, true, true, true, true, true, true, true, true, true, true, true, true, true, true, true, true, false, false, false] _
        first | (refine AI.take (i := 18) rfl rfl (by kernel_rfl) (by kernel_rfl) (by kernel_rfl) (fun _ _ h => by obtain ⟨_, _, _, h, _⟩ := h; cases h) (opS_nilCheck_pt rfl) ?_) | (refine AI.take (i := 18) rfl rfl (by kernel_rfl) (by kernel_rfl) (by kernel_rfl) (fun _ _ h => by obtain ⟨_, _, _, h, _⟩ := h; cases h) (opS_nilCheck_cp rfl) ?_) | (refine AI.take (i := 18) rfl rfl (by kernel_rfl) (by kernel_rfl) (by kernel_rfl) (fun _ _ h => by obtain ⟨_, _, _, h, _⟩ := h; cases h) (opS_nilCheck_fn rfl) ?_)
        show AI _ _ _ _ _ #[true, true, true, true, true, true, true, true, true, true, true, true, true, true, true, true, true, true, true, false, false] _
        refine AI.take (i := 19) rfl rfl (by kernel_rfl) (by kernel_rfl) (by kernel_rfl) (fun _ _ h => by obtain ⟨_, _, _, h, _⟩ := h; cases h) (opS_fieldAddr_pt (n := 1) (by kernel_rfl) rfl) ?_
        show AI _ _ _ _ _ #[true, true, true, true, true, true, true, true, true, true, true, true, true, true, true, true, true, true, true, true, false] _
        refine AI.one (i := 20) (by kernel_rfl) rfl rfl ?_
        first | (refine AIO.op0 (opR_store_pt (i := 0) (c := .v _) (by kernel_rfl) rfl rfl rfl rfl ?h147) ?_; (case h147 => (simp))) | (refine AIO.op0 (opR_store_pt (i := 1) (c := .v _) (by kernel_rfl) rfl rfl rfl rfl ?h148) ?_; (case h148 => (simp))) | (refine AIO.op0 (opR_store_pt (i := 2) (c := .v _) (by kernel_rfl) rfl rfl rfl rfl ?h149) ?_; (case h149 => (simp))) | (refine AIO.op0 (opR_store_pt (i := 3) (c := .v _) (by kernel_rfl) rfl rfl rfl rfl ?h150) ?_; (case h150 => (simp)))
        show AI _ _ _ _ _ #[true, true, true, true, true, true, true, true, true, true, true, true, true, true, true, true, true, true, true, true, true] _
        refine AI.done rfl ?_
        -- END 4 (end)
        show RetPost _ _ _ _ .normal _
        refine ⟨rfl, _, _, ResV.none rfl, Sub.refl _, rfl, t30, ?_⟩
        first | simp [Qp.put, show 75 < n + s.length by omega] | simp [Qp.put, show ¬ 75 < n + s.length by omega]
      ·
        first | refine AIO.op rfl (opR_load_pt (i := 0) Try.underlying3 rfl rfl rfl rfl) ?_ | refine AIO.op rfl (opR_load_pt (i := 1) Try.underlying3 rfl rfl rfl rfl) ?_ | refine AIO.op rfl (opR_load_pt (i := 2) Try.underlying3 rfl rfl rfl rfl) ?_ | refine AIO.op rfl (opR_load_pt (i := 3) Try.underlying3 rfl rfl rfl rfl) ?_
        show AI _ _ _ _ _ #[true, true, true, true, true, true, true, false, true, true, true, true, true, true, false, false, false, false, false, false, false] _
        refine AI.take (i := 14) rfl rfl (by kernel_rfl) (by kernel_rfl) (by kernel_rfl) (fun _ _ h => by obtain ⟨_, _, _, h, _⟩ := h; cases h) (opS_add rfl rfl ?h152) ?_; (case h152 => (omega))
        show AI _ _ _ _ _ #[true, true, true, true, true, true, true, false, true, true, true, true, true, true, true, false, false, false, false, false, false] _
        refine AI.one (i := 7) (by kernel_rfl) rfl rfl ?_
        first | (refine AIO.opx rfl (opX_append_str (bytes := 1) 0 Try.underlying22 Try.underlying9 rfl (by kernel_rfl) rfl rfl rfl ?h155 ?h156) ?_; (case h155 => (first | omega | (simp; done) | (simp; omega))); (case h156 => (first | omega | (simp; done) | (simp; omega)))) | (refine AIO.opx rfl (opX_append_str (bytes := 1) 1 Try.underlying22 Try.underlying9 rfl (by kernel_rfl) rfl rfl rfl ?h157 ?h158) ?_; (case h157 => (first | omega | (simp; done) | (simp; omega))); (case h158 => (first | omega | (simp; done) | (simp; omega)))) | (refine AIO.opx rfl (opX_append_str (bytes := 1) 2 Try.underlying22 Try.underlying9 rfl (by kernel_rfl) rfl rfl rfl ?h159 ?h160) ?_; (case h159 => (first | omega | (simp; done) | (simp; omega))); (case h160 => (first | omega | (simp; done) | (simp; omega)))) | (refine AIO.opx rfl (opX_append_str (bytes := 1) 3 Try.underlying22 Try.underlying9 rfl (by kernel_rfl) rfl rfl rfl ?h161 ?h162) ?_; (case h161 => (first | omega | (simp; done) | (simp; omega))); (case h162 => (first | omega | (simp; done) | (simp; omega))))
        rintro _ _ ⟨t30, rfl, rfl⟩
        show AI _ _ _ _ _ #[true, true, true, true, true, true, true, true, true, true, true, true, true, true, true, false, false, false, false, false, false] _
        first | (refine AI.take (i := 15) rfl rfl (by kernel_rfl) (by kernel_rfl) (by kernel_rfl) (fun _ _ h => by obtain ⟨_, _, _, h, _⟩ := h; cases h) (opS_nilCheck_pt rfl) ?_) | (refine AI.take (i := 15) rfl rfl (by kernel_rfl) (by kernel_rfl) (by kernel_rfl) (fun _ _ h => by obtain ⟨_, _, _, h, _⟩ := h; cases h) (opS_nilCheck_cp rfl) ?_) | (refine AI.take (i := 15) rfl rfl (by kernel_rfl) (by kernel_rfl) (by kernel_rfl) (fun _ _ h => by obtain ⟨_, _, _, h, _⟩ := h; cases h) (opS_nilCheck_fn rfl) ?_)
        show AI _ _ _ _ _ #[true, true, true, true, true, true, true, true, true, true, true, true, true, true, true, true, false, false, false, false, false] _
        refine AI.take (i := 16) rfl rfl (by kernel_rfl) (by kernel_rfl) (by kernel_rfl) (fun _ _ h => by obtain ⟨_, _, _, h, _⟩ := h; cases h) (opS_fieldAddr_pt (n := 0) (by kernel_rfl) rfl) ?_
        show AI _ _ _ _ _ #[true, true, true, true, true, true, true, true, true, true, true, true, true, true, true, true, true, false, false, false, false] _
        refine AI.one (i := 17) (by kernel_rfl) rfl rfl ?_
        first | (refine AIO.op0 (opR_store_pt (i := 0) (c := slE _ _ _) (by kernel_rfl) rfl rfl rfl rfl ?h164) ?_; (case h164 => (simp))) | (refine AIO.op0 (opR_store_pt (i := 0) (c := .v _) (by kernel_rfl) rfl rfl rfl rfl ?h165) ?_; (case h165 => (simp))) | (refine AIO.op0 (opR_store_pt (i := 0) (c := .vw _ _ _ _) (by kernel_rfl) rfl rfl rfl rfl ?h166) ?_; (case h166 => (simp))) | (refine AIO.op0 (opR_store_pt (i := 1) (c := slE _ _ _) (by kernel_rfl) rfl rfl rfl rfl ?h167) ?_; (case h167 => (simp))) | (refine AIO.op0 (opR_store_pt (i := 1) (c := .v _) (by kernel_rfl) rfl rfl rfl rfl ?h168) ?_; (case h168 => (simp))) | (refine AIO.op0 (opR_store_pt (i := 1) (c := .vw _ _ _ _) (by kernel_rfl) rfl rfl rfl rfl ?h169) ?_; (case h169 => (simp))) | (refine AIO.op0 (opR_store_pt (i := 2) (c := slE _ _ _) (by kernel_rfl) rfl rfl rfl rfl ?h170) ?_; (case h170 => (simp))) | (refine AIO.op0 (opR_store_pt (i := 2) (c := .v _) (by kernel_rfl) rfl rfl rfl rfl ?h171) ?_; (case h171 => (simp))) | (refine AIO.op0 (opR_store_pt (i := 2) (c := .vw _ _ _ _) (by kernel_rfl) rfl rfl rfl rfl ?h172) ?_; (case h172 => (simp))) | (refine AIO.op0 (opR_store_pt (i := 3) (c := slE _ _ _) (by kernel_rfl) rfl rfl rfl rfl ?h173) ?_; (case h173 => (simp))) | (refine AIO.op0 (opR_store_pt (i := 3) (c := .v _) (by kernel_rfl) rfl rfl rfl rfl ?h174) ?_; (case h174 => (simp))) | (refine AIO.op0 (opR_store_pt (i := 3) (c := .vw _ _ _ _) (by kernel_rfl) rfl rfl rfl rfl ?h175) ?_; (case h175 => (simp)))
        show AI _ _ _ _ _ #[true, true, true, true, true, true, true, true, true, true, true, true, true, true, true, true, true, true, false, false, false] _
        first | (refine AI.take (i := 18) rfl rfl (by kernel_rfl) (by kernel_rfl) (by kernel_rfl) (fun _ _ h => by obtain ⟨_, _, _, h, _⟩ := h; cases h) (opS_nilCheck_pt rfl) ?_) | (refine AI.take (i := 18) rfl rfl (by kernel_rfl) (by kernel_rfl) (by kernel_rfl) (fun _ _ h => by obtain ⟨_, _, _, h, _⟩ := h; cases h) (opS_nilCheck_cp rfl) ?_) | (refine AI.take (i := 18) rfl rfl (by kernel_rfl) (by kernel_rfl) (by kernel_rfl) (fun _ _ h => by obtain ⟨_, _, _, h, _⟩ := h; cases h) (opS_nilCheck_fn rfl) ?_)
        show AI _ _ _ _ _ #[true, true, true, true, true, true, true, true, true, true, true, true, true, true, true, true, true, true, true, false, false] _
        refine AI.take (i := 19) rfl rfl (by kernel_rfl) (by kernel_rfl) (by kernel_rfl) (fun _ _ h => by obtain ⟨_, _, _, h, _⟩ := h; cases h) (opS_fieldAddr_pt (n := 1) (by kernel_rfl) rfl) ?_
        show AI _ _ _ _ _ #[true, true, true, true, true, true, true, true, true, true, true, true, true, true, true, true, true, true, true, true, false] _
        refine AI.one (i := 20) (by kernel_rfl) rfl rfl ?_
        first | (refine AIO.op0 (opR_store_pt (i := 0) (c := .v _) (by kernel_rfl) rfl rfl rfl rfl ?h177) ?_; (case h177 => (simp))) | (refine AIO.op0 (opR_store_pt (i := 1) (c := .v _) (by kernel_rfl) rfl rfl rfl rfl ?h178) ?_; (case h178 => (simp))) | (refine AIO.op0 (opR_store_pt (i := 2) (c := .v _) (by kernel_rfl) rfl rfl rfl rfl ?h179) ?_; (case h179 => (simp))) | (refine AIO.op0 (opR_store_pt (i := 3) (c := .v _) (by kernel_rfl) rfl rfl rfl rfl ?h180) ?_; (case h180 => (simp)))
        show AI _ _ _ _ _ #[true, true, true, true, true, true, true, true, true, true, true, true, true, true, true, true, true, true, true, true, true] _
        refine AI.done rfl ?_
        -- END 5 (end)
        show RetPost _ _ _ _ .normal _
        refine ⟨rfl, _, _, ResV.none rfl, Sub.refl _, rfl, t30, ?_⟩
        first | simp [Qp.put, show 75 < n + s.length by omega] | simp [Qp.put, show ¬ 75 < n + s.length by omega]
    ·
      first | refine AIO.op rfl (opR_load_pt (i := 0) Try.underlying3 rfl rfl rfl rfl) ?_ | refine AIO.op rfl (opR_load_pt (i := 1) Try.underlying3 rfl rfl rfl rfl) ?_ | refine AIO.op rfl (opR_load_pt (i := 2) Try.underlying3 rfl rfl rfl rfl) ?_ | refine AIO.op rfl (opR_load_pt (i := 3) Try.underlying3 rfl rfl rfl rfl) ?_
      show AI _ _ _ _ _ #[true, true, true, true, true, false, true, false, true, true, true, true, true, true, false, false, false, false, false, false, false] _
      refine AI.take (i := 14) rfl rfl (by kernel_rfl) (by kernel_rfl) (by kernel_rfl) (fun _ _ h => by obtain ⟨_, _, _, h, _⟩ := h; cases h) (opS_add rfl rfl ?h182) ?_; (case h182 => (omega))
      show AI _ _ _ _ _ #[true, true, true, true, true, false, true, false, true, true, true, true, true, true, true, false, false, false, false, false, false] _
      refine AI.one (i := 5) (by kernel_rfl) rfl rfl ?_
      first | refine AIO.op rfl (opR_load_pt (i := 0) Try.underlying22 rfl rfl rfl rfl) ?_ | refine AIO.op rfl (opR_load_pt (i := 1) Try.underlying22 rfl rfl rfl rfl) ?_ | refine AIO.op rfl (opR_load_pt (i := 2) Try.underlying22 rfl rfl rfl rfl) ?_ | refine AIO.op rfl (opR_load_pt (i := 3) Try.underlying22 rfl rfl rfl rfl) ?_
      show AI _ _ _ _ _ #[true, true, true, true, true, true, true, false, true, true, true, true, true, true, true, false, false, false, false, false, false] _
      refine AI.one (i := 7) (by kernel_rfl) rfl rfl ?_
      first | (refine AIO.opx rfl (opX_append_str (bytes := 1) 0 Try.underlying22 Try.underlying9 rfl (by kernel_rfl) rfl rfl rfl ?h185 ?h186) ?_; (case h185 => (first | omega | (simp; done) | (simp; omega))); (case h186 => (first | omega | (simp; done) | (simp; omega)))) | (refine AIO.opx rfl (opX_append_str (bytes := 1) 1 Try.underlying22 Try.underlying9 rfl (by kernel_rfl) rfl rfl rfl ?h187 ?h188) ?_; (case h187 => (first | omega | (simp; done) | (simp; omega))); (case h188 => (first | omega | (simp; done) | (simp; omega)))) | (refine AIO.opx rfl (opX_append_str (bytes := 1) 2 Try.underlying22 Try.underlying9 rfl (by kernel_rfl) rfl rfl rfl ?h189 ?h190) ?_; (case h189 => (first | omega | (simp; done) | (simp; omega))); (case h190 => (first | omega | (simp; done) | (simp; omega)))) | (refine AIO.opx rfl (opX_append_str (bytes := 1) 3 Try.underlying22 Try.underlying9 rfl (by kernel_rfl) rfl rfl rfl ?h191 ?h192) ?_; (case h191 => (first | omega | (simp; done) | (simp; omega))); (case h192 => (first | omega | (simp; done) | (simp; omega))))
      rintro _ _ ⟨t30, rfl, rfl⟩
      show AI _ _ _ _ _ #[true, true, true, true, true, true, true, true, true, true, true, true, true, true, true, false, false, false, false, false, false] _
      first | (refine AI.take (i := 15) rfl rfl (by kernel_rfl) (by kernel_rfl) (by kernel_rfl) (fun _ _ h => by obtain ⟨_, _, _, h, _⟩ := h; cases h) (opS_nilCheck_pt rfl) ?_) | (refine AI.take (i := 15) rfl rfl (by kernel_rfl) (by kernel_rfl) (by kernel_rfl) (fun _ _ h => by obtain ⟨_, _, _, h, _⟩ := h; cases h) (opS_nilCheck_cp rfl) ?_) | (refine AI.take (i := 15) rfl rfl (by kernel_rfl) (by kernel_rfl) (by kernel_rfl) (fun _ _ h => by obtain ⟨_, _, _, h, _⟩ := h; cases h) (opS_nilCheck_fn rfl) ?_)
      show AI _ _ _ _ _ #[true, true, true, true, true, true, true, true, true, true, true, true, true, true, true, true, false, false, false, false, false] _
      refine AI.take (i := 16) rfl rfl (by kernel_rfl) (by kernel_rfl) (by kernel_rfl) (fun _ _ h => by obtain ⟨_, _, _, h, _⟩ := h; cases h) (opS_fieldAddr_pt (n := 0) (by kernel_rfl) rfl) ?_
      show AI _ _ _ _ _ #[true, true, true, true, true, true, true, true, true, true, true, true, true, true, true, true, true, false, false, false, false] _
      refine AI.one (i := 17) (by kernel_rfl) rfl rfl ?_
      first | (refine AIO.op0 (opR_store_pt (i := 0) (c := slE _ _ _) (by kernel_rfl) rfl rfl rfl rfl ?h194) ?_; (case h194 => (simp))) | (refine AIO.op0 (opR_store_pt (i := 0) (c := .v _) (by kernel_rfl) rfl rfl rfl rfl ?h195) ?_; (case h195 => (simp))) | (refine AIO.op0 (opR_store_pt (i := 0) (c := .vw _ _ _ _) (by kernel_rfl) rfl rfl rfl rfl ?h196) ?_; (case h196 => (simp))) | (refine AIO.op0 (opR_store_pt (i := 1) (c := slE _ _ _) (by kernel_rfl) rfl rfl rfl rfl ?h197) ?_; (case h197 => (simp))) | (refine AIO.op0 (opR_store_pt (i := 1) (c := .v _) (by kernel_rfl) rfl rfl rfl rfl ?h198) ?_; (case h198 => (simp))) | (refine AIO.op0 (opR_store_pt (i := 1) (c := .vw _ _ _ _) (by kernel_rfl) rfl rfl rfl rfl ?h199) ?_; (case h199 => (simp))) | (refine AIO.op0 (opR_store_pt (i := 2) (c := slE _ _ _) (by kernel_rfl) rfl rfl rfl rfl ?h200) ?_; (case h200 => (simp))) | (refine AIO.op0 (opR_store_pt (i := 2) (c := .v _) (by kernel_rfl) rfl rfl rfl rfl ?h201) ?_; (case h201 => (simp))) | (refine AIO.op0 (opR_store_pt (i := 2) (c := .vw _ _ _ _) (by kernel_rfl) rfl rfl rfl rfl ?h202) ?_; (case h202 => (simp))) | (refine AIO.op0 (opR_store_pt (i := 3) (c := slE _ _ _) (by kernel_rfl) rfl rfl rfl rfl ?h203) ?_; (case h203 => (simp))) | (refine AIO.op0 (opR_store_pt (i := 3) (c := .v _) (by kernel_rfl) rfl rfl rfl rfl ?h204) ?_; (case h204 => (simp))) | (refine AIO.op0 (opR_store_pt (i := 3) (c := .vw _ _ _ _) (by kernel_rfl) rfl rfl rfl rfl ?h205) ?_; (case h205 => (simp)))
      show AI _ _ _ _ _ #[true, true, true, true, true, true, true, true, true, true, true, true, true, true, true, true, true, true, false, false, false] _
      first | (refine AI.take (i := 18) rfl rfl (by kernel_rfl) (by kernel_rfl) (by kernel_rfl) (fun _ _ h => by obtain ⟨_, _, _, h, _⟩ := h; cases h) (opS_nilCheck_pt rfl) ?_) | (refine AI.take (i := 18) rfl rfl (by kernel_rfl) (by kernel_rfl) (by kernel_rfl) (fun _ _ h => by obtain ⟨_, _, _, h, _⟩ := h; cases h) (opS_nilCheck_cp rfl) ?_) | (refine AI.take (i := 18) rfl rfl (by kernel_rfl) (by kernel_rfl) (by kernel_rfl) (fun _ _ h => by obtain ⟨_, _, _, h, _⟩ := h; cases h) (opS_nilCheck_fn rfl) ?_)
      show AI _ _ _ _ _ #[true, true, true, true, true, true, true, true, true, true, true, true, true, true, true, true, true, true, true, false, false] _
      refine AI.take (i := 19) rfl rfl (by kernel_rfl) (by kernel_rfl) (by kernel_rfl) (fun _ _ h => by obtain ⟨_, _, _, h, _⟩ := h; cases h) (opS_fieldAddr_pt (n := 1) (by kernel_rfl) rfl) ?_
      show AI _ _ _ _ _ #[true, true, true, true, true, true, true, true, true, true, true, true, true, true, true, true, true, true, true, true, false] _
      refine AI.one (i := 20) (by kernel_rfl) rfl rfl ?_
      first | (refine AIO.op0 (opR_store_pt (i := 0) (c := .v _) (by kernel_rfl) rfl rfl rfl rfl ?h207) ?_; (case h207 => (simp))) | (refine AIO.op0 (opR_store_pt (i := 1) (c := .v _) (by kernel_rfl) rfl rfl rfl rfl ?h208) ?_; (case h208 => (simp))) | (refine AIO.op0 (opR_store_pt (i := 2) (c := .v _) (by kernel_rfl) rfl rfl rfl rfl ?h209) ?_; (case h209 => (simp))) | (refine AIO.op0 (opR_store_pt (i := 3) (c := .v _) (by kernel_rfl) rfl rfl rfl rfl ?h210) ?_; (case h210 => (simp)))
      show AI _ _ _ _ _ #[true, true, true, true, true, true, true, true, true, true, true, true, true, true, true, true, true, true, true, true, true] _
      refine AI.done rfl ?_
      -- END 6 (end)
      show RetPost _ _ _ _ .normal _
      refine ⟨rfl, _, _, ResV.none rfl, Sub.refl _, rfl, t30, ?_⟩
      first | simp [Qp.put, show 75 < n + s.length by omega] | simp [Qp.put, show ¬ 75 < n + s.length by omega]

/-! qp.code -/
set_option maxRecDepth 100000 in
set_option maxHeartbeats 1000000 in
theorem qp_code (c : UInt8) (r : List UInt8) (t : Option Nat) :
    ACalls Try.prog 18 [u8 c, slE Enc.byte r t] [] (Ret (S (Qp.code c r)) []) := by
  refine ACalls.of_body Try.func18 rfl rfl ?_
  show AW _ _ 47 _ _ _
  refine AW.seq ?_
  refine AW.region ?_
  show AR _ _ _ _ _ [0] _
  refine AR.run rfl rfl ?_
  refine AO.ops rfl rfl (opS_assign (av := .v _) rfl) ?_
  refine AR.nil ?_
  show AW _ _ _ _ _ _
  refine AW.cut (X := Unit) (fun _ => ⟨[(0, u8 c), (1, slE Enc.byte r t), (5, B (decide (c.toNat = 32 ∨ c.toNat = 9)))], [], []⟩) (fun _ => True) ?_ ?_
  ·
    refine AW.region ?_
    show AR _ _ _ _ _ [0, 1, 2, 3, 4, 5, 6] _
    refine AR.run rfl rfl ?_
    refine AO.ops rfl rfl (opS_move (av := .v _) rfl) ?_
    refine AR.run rfl rfl ?_
    refine AO.ops rfl rfl (opS_eqi rfl rfl) ?_
    refine AR.run rfl rfl ?_
    refine AO.ops rfl rfl (opS_move (av := .v _) rfl) ?_
    refine AR.guard rfl rfl rfl rfl rfl (fun g1 => ?_) (fun g1 d hd => ?_) (fun h => by cases h)
    ·
      have g1p := g1; try simp only [decide_eq_true_eq, decide_eq_false_iff_not, Bool.not_eq_true', Bool.not_eq_false', Bool.not_true, Bool.not_false, Bool.not_eq_eq_eq_not] at g1p
      refine AO.ops rfl rfl (opS_move (av := .v _) rfl) ?_
      refine AR.guard rfl rfl rfl rfl rfl (fun _ => ?_) (fun hx => bool_no hx g1) (fun h => by cases h)
      refine AO.ops rfl rfl (opS_eqi rfl rfl) ?_
      refine AR.run rfl rfl ?_
      refine AO.ops rfl rfl (opS_pick_f (av := .v _) rfl g1 rfl) ?_
      refine AR.run rfl rfl ?_
      refine AO.ops rfl rfl (opS_assign (av := .v _) rfl) ?_
      refine AR.nil ?_
      -- END 1 (cut1)
      refine ⟨(), ?_, ?_⟩
      · trivial
      · refine WK.env (Env.le.cons ?_ (Env.le.cons ?_ (Env.le.cons ?_ (Env.le.nil _)))) ?_
        all_goals first | exact Sub.refl _ | exact Sub.nil _ | ((repeat (first | exact Sub.refl _ | exact Sub.nil _ | refine Sub.cons _ ?_ | refine Sub.skip _ ?_)); done) | exact Wv.refl _ | exact Wv.any _ | exact Wv.tok _ _ _ | exact Wv.nil _ | (refine Wv.of_eq ?_; first | rfl | exact i64_congr (by omega) | (refine B_congr ?_; rw [Bool.eq_iff_iff]; simp; omega))
    ·
      cases hd; refine ⟨rfl, ?_⟩
      have g1p := g1; try simp only [decide_eq_true_eq, decide_eq_false_iff_not, Bool.not_eq_true', Bool.not_eq_false', Bool.not_true, Bool.not_false, Bool.not_eq_eq_eq_not] at g1p
      refine AR.guard rfl rfl rfl rfl rfl (fun hx => bool_no g1 hx) (fun _ d hd => ?_) (fun h => by cases h)
      cases hd; refine ⟨rfl, ?_⟩
      refine AR.run rfl rfl ?_
      refine AO.ops rfl rfl (opS_pick_t (av := .v _) rfl g1 rfl) ?_
      refine AR.run rfl rfl ?_
      refine AO.ops rfl rfl (opS_assign (av := .v _) rfl) ?_
      refine AR.nil ?_
      -- END 2 (cut1)
      refine ⟨(), ?_, ?_⟩
      · trivial
      · refine WK.env (Env.le.cons ?_ (Env.le.cons ?_ (Env.le.cons ?_ (Env.le.nil _)))) ?_
        all_goals first | exact Sub.refl _ | exact Sub.nil _ | ((repeat (first | exact Sub.refl _ | exact Sub.nil _ | refine Sub.cons _ ?_ | refine Sub.skip _ ?_)); done) | exact Wv.refl _ | exact Wv.any _ | exact Wv.tok _ _ _ | exact Wv.nil _ | (refine Wv.of_eq ?_; first | rfl | exact i64_congr (by omega) | (refine B_congr ?_; rw [Bool.eq_iff_iff]; simp; omega))
  · rintro _ _
    show AW _ _ _ _ _ _
    refine AW.seq ?_
    refine AW.cut (X := Unit) (fun _ => ⟨[(0, u8 c), (35, B (Qp.plainB c r))], [], []⟩) (fun _ => True) ?_ ?_
    ·
      refine AW.region ?_
      show AR _ _ _ _ _ [0, 1, 2, 3, 4, 5, 6, 7, 8, 9, 10, 11, 12, 13, 14, 15, 16, 17, 18, 19, 20, 21, 22, 23] _
      refine AR.run rfl rfl ?_
      refine AO.ops rfl rfl (opS_move (av := .v _) rfl) ?_
      refine AR.run rfl rfl ?_
      refine AO.ops rfl rfl (opS_move (av := .v _) rfl) ?_
      refine AR.guard rfl rfl rfl rfl rfl (fun g2 => ?_) (fun g2 d hd => ?_) (fun h => by cases h)
      ·
        have g2p := g2; try simp only [decide_eq_true_eq, decide_eq_false_iff_not, Bool.not_eq_true', Bool.not_eq_false', Bool.not_true, Bool.not_false, Bool.not_eq_eq_eq_not] at g2p
        first | (refine AO.ops rfl rfl (opS_move (av := slE _ _ _) rfl) ?_) | (refine AO.ops rfl rfl (opS_move (av := .v _) rfl) ?_) | (refine AO.ops rfl rfl (opS_move (av := .vw _ _ _ _) rfl) ?_)
        refine AR.guard rfl rfl rfl rfl rfl (fun _ => ?_) (fun hx => bool_no g2 hx) (fun h => by cases h)
        first | (refine AO.ops rfl rfl (opS_len_sl Try.underlying22 rfl) ?_) | (refine AO.ops rfl rfl (opS_len_nil Try.underlying22 rfl) ?_)
        refine AR.guard rfl rfl rfl rfl rfl (fun _ => ?_) (fun hx => bool_no g2 hx) (fun h => by cases h)
        refine AO.ops rfl rfl (opS_gt rfl rfl) ?_
        refine AR.run rfl rfl ?_
        refine AO.ops rfl rfl (opS_pick_t (av := .v _) rfl g2 rfl) ?_
        refine AR.run rfl rfl ?_
        refine AO.ops rfl rfl (opS_move (av := .v _) rfl) ?_
        refine AR.guard rfl rfl rfl rfl rfl (fun g3 => ?_) (fun g3 d hd => ?_) (fun h => by cases h)
        ·
          have g3p := g3; try simp only [decide_eq_true_eq, decide_eq_false_iff_not, Bool.not_eq_true', Bool.not_eq_false', Bool.not_true, Bool.not_false, Bool.not_eq_eq_eq_not] at g3p
          first | (refine AO.ops rfl rfl (opS_move (av := slE _ _ _) rfl) ?_) | (refine AO.ops rfl rfl (opS_move (av := .v _) rfl) ?_) | (refine AO.ops rfl rfl (opS_move (av := .vw _ _ _ _) rfl) ?_)
          refine AR.guard rfl rfl rfl rfl rfl (fun _ => ?_) (fun hx => bool_no g3 hx) (fun h => by cases h)
          refine AO.ops rfl rfl (opS_indexAddr_lt (m := 0) Try.underlying22 (by kernel_rfl) rfl rfl ?h1 ?h2) ?_
          (case h1 => (omega))
          (case h2 => (omega))
          refine AR.guard rfl rfl rfl rfl rfl (fun _ => ?_) (fun hx => bool_no g3 hx) (fun h => by cases h)
          first | refine AO.ops rfl rfl (opS_load_cp Try.underlying5 rfl rfl) ?_ | refine AO.op rfl rfl (opR_load_pt (i := 0) Try.underlying5 rfl rfl rfl rfl) ?_ | refine AO.op rfl rfl (opR_load_pt (i := 1) Try.underlying5 rfl rfl rfl rfl) ?_ | refine AO.op rfl rfl (opR_load_pt (i := 2) Try.underlying5 rfl rfl rfl rfl) ?_ | refine AO.op rfl rfl (opR_load_pt (i := 3) Try.underlying5 rfl rfl rfl rfl) ?_
          refine AR.guard rfl rfl rfl rfl rfl (fun _ => ?_) (fun hx => bool_no g3 hx) (fun h => by cases h)
          refine AO.ops rfl rfl (opS_nei rfl rfl) ?_
          refine AR.run rfl rfl ?_
          refine AO.ops rfl rfl (opS_pick_t (av := .v _) rfl g3 rfl) ?_
          refine AR.run rfl rfl ?_
          refine AO.ops rfl rfl (opS_move (av := .v _) rfl) ?_
          refine AR.guard rfl rfl rfl rfl rfl (fun g4 => ?_) (fun g4 d hd => ?_) (fun h => by cases h)
          ·
            have g4p := g4; try simp only [decide_eq_true_eq, decide_eq_false_iff_not, Bool.not_eq_true', Bool.not_eq_false', Bool.not_true, Bool.not_false, Bool.not_eq_eq_eq_not] at g4p
            refine AO.ops rfl rfl (opS_move (av := .v _) rfl) ?_
            refine AR.guard rfl rfl rfl rfl rfl (fun _ => ?_) (fun hx => bool_no hx g4) (fun h => by cases h)
            refine AO.ops rfl rfl (opS_gt rfl rfl) ?_
            refine AR.guard rfl rfl rfl rfl rfl (fun _ => ?_) (fun hx => bool_no hx g4) (fun h => by cases h)
            refine AO.ops rfl rfl (opS_move (av := .v _) rfl) ?_
            refine AR.guard rfl rfl rfl rfl rfl (fun g5 => ?_) (fun g5 d hd => ?_) (fun h => by cases h)
            ·
              have g5p := g5; try simp only [decide_eq_true_eq, decide_eq_false_iff_not, Bool.not_eq_true', Bool.not_eq_false', Bool.not_true, Bool.not_false, Bool.not_eq_eq_eq_not] at g5p
              refine AO.ops rfl rfl (opS_move (av := .v _) rfl) ?_
              refine AR.guard rfl rfl rfl rfl rfl (fun _ => ?_) (fun hx => bool_no g5 hx) (fun h => by cases h)
              refine AO.ops rfl rfl (opS_lt rfl rfl) ?_
              refine AR.guard rfl rfl rfl rfl rfl (fun _ => ?_) (fun hx => bool_no hx g4) (fun h => by cases h)
              refine AO.ops rfl rfl (opS_pick_t (av := .v _) rfl g5 rfl) ?_
              refine AR.guard rfl rfl rfl rfl rfl (fun _ => ?_) (fun hx => bool_no hx g4) (fun h => by cases h)
              refine AO.ops rfl rfl (opS_move (av := .v _) rfl) ?_
              refine AR.guard rfl rfl rfl rfl rfl (fun g6 => ?_) (fun g6 d hd => ?_) (fun h => by cases h)
              ·
                have g6p := g6; try simp only [decide_eq_true_eq, decide_eq_false_iff_not, Bool.not_eq_true', Bool.not_eq_false', Bool.not_true, Bool.not_false, Bool.not_eq_eq_eq_not] at g6p
                refine AO.ops rfl rfl (opS_move (av := .v _) rfl) ?_
                refine AR.guard rfl rfl rfl rfl rfl (fun _ => ?_) (fun hx => bool_no g6 hx) (fun h => by cases h)
                refine AO.ops rfl rfl (opS_nei rfl rfl) ?_
                refine AR.guard rfl rfl rfl rfl rfl (fun _ => ?_) (fun hx => bool_no hx g4) (fun h => by cases h)
                refine AO.ops rfl rfl (opS_pick_t (av := .v _) rfl g6 rfl) ?_
                refine AR.run rfl rfl ?_
                refine AO.ops rfl rfl (opS_pick_f (av := .v _) rfl g4 rfl) ?_
                refine AR.nil ?_
                -- END 3 (cut2)
                refine ⟨(), ?_, ?_⟩
                · trivial
                · refine WK.env (Env.le.cons ?_ (Env.le.cons ?_ (Env.le.nil _))) ?_
                  all_goals first | exact Sub.refl _ | exact Sub.nil _ | ((repeat (first | exact Sub.refl _ | exact Sub.nil _ | refine Sub.cons _ ?_ | refine Sub.skip _ ?_)); done) | exact Wv.refl _ | exact Wv.any _ | exact Wv.tok _ _ _ | exact Wv.nil _ | (refine Wv.of_eq ?_; first | rfl | exact i64_congr (by omega) | (refine B_congr ?_; rw [Bool.eq_iff_iff]; cases r <;> simp [Qp.plainB_nil, Qp.plainB_cons] at * <;> omega))
              ·
                cases hd; refine ⟨rfl, ?_⟩
                have g6p := g6; try simp only [decide_eq_true_eq, decide_eq_false_iff_not, Bool.not_eq_true', Bool.not_eq_false', Bool.not_true, Bool.not_false, Bool.not_eq_eq_eq_not] at g6p
                refine AR.guard rfl rfl rfl rfl rfl (fun hx => bool_no hx g6) (fun _ d hd => ?_) (fun h => by cases h)
                cases hd; refine ⟨rfl, ?_⟩
                refine AR.guard rfl rfl rfl rfl rfl (fun _ => ?_) (fun hx => bool_no hx g4) (fun h => by cases h)
                refine AO.ops rfl rfl (opS_pick_f (av := .v _) rfl g6 rfl) ?_
                refine AR.run rfl rfl ?_
                refine AO.ops rfl rfl (opS_pick_f (av := .v _) rfl g4 rfl) ?_
                refine AR.nil ?_
                -- END 4 (cut2)
                refine ⟨(), ?_, ?_⟩
                · trivial
                · refine WK.env (Env.le.cons ?_ (Env.le.cons ?_ (Env.le.nil _))) ?_
                  all_goals first | exact Sub.refl _ | exact Sub.nil _ | ((repeat (first | exact Sub.refl _ | exact Sub.nil _ | refine Sub.cons _ ?_ | refine Sub.skip _ ?_)); done) | exact Wv.refl _ | exact Wv.any _ | exact Wv.tok _ _ _ | exact Wv.nil _ | (refine Wv.of_eq ?_; first | rfl | exact i64_congr (by omega) | (refine B_congr ?_; rw [Bool.eq_iff_iff]; cases r <;> simp [Qp.plainB_nil, Qp.plainB_cons] at * <;> omega))
            ·
              cases hd; refine ⟨rfl, ?_⟩
              have g5p := g5; try simp only [decide_eq_true_eq, decide_eq_false_iff_not, Bool.not_eq_true', Bool.not_eq_false', Bool.not_true, Bool.not_false, Bool.not_eq_eq_eq_not] at g5p
              refine AR.guard rfl rfl rfl rfl rfl (fun hx => bool_no hx g5) (fun _ d hd => ?_) (fun h => by cases h)
              cases hd; refine ⟨rfl, ?_⟩
              refine AR.guard rfl rfl rfl rfl rfl (fun _ => ?_) (fun hx => bool_no hx g4) (fun h => by cases h)
              refine AO.ops rfl rfl (opS_pick_f (av := .v _) rfl g5 rfl) ?_
              refine AR.guard rfl rfl rfl rfl rfl (fun _ => ?_) (fun hx => bool_no hx g4) (fun h => by cases h)
              refine AO.ops rfl rfl (opS_move (av := .v _) rfl) ?_
              refine AR.guard rfl rfl rfl rfl rfl (fun hx => bool_no hx (rfl : false = false)) (fun _ d hd => ?_) (fun h => by cases h)
              cases hd; refine ⟨rfl, ?_⟩
              refine AR.guard rfl rfl rfl rfl rfl (fun hx => bool_no hx (rfl : false = false)) (fun _ d hd => ?_) (fun h => by cases h)
              cases hd; refine ⟨rfl, ?_⟩
              refine AR.guard rfl rfl rfl rfl rfl (fun _ => ?_) (fun hx => bool_no hx g4) (fun h => by cases h)
              refine AO.ops rfl rfl (opS_pick_f (av := .v _) rfl (rfl : false = false) rfl) ?_
              refine AR.run rfl rfl ?_
              refine AO.ops rfl rfl (opS_pick_f (av := .v _) rfl g4 rfl) ?_
              refine AR.nil ?_
              -- END 5 (cut2)
              refine ⟨(), ?_, ?_⟩
              · trivial
              · refine WK.env (Env.le.cons ?_ (Env.le.cons ?_ (Env.le.nil _))) ?_
                all_goals first | exact Sub.refl _ | exact Sub.nil _ | ((repeat (first | exact Sub.refl _ | exact Sub.nil _ | refine Sub.cons _ ?_ | refine Sub.skip _ ?_)); done) | exact Wv.refl _ | exact Wv.any _ | exact Wv.tok _ _ _ | exact Wv.nil _ | (refine Wv.of_eq ?_; first | rfl | exact i64_congr (by omega) | (refine B_congr ?_; rw [Bool.eq_iff_iff]; cases r <;> simp [Qp.plainB_nil, Qp.plainB_cons] at * <;> omega))
          ·
            cases hd; refine ⟨rfl, ?_⟩
            have g4p := g4; try simp only [decide_eq_true_eq, decide_eq_false_iff_not, Bool.not_eq_true', Bool.not_eq_false', Bool.not_true, Bool.not_false, Bool.not_eq_eq_eq_not] at g4p
            refine AR.guard rfl rfl rfl rfl rfl (fun hx => bool_no g4 hx) (fun _ d hd => ?_) (fun h => by cases h)
            cases hd; refine ⟨rfl, ?_⟩
            refine AR.guard rfl rfl rfl rfl rfl (fun hx => bool_no g4 hx) (fun _ d hd => ?_) (fun h => by cases h)
            cases hd; refine ⟨rfl, ?_⟩
            refine AR.guard_u rfl rfl rfl rfl rfl (fun d hd => ?_) (fun h => by cases h)
            cases hd; refine ⟨rfl, ?_⟩
            refine AR.guard_u rfl rfl rfl rfl rfl (fun d hd => ?_) (fun h => by cases h)
            cases hd; refine ⟨rfl, ?_⟩
            refine AR.guard rfl rfl rfl rfl rfl (fun hx => bool_no g4 hx) (fun _ d hd => ?_) (fun h => by cases h)
            cases hd; refine ⟨rfl, ?_⟩
            refine AR.guard rfl rfl rfl rfl rfl (fun hx => bool_no g4 hx) (fun _ d hd => ?_) (fun h => by cases h)
            cases hd; refine ⟨rfl, ?_⟩
            refine AR.guard_u rfl rfl rfl rfl rfl (fun d hd => ?_) (fun h => by cases h)
            cases hd; refine ⟨rfl, ?_⟩
            refine AR.guard_u rfl rfl rfl rfl rfl (fun d hd => ?_) (fun h => by cases h)
            cases hd; refine ⟨rfl, ?_⟩
            refine AR.guard rfl rfl rfl rfl rfl (fun hx => bool_no g4 hx) (fun _ d hd => ?_) (fun h => by cases h)
            cases hd; refine ⟨rfl, ?_⟩
            refine AR.run rfl rfl ?_
            refine AO.ops rfl rfl (opS_pick_t (av := .v _) rfl g4 rfl) ?_
            refine AR.nil ?_
            -- END 6 (cut2)
            refine ⟨(), ?_, ?_⟩
            · trivial
            · refine WK.env (Env.le.cons ?_ (Env.le.cons ?_ (Env.le.nil _))) ?_
              all_goals first | exact Sub.refl _ | exact Sub.nil _ | ((repeat (first | exact Sub.refl _ | exact Sub.nil _ | refine Sub.cons _ ?_ | refine Sub.skip _ ?_)); done) | exact Wv.refl _ | exact Wv.any _ | exact Wv.tok _ _ _ | exact Wv.nil _ | (refine Wv.of_eq ?_; first | rfl | exact i64_congr (by omega) | (refine B_congr ?_; rw [Bool.eq_iff_iff]; cases r <;> simp [Qp.plainB_nil, Qp.plainB_cons] at * <;> omega))
        ·
          cases hd; refine ⟨rfl, ?_⟩
          have g3p := g3; try simp only [decide_eq_true_eq, decide_eq_false_iff_not, Bool.not_eq_true', Bool.not_eq_false', Bool.not_true, Bool.not_false, Bool.not_eq_eq_eq_not] at g3p
          refine AR.guard rfl rfl rfl rfl rfl (fun hx => bool_no hx g3) (fun _ d hd => ?_) (fun h => by cases h)
          cases hd; refine ⟨rfl, ?_⟩
          refine AR.guard rfl rfl rfl rfl rfl (fun hx => bool_no hx g3) (fun _ d hd => ?_) (fun h => by cases h)
          cases hd; refine ⟨rfl, ?_⟩
          refine AR.guard rfl rfl rfl rfl rfl (fun hx => bool_no hx g3) (fun _ d hd => ?_) (fun h => by cases h)
          cases hd; refine ⟨rfl, ?_⟩
          refine AR.run rfl rfl ?_
          refine AO.ops rfl rfl (opS_pick_f (av := .v _) rfl g3 rfl) ?_
          refine AR.run rfl rfl ?_
          refine AO.ops rfl rfl (opS_move (av := .v _) rfl) ?_
          refine AR.guard rfl rfl rfl rfl rfl (fun _ => ?_) (fun hx => bool_no hx (rfl : false = false)) (fun h => by cases h)
          refine AO.ops rfl rfl (opS_move (av := .v _) rfl) ?_
          refine AR.guard rfl rfl rfl rfl rfl (fun _ => ?_) (fun hx => bool_no hx (rfl : false = false)) (fun h => by cases h)
          refine AO.ops rfl rfl (opS_gt rfl rfl) ?_
          refine AR.guard rfl rfl rfl rfl rfl (fun _ => ?_) (fun hx => bool_no hx (rfl : false = false)) (fun h => by cases h)
          refine AO.ops rfl rfl (opS_move (av := .v _) rfl) ?_
          refine AR.guard rfl rfl rfl rfl rfl (fun g7 => ?_) (fun g7 d hd => ?_) (fun h => by cases h)
          ·
            have g7p := g7; try simp only [decide_eq_true_eq, decide_eq_false_iff_not, Bool.not_eq_true', Bool.not_eq_false', Bool.not_true, Bool.not_false, Bool.not_eq_eq_eq_not] at g7p
            refine AO.ops rfl rfl (opS_move (av := .v _) rfl) ?_
            refine AR.guard rfl rfl rfl rfl rfl (fun _ => ?_) (fun hx => bool_no g7 hx) (fun h => by cases h)
            refine AO.ops rfl rfl (opS_lt rfl rfl) ?_
            refine AR.guard rfl rfl rfl rfl rfl (fun _ => ?_) (fun hx => bool_no hx (rfl : false = false)) (fun h => by cases h)
            refine AO.ops rfl rfl (opS_pick_t (av := .v _) rfl g7 rfl) ?_
            refine AR.guard rfl rfl rfl rfl rfl (fun _ => ?_) (fun hx => bool_no hx (rfl : false = false)) (fun h => by cases h)
            refine AO.ops rfl rfl (opS_move (av := .v _) rfl) ?_
            refine AR.guard rfl rfl rfl rfl rfl (fun g8 => ?_) (fun g8 d hd => ?_) (fun h => by cases h)
            ·
              have g8p := g8; try simp only [decide_eq_true_eq, decide_eq_false_iff_not, Bool.not_eq_true', Bool.not_eq_false', Bool.not_true, Bool.not_false, Bool.not_eq_eq_eq_not] at g8p
              refine AO.ops rfl rfl (opS_move (av := .v _) rfl) ?_
              refine AR.guard rfl rfl rfl rfl rfl (fun _ => ?_) (fun hx => bool_no g8 hx) (fun h => by cases h)
              refine AO.ops rfl rfl (opS_nei rfl rfl) ?_
              refine AR.guard rfl rfl rfl rfl rfl (fun _ => ?_) (fun hx => bool_no hx (rfl : false = false)) (fun h => by cases h)
              refine AO.ops rfl rfl (opS_pick_t (av := .v _) rfl g8 rfl) ?_
              refine AR.run rfl rfl ?_
              refine AO.ops rfl rfl (opS_pick_f (av := .v _) rfl (rfl : false = false) rfl) ?_
              refine AR.nil ?_
              -- END 7 (cut2)
              refine ⟨(), ?_, ?_⟩
              · trivial
              · refine WK.env (Env.le.cons ?_ (Env.le.cons ?_ (Env.le.nil _))) ?_
                all_goals first | exact Sub.refl _ | exact Sub.nil _ | ((repeat (first | exact Sub.refl _ | exact Sub.nil _ | refine Sub.cons _ ?_ | refine Sub.skip _ ?_)); done) | exact Wv.refl _ | exact Wv.any _ | exact Wv.tok _ _ _ | exact Wv.nil _ | (refine Wv.of_eq ?_; first | rfl | exact i64_congr (by omega) | (refine B_congr ?_; rw [Bool.eq_iff_iff]; cases r <;> simp [Qp.plainB_nil, Qp.plainB_cons] at * <;> omega))
            ·
              cases hd; refine ⟨rfl, ?_⟩
              have g8p := g8; try simp only [decide_eq_true_eq, decide_eq_false_iff_not, Bool.not_eq_true', Bool.not_eq_false', Bool.not_true, Bool.not_false, Bool.not_eq_eq_eq_not] at g8p
              refine AR.guard rfl rfl rfl rfl rfl (fun hx => bool_no hx g8) (fun _ d hd => ?_) (fun h => by cases h)
              cases hd; refine ⟨rfl, ?_⟩
              refine AR.guard rfl rfl rfl rfl rfl (fun _ => ?_) (fun hx => bool_no hx (rfl : false = false)) (fun h => by cases h)
              refine AO.ops rfl rfl (opS_pick_f (av := .v _) rfl g8 rfl) ?_
              refine AR.run rfl rfl ?_
              refine AO.ops rfl rfl (opS_pick_f (av := .v _) rfl (rfl : false = false) rfl) ?_
              refine AR.nil ?_
              -- END 8 (cut2)
              refine ⟨(), ?_, ?_⟩
              · trivial
              · refine WK.env (Env.le.cons ?_ (Env.le.cons ?_ (Env.le.nil _))) ?_
                all_goals first | exact Sub.refl _ | exact Sub.nil _ | ((repeat (first | exact Sub.refl _ | exact Sub.nil _ | refine Sub.cons _ ?_ | refine Sub.skip _ ?_)); done) | exact Wv.refl _ | exact Wv.any _ | exact Wv.tok _ _ _ | exact Wv.nil _ | (refine Wv.of_eq ?_; first | rfl | exact i64_congr (by omega) | (refine B_congr ?_; rw [Bool.eq_iff_iff]; cases r <;> simp [Qp.plainB_nil, Qp.plainB_cons] at * <;> omega))
          ·
            cases hd; refine ⟨rfl, ?_⟩
            have g7p := g7; try simp only [decide_eq_true_eq, decide_eq_false_iff_not, Bool.not_eq_true', Bool.not_eq_false', Bool.not_true, Bool.not_false, Bool.not_eq_eq_eq_not] at g7p
            refine AR.guard rfl rfl rfl rfl rfl (fun hx => bool_no hx g7) (fun _ d hd => ?_) (fun h => by cases h)
            cases hd; refine ⟨rfl, ?_⟩
            refine AR.guard rfl rfl rfl rfl rfl (fun _ => ?_) (fun hx => bool_no hx (rfl : false = false)) (fun h => by cases h)
            refine AO.ops rfl rfl (opS_pick_f (av := .v _) rfl g7 rfl) ?_
            refine AR.guard rfl rfl rfl rfl rfl (fun _ => ?_) (fun hx => bool_no hx (rfl : false = false)) (fun h => by cases h)
            refine AO.ops rfl rfl (opS_move (av := .v _) rfl) ?_
            refine AR.guard rfl rfl rfl rfl rfl (fun hx => bool_no hx (rfl : false = false)) (fun _ d hd => ?_) (fun h => by cases h)
            cases hd; refine ⟨rfl, ?_⟩
            refine AR.guard rfl rfl rfl rfl rfl (fun hx => bool_no hx (rfl : false = false)) (fun _ d hd => ?_) (fun h => by cases h)
            cases hd; refine ⟨rfl, ?_⟩
            refine AR.guard rfl rfl rfl rfl rfl (fun _ => ?_) (fun hx => bool_no hx (rfl : false = false)) (fun h => by cases h)
            refine AO.ops rfl rfl (opS_pick_f (av := .v _) rfl (rfl : false = false) rfl) ?_
            refine AR.run rfl rfl ?_
            refine AO.ops rfl rfl (opS_pick_f (av := .v _) rfl (rfl : false = false) rfl) ?_
            refine AR.nil ?_
            -- END 9 (cut2)
            refine ⟨(), ?_, ?_⟩
            · trivial
            · refine WK.env (Env.le.cons ?_ (Env.le.cons ?_ (Env.le.nil _))) ?_
              all_goals first | exact Sub.refl _ | exact Sub.nil _ | ((repeat (first | exact Sub.refl _ | exact Sub.nil _ | refine Sub.cons _ ?_ | refine Sub.skip _ ?_)); done) | exact Wv.refl _ | exact Wv.any _ | exact Wv.tok _ _ _ | exact Wv.nil _ | (refine Wv.of_eq ?_; first | rfl | exact i64_congr (by omega) | (refine B_congr ?_; rw [Bool.eq_iff_iff]; cases r <;> simp [Qp.plainB_nil, Qp.plainB_cons] at * <;> omega))
      ·
        cases hd; refine ⟨rfl, ?_⟩
        have g2p := g2; try simp only [decide_eq_true_eq, decide_eq_false_iff_not, Bool.not_eq_true', Bool.not_eq_false', Bool.not_true, Bool.not_false, Bool.not_eq_eq_eq_not] at g2p
        refine AR.guard rfl rfl rfl rfl rfl (fun hx => bool_no hx g2) (fun _ d hd => ?_) (fun h => by cases h)
        cases hd; refine ⟨rfl, ?_⟩
        refine AR.guard rfl rfl rfl rfl rfl (fun hx => bool_no hx g2) (fun _ d hd => ?_) (fun h => by cases h)
        cases hd; refine ⟨rfl, ?_⟩
        refine AR.run rfl rfl ?_
        refine AO.ops rfl rfl (opS_pick_f (av := .v _) rfl g2 rfl) ?_
        refine AR.run rfl rfl ?_
        refine AO.ops rfl rfl (opS_move (av := .v _) rfl) ?_
        refine AR.guard rfl rfl rfl rfl rfl (fun hx => bool_no hx (rfl : false = false)) (fun _ d hd => ?_) (fun h => by cases h)
        cases hd; refine ⟨rfl, ?_⟩
        refine AR.guard rfl rfl rfl rfl rfl (fun hx => bool_no hx (rfl : false = false)) (fun _ d hd => ?_) (fun h => by cases h)
        cases hd; refine ⟨rfl, ?_⟩
        refine AR.guard rfl rfl rfl rfl rfl (fun hx => bool_no hx (rfl : false = false)) (fun _ d hd => ?_) (fun h => by cases h)
        cases hd; refine ⟨rfl, ?_⟩
        refine AR.guard rfl rfl rfl rfl rfl (fun hx => bool_no hx (rfl : false = false)) (fun _ d hd => ?_) (fun h => by cases h)
        cases hd; refine ⟨rfl, ?_⟩
        refine AR.run rfl rfl ?_
        refine AO.ops rfl rfl (opS_pick_f (av := .v _) rfl (rfl : false = false) rfl) ?_
        refine AR.run rfl rfl ?_
        refine AO.ops rfl rfl (opS_move (av := .v _) rfl) ?_
        refine AR.guard rfl rfl rfl rfl rfl (fun _ => ?_) (fun hx => bool_no hx (rfl : false = false)) (fun h => by cases h)
        refine AO.ops rfl rfl (opS_move (av := .v _) rfl) ?_
        refine AR.guard rfl rfl rfl rfl rfl (fun _ => ?_) (fun hx => bool_no hx (rfl : false = false)) (fun h => by cases h)
        refine AO.ops rfl rfl (opS_gt rfl rfl) ?_
        refine AR.guard rfl rfl rfl rfl rfl (fun _ => ?_) (fun hx => bool_no hx (rfl : false = false)) (fun h => by cases h)
        refine AO.ops rfl rfl (opS_move (av := .v _) rfl) ?_
        refine AR.guard rfl rfl rfl rfl rfl (fun g9 => ?_) (fun g9 d hd => ?_) (fun h => by cases h)
        ·
          have g9p := g9; try simp only [decide_eq_true_eq, decide_eq_false_iff_not, Bool.not_eq_true', Bool.not_eq_false', Bool.not_true, Bool.not_false, Bool.not_eq_eq_eq_not] at g9p
          refine AO.ops rfl rfl (opS_move (av := .v _) rfl) ?_
          refine AR.guard rfl rfl rfl rfl rfl (fun _ => ?_) (fun hx => bool_no g9 hx) (fun h => by cases h)
          refine AO.ops rfl rfl (opS_lt rfl rfl) ?_
          refine AR.guard rfl rfl rfl rfl rfl (fun _ => ?_) (fun hx => bool_no hx (rfl : false = false)) (fun h => by cases h)
          refine AO.ops rfl rfl (opS_pick_t (av := .v _) rfl g9 rfl) ?_
          refine AR.guard rfl rfl rfl rfl rfl (fun _ => ?_) (fun hx => bool_no hx (rfl : false = false)) (fun h => by cases h)
          refine AO.ops rfl rfl (opS_move (av := .v _) rfl) ?_
          refine AR.guard rfl rfl rfl rfl rfl (fun g10 => ?_) (fun g10 d hd => ?_) (fun h => by cases h)
          ·
            have g10p := g10; try simp only [decide_eq_true_eq, decide_eq_false_iff_not, Bool.not_eq_true', Bool.not_eq_false', Bool.not_true, Bool.not_false, Bool.not_eq_eq_eq_not] at g10p
            refine AO.ops rfl rfl (opS_move (av := .v _) rfl) ?_
            refine AR.guard rfl rfl rfl rfl rfl (fun _ => ?_) (fun hx => bool_no g10 hx) (fun h => by cases h)
            refine AO.ops rfl rfl (opS_nei rfl rfl) ?_
            refine AR.guard rfl rfl rfl rfl rfl (fun _ => ?_) (fun hx => bool_no hx (rfl : false = false)) (fun h => by cases h)
            refine AO.ops rfl rfl (opS_pick_t (av := .v _) rfl g10 rfl) ?_
            refine AR.run rfl rfl ?_
            refine AO.ops rfl rfl (opS_pick_f (av := .v _) rfl (rfl : false = false) rfl) ?_
            refine AR.nil ?_
            -- END 10 (cut2)
            refine ⟨(), ?_, ?_⟩
            · trivial
            · refine WK.env (Env.le.cons ?_ (Env.le.cons ?_ (Env.le.nil _))) ?_
              all_goals first | exact Sub.refl _ | exact Sub.nil _ | ((repeat (first | exact Sub.refl _ | exact Sub.nil _ | refine Sub.cons _ ?_ | refine Sub.skip _ ?_)); done) | exact Wv.refl _ | exact Wv.any _ | exact Wv.tok _ _ _ | exact Wv.nil _ | (refine Wv.of_eq ?_; first | rfl | exact i64_congr (by omega) | (refine B_congr ?_; rw [Bool.eq_iff_iff]; cases r <;> simp [Qp.plainB_nil, Qp.plainB_cons] at * <;> omega))
          ·
            cases hd; refine ⟨rfl, ?_⟩
            have g10p := g10; try simp only [decide_eq_true_eq, decide_eq_false_iff_not, Bool.not_eq_true', Bool.not_eq_false', Bool.not_true, Bool.not_false, Bool.not_eq_eq_eq_not] at g10p
            refine AR.guard rfl rfl rfl rfl rfl (fun hx => bool_no hx g10) (fun _ d hd => ?_) (fun h => by cases h)
            cases hd; refine ⟨rfl, ?_⟩
            refine AR.guard rfl rfl rfl rfl rfl (fun _ => ?_) (fun hx => bool_no hx (rfl : false = false)) (fun h => by cases h)
            refine AO.ops rfl rfl (opS_pick_f (av := .v _) rfl g10 rfl) ?_
            refine AR.run rfl rfl ?_
            refine AO.ops rfl rfl (opS_pick_f (av := .v _) rfl (rfl : false = false) rfl) ?_
            refine AR.nil ?_
            -- END 11 (cut2)
            refine ⟨(), ?_, ?_⟩
            · trivial
            · refine WK.env (Env.le.cons ?_ (Env.le.cons ?_ (Env.le.nil _))) ?_
              all_goals first | exact Sub.refl _ | exact Sub.nil _ | ((repeat (first | exact Sub.refl _ | exact Sub.nil _ | refine Sub.cons _ ?_ | refine Sub.skip _ ?_)); done) | exact Wv.refl _ | exact Wv.any _ | exact Wv.tok _ _ _ | exact Wv.nil _ | (refine Wv.of_eq ?_; first | rfl | exact i64_congr (by omega) | (refine B_congr ?_; rw [Bool.eq_iff_iff]; cases r <;> simp [Qp.plainB_nil, Qp.plainB_cons] at * <;> omega))
        ·
          cases hd; refine ⟨rfl, ?_⟩
          have g9p := g9; try simp only [decide_eq_true_eq, decide_eq_false_iff_not, Bool.not_eq_true', Bool.not_eq_false', Bool.not_true, Bool.not_false, Bool.not_eq_eq_eq_not] at g9p
          refine AR.guard rfl rfl rfl rfl rfl (fun hx => bool_no hx g9) (fun _ d hd => ?_) (fun h => by cases h)
          cases hd; refine ⟨rfl, ?_⟩
          refine AR.guard rfl rfl rfl rfl rfl (fun _ => ?_) (fun hx => bool_no hx (rfl : false = false)) (fun h => by cases h)
          refine AO.ops rfl rfl (opS_pick_f (av := .v _) rfl g9 rfl) ?_
          refine AR.guard rfl rfl rfl rfl rfl (fun _ => ?_) (fun hx => bool_no hx (rfl : false = false)) (fun h => by cases h)
          refine AO.ops rfl rfl (opS_move (av := .v _) rfl) ?_
          refine AR.guard rfl rfl rfl rfl rfl (fun hx => bool_no hx (rfl : false = false)) (fun _ d hd => ?_) (fun h => by cases h)
          cases hd; refine ⟨rfl, ?_⟩
          refine AR.guard rfl rfl rfl rfl rfl (fun hx => bool_no hx (rfl : false = false)) (fun _ d hd => ?_) (fun h => by cases h)
          cases hd; refine ⟨rfl, ?_⟩
          refine AR.guard rfl rfl rfl rfl rfl (fun _ => ?_) (fun hx => bool_no hx (rfl : false = false)) (fun h => by cases h)
          refine AO.ops rfl rfl (opS_pick_f (av := .v _) rfl (rfl : false = false) rfl) ?_
          refine AR.run rfl rfl ?_
          refine AO.ops rfl rfl (opS_pick_f (av := .v _) rfl (rfl : false = false) rfl) ?_
          refine AR.nil ?_
          -- END 12 (cut2)
          refine ⟨(), ?_, ?_⟩
          · trivial
          · refine WK.env (Env.le.cons ?_ (Env.le.cons ?_ (Env.le.nil _))) ?_
            all_goals first | exact Sub.refl _ | exact Sub.nil _ | ((repeat (first | exact Sub.refl _ | exact Sub.nil _ | refine Sub.cons _ ?_ | refine Sub.skip _ ?_)); done) | exact Wv.refl _ | exact Wv.any _ | exact Wv.tok _ _ _ | exact Wv.nil _ | (refine Wv.of_eq ?_; first | rfl | exact i64_congr (by omega) | (refine B_congr ?_; rw [Bool.eq_iff_iff]; cases r <;> simp [Qp.plainB_nil, Qp.plainB_cons] at * <;> omega))
    · rintro _ _
      show AW _ _ _ _ _ _
      refine AW.cond rfl (fun c11 => ?_) (fun c11 => ?_)
      ·
        have c11p := c11; try simp only [decide_eq_true_eq, decide_eq_false_iff_not, Bool.not_eq_true', Bool.not_eq_false', Bool.not_true, Bool.not_false, Bool.not_eq_eq_eq_not] at c11p
        refine AW.seq ?_
        refine AW.region ?_
        show AR _ _ _ _ _ [0, 1, 2, 3] _
        refine AR.run rfl rfl ?_
        refine AO.ops rfl rfl (opS_move (av := .v _) rfl) ?_
        refine AR.run rfl rfl ?_
        refine AO.op rfl rfl (opR_buildE (E := Enc.byte) (bytes := 1) (xs := [.tmp 36]) (l := [_]) Try.underlying22 (by kernel_rfl) rfl rfl (by decide) rfl rfl) ?_
        refine AR.run rfl rfl ?_
        refine AO.ops rfl rfl (opS_conv_bytes_str Try.underlying22 Try.underlying5 Try.underlying9 rfl) ?_
        refine AR.run rfl rfl ?_
        refine AO.ops rfl rfl (opS_assign (av := .v _) rfl) ?_
        refine AR.nil ?_
        show AW _ _ _ _ _ _
        refine AW.ret ?_
        -- END 13 (ret)
        show RetPost _ _ _ _ .ret _
        (refine ⟨rfl, _, _, (ResV.one (av := .v _) rfl rfl), ?sub, Ret.mk ?_⟩)
        case sub => first | exact Sub.refl _ | exact Sub.nil _
        simp [Qp.code, c11p]
      ·
        have c11p := c11; try simp only [decide_eq_true_eq, decide_eq_false_iff_not, Bool.not_eq_true', Bool.not_eq_false', Bool.not_true, Bool.not_false, Bool.not_eq_eq_eq_not] at c11p
        refine AW.skip ?_
        show AW _ _ _ _ _ _
        refine AW.seq ?_
        refine AW.region_draw (by kernel_rfl) ?_
        show AI _ _ _ _ 9 (Array.replicate 9 false) _
        refine AI.take (i := 0) rfl rfl (by kernel_rfl) (by kernel_rfl) (by kernel_rfl) (fun _ _ h => by obtain ⟨_, _, _, h, _⟩ := h; cases h) (opS_move (av := .v _) rfl) ?_
        show AI _ _ _ _ _ #[true, false, false, false, false, false, false, false, false] _
        refine AI.take (i := 1) rfl rfl (by kernel_rfl) (by kernel_rfl) (by kernel_rfl) (fun _ _ h => by obtain ⟨_, _, _, h, _⟩ := h; cases h) (OpS.eq (av' := .v (.int .u8 ((c.toNat / 16 : Nat) : Int))) (opS_shr rfl rfl ?h3) ?h4) ?_; (case h3 => (decide)); (case h4 => (exact shr4 c))
        show AI _ _ _ _ _ #[true, true, false, false, false, false, false, false, false] _
        refine AI.take (i := 2) rfl rfl (by kernel_rfl) (by kernel_rfl) (by kernel_rfl) (fun _ _ h => by obtain ⟨_, _, _, h, _⟩ := h; cases h) (opS_index_str (c := Qp.dg (c.toNat / 16)) Try.underlying9 rfl rfl rfl ?h5) ?_; (case h5 => (exact dg_at (c.toNat / 16) (by have := c.toNat_lt; omega)))
        show AI _ _ _ _ _ #[true, true, true, false, false, false, false, false, false] _
        refine AI.take (i := 3) rfl rfl (by kernel_rfl) (by kernel_rfl) (by kernel_rfl) (fun _ _ h => by obtain ⟨_, _, _, h, _⟩ := h; cases h) (opS_move (av := .v _) rfl) ?_
        show AI _ _ _ _ _ #[true, true, true, true, false, false, false, false, false] _
        refine AI.take (i := 4) rfl rfl (by kernel_rfl) (by kernel_rfl) (by kernel_rfl) (fun _ _ h => by obtain ⟨_, _, _, h, _⟩ := h; cases h) (OpS.eq (av' := .v (.int .u8 ((c.toNat % 16 : Nat) : Int))) (opS_and rfl rfl) ?h6) ?_; (case h6 => (exact and15 c))
        show AI _ _ _ _ _ #[true, true, true, true, true, false, false, false, false] _
        refine AI.take (i := 5) rfl rfl (by kernel_rfl) (by kernel_rfl) (by kernel_rfl) (fun _ _ h => by obtain ⟨_, _, _, h, _⟩ := h; cases h) (opS_index_str (c := Qp.dg (c.toNat % 16)) Try.underlying9 rfl rfl rfl ?h7) ?_; (case h7 => (exact dg_at (c.toNat % 16) (by omega)))
        show AI _ _ _ _ _ #[true, true, true, true, true, true, false, false, false] _
        refine AI.one (i := 6) (by kernel_rfl) rfl rfl ?_
        refine AIO.op rfl (opR_buildE (E := Enc.byte) (bytes := 1) (xs := [.const (.int .u8 (61)), .tmp 41, .tmp 44]) (l := [(61), _, _]) Try.underlying22 (by kernel_rfl) rfl rfl (by decide) rfl rfl) ?_
        show AI _ _ _ _ _ #[true, true, true, true, true, true, true, false, false] _
        refine AI.take (i := 7) rfl rfl (by kernel_rfl) (by kernel_rfl) (by kernel_rfl) (fun _ _ h => by obtain ⟨_, _, _, h, _⟩ := h; cases h) (opS_conv_bytes_str Try.underlying22 Try.underlying5 Try.underlying9 rfl) ?_
        show AI _ _ _ _ _ #[true, true, true, true, true, true, true, true, false] _
        refine AI.take (i := 8) rfl rfl (by kernel_rfl) (by kernel_rfl) (by kernel_rfl) (fun _ _ h => by obtain ⟨_, _, _, h, _⟩ := h; cases h) (opS_assign (av := .v _) rfl) ?_
        show AI _ _ _ _ _ #[true, true, true, true, true, true, true, true, true] _
        refine AI.done rfl ?_
        show AW _ _ _ _ _ _
        refine AW.ret ?_
        -- END 14 (ret)
        show RetPost _ _ _ _ .ret _
        (refine ⟨rfl, _, _, (ResV.one (av := .v _) rfl rfl), ?sub, Ret.mk ?_⟩)
        case sub => first | exact Sub.refl _ | exact Sub.nil _
        simp [Qp.code, c11p]
end Go.Proofs.Ytgdelfhbelfefaa
