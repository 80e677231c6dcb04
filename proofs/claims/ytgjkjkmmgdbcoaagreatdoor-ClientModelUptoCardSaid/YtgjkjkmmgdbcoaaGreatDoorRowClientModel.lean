/-
  ClientModel: the row, out of the walk and the plain law; and its card.
-/
import Derived.Test.YtgjkjkmmgdbcoaaGreatDoorRows
import Derived.Test.YtgjkjkmmgdbcoaaGreatDoorCards
import Derived.Test.YtgjkjkmmgdbcoaaGreatDoorTie
import Derived.Test.YtgjkjkmmgdbcoaaGreatDoorZClientModel5
import Derived.Lib.LaidTab
import Derived.Stop.LaidErr
import Derived.Deep.DeepHandedRow
import Derived.WalkKit
import Derived.ProofKit
import Derived.OpenShut
import Derived.ShutString
import Derived.ChangeOld
import Derived.Below
import Derived.LaidMore
import Derived.Lay
import Derived.SevenTiedAt
import Derived.Stop.Joined
namespace Go.Proofs.YtgjkjkmmgdbcoaaGreatDoor
open Go.ChangeShapes Go.WideShapes Go.ChangeAt Go.RowKit
open Go.ChangeMaps (open_string shut_string)
set_option linter.unusedVariables false
theorem ownClientModel : ownKnob Tryz.prog.godebug = none := by kernel_rfl
theorem laidOutClientModel : laidOutB Tryz.prog = true := by kernel_rfl
theorem plainLaidClientModel : (Rows.clientModelUptoRow.laid.all fun x => x.2.handleName?.isNone) = true := by kernel_rfl
/-- What the variables that the walk reads hold when the call begins. -/
theorem globsClientModel {W : World} (hsh : W.ShapedOpen Tryz.prog) (hL : laidMetH Tryz.prog Rows.clientModelUptoRow.laid W) : ∀ g cs, Go.Av.G g = some cs → Go.Av.Rel (Go.Av.Info.start W) W (Go.Av.gv cs) (.pointer (some ⟨g, 0, none⟩)) := by
  rw [MakeChecks.laidMetH_plain _ _ _ plainLaidClientModel] at hL
  have x0 : ∃ m, W.cell? ⟨0, 0, none⟩ = some (.int .i64 m) := cell_of_shapedOpen_int (P := Tryz.prog) (g := 0) (t := 3) (zero := #[.int .i64 0]) hsh (of_decide_eq_true (by kernel_rfl)) (by kernel_rfl) rfl (by kernel_rfl) (by kernel_rfl) Tryz.underlying3
  have x1 : ∃ v, W.cell? ⟨1, 0, none⟩ = some v ∧ (v = .nilIface ∨ ∃ u y, v = .iface u y) := Go.Av.laid_iface (n := "strconv.ErrSyntax") (d := Rows.laid_strconv_ErrSyntax) hL (by simp [Rows.clientModelUptoRow]) (by kernel_rfl) (by kernel_rfl) Tryz.underlying76
  have x2 : ∃ v, W.cell? ⟨2, 0, none⟩ = some v ∧ (v = .nilIface ∨ ∃ u y, v = .iface u y) := Go.Av.laid_iface (n := "strconv.ErrRange") (d := Rows.laid_strconv_ErrRange) hL (by simp [Rows.clientModelUptoRow]) (by kernel_rfl) (by kernel_rfl) Tryz.underlying76
  have e5 : (Rows.laid_internal_strconv_uint64pow10 : DataW Unit) = Go.Lib.tabData .u64 Go.Lib.pow10Tab := by kernel_rfl
  have y5 := (laidMet.tail (laidMet.tail hL))
  have z5 : ∃ r, laidMet Tryz.prog (("internal/strconv.uint64pow10", Go.Lib.tabData .u64 Go.Lib.pow10Tab) :: r) W := by
    rw [← e5]
    exact ⟨_, y5⟩
  have x5 : Go.Lib.TabIs Tryz.prog W "internal/strconv.uint64pow10" .u64 Go.Lib.pow10Tab := by
    obtain ⟨r, h⟩ := z5
    exact Go.Lib.tabIs_of_head (g := 5) (t := 173) (e := 140) (n := 20) (by kernel_rfl) (by kernel_rfl) Tryz.underlying173 Tryz.underlying140 (by kernel_rfl) (by kernel_rfl) h
  intro g cs hG
  rcases g with _ | _ | _ | _ | _ | _ | g
  · obtain rfl := Option.some.inj hG
    obtain ⟨m, hm⟩ := x0
    exact Go.Av.rel_var hm (.anyk _ _)
  · obtain rfl := Option.some.inj hG
    obtain ⟨v, hv, hk⟩ := x1
    exact Go.Av.rel_var hv (Go.Av.rel_anyi hk)
  · obtain rfl := Option.some.inj hG
    obtain ⟨v, hv, hk⟩ := x2
    exact Go.Av.rel_var hv (Go.Av.rel_anyi hk)
  · simp [Go.Av.G] at hG
  · simp [Go.Av.G] at hG
  · obtain rfl := Option.some.inj hG
    have h := Go.Av.rel_tab (g := 5) (by kernel_rfl) x5
    simpa [Go.Lib.pow10Tab, Function.comp_def] using h
  · simp [Go.Av.G] at hG
set_option maxRecDepth 100000 in
theorem readsClientModel (os : Os) {H : Type} (enc : TypeId × Value → H) : ∃ places, DataW.whole enc Tryz.prog ((World.laidAll Tryz.prog os Rows.clientModelUptoRow.laid).forCall (fun _ _ => 0) ⟨#[], #[.agg #[.int .i64 0, .int .i64 0, .string ByteArray.empty, .string ByteArray.empty, .string ByteArray.empty, .slice none 0 0], .slice none 0 0], []⟩).memory Tryz.f5.params.toList Rows.clientModelSpec.vars false #[.agg #[.int .i64 0, .int .i64 0, .string ByteArray.empty, .string ByteArray.empty, .string ByteArray.empty, .slice none 0 0], .slice none 0 0].toList 8 = some ([.agg [.lit (.int .i64 0), .lit (.int .i64 0), .lit (.string []), .lit (.string []), .lit (.string []), .nil], .nil], [], places) :=
  ⟨[], by kernel_rfl⟩
set_option maxRecDepth 100000 in
theorem liftedClientModel (os : Os) (started : os.Started) (H : Type) (enc : TypeId × Value → H) (F : Stop.Interp) :
    ReturnsInHanded {} Tryz.checked os 5 .any ((Rows.OpenSpec.upto Rows.clientModelSpec).preRow enc Tryz.prog Tryz.f5 Rows.clientModelUptoRow.domain false Rows.clientModelUptoRow.laid) (((Rows.OpenSpec.upto Rows.clientModelSpec).at F).post enc Tryz.prog Tryz.f5 false true false false) := by
  obtain ⟨places, hx⟩ := readsClientModel os enc
  refine returnsInHanded_of_row (C := Tryz.checked) (s := (Rows.OpenSpec.upto Rows.clientModelSpec)) ownClientModel started (by kernel_rfl) Tryz.func5
    (witness_row_at (enc := enc) (C := Tryz.checked) false (World.laidAll Tryz.prog os Rows.clientModelUptoRow.laid) #[.agg #[.int .i64 0, .int .i64 0, .string ByteArray.empty, .string ByteArray.empty, .string ByteArray.empty, .slice none 0 0], .slice none 0 0] (World.laidAll_os _ _ _) (by kernel_rfl) (by kernel_rfl) (by kernel_rfl)
      (OpenSpec.preRow_of_cond 8 hx (by kernel_rfl) (fun k hk => by cases hk; kernel_rfl) (by kernel_rfl) (laidMet_laidAll _ (by kernel_rfl) (by kernel_rfl)))) ?_
  intro W base args ds gs before hval0 hW _ hcond _ hL hsh _
  have hbulk := Go.Av.bulk_le (hcond _ rfl)
  have hval : ∀ (j : Nat) t v, Tryz.f5.params[j]? = some t → args[j]? = some v → Value.okWide Tryz.prog W .any base t v := hval0
  have hW' := hW
  obtain ⟨p, q, hA0, hV, rfl, hfz, hnd⟩ := hW
  have hA : DataW.TrodAll enc Tryz.prog W 0 (fun _ => true) true Tryz.f5.params.toList args.toList ds p := hA0
  rw [Tryz.params5] at hA hval
  obtain ⟨v0, vs0, d0, ds0, p0, q0, hargs, rfl, rfl, h0, r0⟩ := trodAll_cons hA
  obtain ⟨v1, vs1, d1, ds1, p1, q1, rfl, rfl, rfl, h1, r1⟩ := trodAll_cons r0
  obtain ⟨rfl, rfl, rfl⟩ := trodAll_nil r1
  obtain rfl : args = #[v0, v1] := by cases args; simp_all
  obtain ⟨rfl, rfl⟩ := trodVars_none hV
  have k0 := h0
  have lt0 : ∀ x ∈ p0, x.block < W.heap.size := by obtain ⟨m, hm⟩ := k0; exact DataW.trod_lt m _ _ _ hm
  have k1 := h1
  have lt1 : ∀ x ∈ p1, x.block < W.heap.size := by obtain ⟨m, hm⟩ := k1; exact DataW.trod_lt m _ _ _ hm
  have bk0 : Rows.uptoBulk d0 ≤ 1048576 := Nat.le_trans (Go.Av.bulk_part (by simp)) hbulk
  obtain ⟨z0, zp0, w0⟩ := Go.Av.open_aggN (M := 1048576) (P := Tryz.prog) (w := W) Tryz.underlying24 (hval 0 24 v0 rfl rfl) h0 bk0 (Go.Av.opensN_struct (tot := 6) Tryz.underlying24 (by kernel_rfl) (Go.Av.opensFN_cons (k := 1) rfl (by kernel_rfl) (Go.Av.opensN_int Tryz.underlying3) (Go.Av.opensFN_cons (k := 1) rfl (by kernel_rfl) (Go.Av.opensN_int Tryz.underlying3) (Go.Av.opensFN_cons (k := 1) rfl (by kernel_rfl) (Go.Av.opensN_str Tryz.underlying9) (Go.Av.opensFN_cons (k := 1) rfl (by kernel_rfl) (Go.Av.opensN_str Tryz.underlying9) (Go.Av.opensFN_cons (k := 1) rfl (by kernel_rfl) (Go.Av.opensN_str Tryz.underlying9) (Go.Av.opensFN_cons (k := 1) rfl (by kernel_rfl) (Go.Av.opensN_bytes Tryz.underlying22 Tryz.underlying5 (by kernel_rfl)) (Go.Av.opensFN_nil (tot := 6)))))))))
  obtain ⟨a0_1, a0_2, a0_3, a0_4, a0_5, a0_6, _⟩ := z0
  obtain ⟨pa0_1, pa0_2, pa0_3, pa0_4, pa0_5, pa0_6, _⟩ := zp0
  obtain ⟨a1, len1, cap1, rfl⟩ := okWide_slice Tryz.underlying36 (hval 1 36 v1 rfl rfl)
  have bk1 : Rows.uptoBulk d1 ≤ 1048576 := Nat.le_trans (Go.Av.bulk_part (l := _) (by simp)) hbulk
  obtain ⟨l1, hp1, w1⟩ := Go.Av.oneN_of (M := 1048576) (P := Tryz.prog) (w := W) rfl h1 bk1 (Go.Av.opensN_ints Tryz.underlying36 Tryz.underlying3 (by kernel_rfl))
  clear hA0 hval0
  refine (Go.Av.law_of (jA 2000000 (a0_1) (a0_2) (a0_3) (a0_4) (a0_5) (a0_6) (l1) none true (Go.Cl.ClientModel_t (a0_1) (a0_2) (a0_3) (a0_4) (a0_5) (a0_6) (l1) (Nat.le_trans pa0_3 (by decide)) (Nat.le_trans pa0_4 (by decide)) (Nat.le_trans pa0_5 (by decide)) (Nat.le_trans pa0_6 (by decide)))) (Go.Av.RelL.cons w0 (Go.Av.RelL.cons w1 Go.Av.RelL.nil)) (globsClientModel hsh hL)).mono fun e W' ⟨he, bel⟩ => ?_
  subst he
  exact ⟨_, rfl, _, _, _, [], _, [], hW', trodAll_mk1 (shut_bool Tryz.underlying4 _), (trodAll_cons_mk (Below.trod laidOutClientModel (by kernel_rfl) (of_decide_eq_true (by kernel_rfl)) k0 bel lt0) (trodAll_cons_mk (Below.trod laidOutClientModel (by kernel_rfl) (of_decide_eq_true (by kernel_rfl)) k1 bel lt1) trodAll_mk0)), rfl, bel.frame _, fun h => by cases h⟩
theorem overClientModel : Rows.clientModelUptoRow.holds Tryz.pinned (Rows.OpenSpec.upto Rows.clientModelSpec) :=
  OpenClaim.holds_of_cond 5 Tryz.f5 rfl rfl rfl rfl rfl rfl rfl ⟨rfl, rfl, rfl, rfl, rfl⟩ rfl rfl rfl rfl rfl (by kernel_rfl) Tryz.func5 (by kernel_rfl)
    (of_decide_eq_true (by kernel_rfl)) (by unfold Func.isWrapper; first | (rw [if_pos (by decide +kernel)]; kernel_rfl) | (rw [if_neg (by decide +kernel)]; exact ⟨rfl, rfl⟩))
    (fun os started H enc _ F => by rw [OpenClaim.pre_eq_preRow]; exact liftedClientModel os started H enc F)
/-- The given statement: the card. -/
theorem ClientModel_holds : Rows.ClientModelUptoCardSaid :=
  Claim7.holds_tied_plain_at .later [] [.data, .data, .data, .data, .sentinel, .sentinel, .pinned] true (true, "200425297b6fefbf121aecdde5f7e44e7ea82aafe0221b1ae02ba29ca9635da4") true overClientModel (fun _ h => by cases h) (by kernel_rfl) (fun _ h => by cases h) clientModelUpto_row_tie rfl ⟨rfl, rfl⟩ (by kernel_rfl) rfl
    (fun f fn hf hfn => by
      obtain rfl : f = 5 := Option.some.inj ((show Tryz.prog.funcNamed Rows.clientModelUptoRow.func = some 5 by kernel_rfl).symm.trans hf) |>.symm
      obtain rfl : fn = Tryz.f5 := (Option.some.inj (Tryz.func5.symm.trans hfn)).symm
      exact ⟨by kernel_rfl, fun j t ht => by
        rw [Tryz.params5] at ht
        have hm : t ∈ [24, 36] := by have := Array.mem_of_getElem? ht; simpa using this
        have hall : ([24, 36].all fun u => !Tryz.prog.wantsStandIn u) = true := by kernel_rfl
        exact (show Tryz.prog.wantsStandIn t = false by simpa using List.all_eq_true.1 hall t hm)⟩)
    (by kernel_rfl)
end Go.Proofs.YtgjkjkmmgdbcoaaGreatDoor
