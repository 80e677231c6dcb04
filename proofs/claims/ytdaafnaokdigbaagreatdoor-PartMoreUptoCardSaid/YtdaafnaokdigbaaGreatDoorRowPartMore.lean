/-
  PartMore: the row, out of the walk and the plain law; and its card.
-/
import Derived.Test.YtdaafnaokdigbaaGreatDoorRows
import Derived.Test.YtdaafnaokdigbaaGreatDoorCards
import Derived.Test.YtdaafnaokdigbaaGreatDoorTie
import Derived.Test.YtdaafnaokdigbaaGreatDoorZPartMore4
import Derived.Lib.LaidTab
import Derived.Stop.LaidErr
import Derived.Deep.DeepHandedRow
import Derived.WalkKit
import Derived.ProofKit
import Derived.OpenShut
import Derived.ShutString
import Derived.ChangeOld
import Derived.Below
import Derived.LaidMore
import Derived.Lay
import Derived.SevenTiedAt
import Derived.Stop.Joined
namespace Go.Proofs.YtdaafnaokdigbaaGreatDoor
open Go.ChangeShapes Go.WideShapes Go.ChangeAt Go.RowKit
open Go.ChangeMaps (open_string shut_string)
set_option linter.unusedVariables false
theorem ownPartMore : ownKnob Tryz.prog.godebug = none := by kernel_rfl
theorem laidOutPartMore : laidOutB Tryz.prog = true := by kernel_rfl
theorem plainLaidPartMore : (Rows.partMoreUptoRow.laid.all fun x => x.2.handleName?.isNone) = true := by kernel_rfl
/-- What the variables that the walk reads hold when the call begins. -/
theorem globsPartMore {W : World} (hsh : W.ShapedOpen Tryz.prog) (hL : laidMetH Tryz.prog Rows.partMoreUptoRow.laid W) : ∀ g cs, Go.Av.G g = some cs → Go.Av.Rel (Go.Av.Info.start W) W (Go.Av.gv cs) (.pointer (some ⟨g, 0, none⟩)) := by
  rw [MakeChecks.laidMetH_plain _ _ _ plainLaidPartMore] at hL
  have x0 : ∃ m, W.cell? ⟨0, 0, none⟩ = some (.int .i64 m) := cell_of_shapedOpen_int (P := Tryz.prog) (g := 0) (t := 3) (zero := #[.int .i64 0]) hsh (of_decide_eq_true (by kernel_rfl)) (by kernel_rfl) rfl (by kernel_rfl) (by kernel_rfl) Tryz.underlying3
  have e1 : (Rows.laid_internal_strconv_uint64pow10 : DataW Unit) = Go.Lib.tabData .u64 Go.Lib.pow10Tab := by kernel_rfl
  have y1 := (laidMet.tail (laidMet.tail hL))
  have z1 : ∃ r, laidMet Tryz.prog (("internal/strconv.uint64pow10", Go.Lib.tabData .u64 Go.Lib.pow10Tab) :: r) W := by
    rw [← e1]
    exact ⟨_, y1⟩
  have x1 : Go.Lib.TabIs Tryz.prog W "internal/strconv.uint64pow10" .u64 Go.Lib.pow10Tab := by
    obtain ⟨r, h⟩ := z1
    exact Go.Lib.tabIs_of_head (g := 1) (t := 133) (e := 116) (n := 20) (by kernel_rfl) (by kernel_rfl) Tryz.underlying133 Tryz.underlying116 (by kernel_rfl) (by kernel_rfl) h
  intro g cs hG
  rcases g with _ | _ | g
  · obtain rfl := Option.some.inj hG
    obtain ⟨m, hm⟩ := x0
    exact Go.Av.rel_var hm (.anyk _ _)
  · obtain rfl := Option.some.inj hG
    have h := Go.Av.rel_tab (g := 1) (by kernel_rfl) x1
    simpa [Go.Lib.pow10Tab, Function.comp_def] using h
  · simp [Go.Av.G] at hG
set_option maxRecDepth 100000 in
theorem readsPartMore (os : Os) {H : Type} (enc : TypeId × Value → H) : ∃ places, DataW.whole enc Tryz.prog ((World.laidAll Tryz.prog os Rows.partMoreUptoRow.laid).forCall (fun _ _ => 0) ⟨#[], #[.slice none 0 0, .slice none 0 0, .string ByteArray.empty, .slice none 0 0], []⟩).memory Tryz.f7.params.toList Rows.partMoreSpec.vars false #[.slice none 0 0, .slice none 0 0, .string ByteArray.empty, .slice none 0 0].toList 8 = some ([.nil, .nil, .lit (.string []), .nil], [], places) :=
  ⟨[], by kernel_rfl⟩
set_option maxRecDepth 100000 in
theorem liftedPartMore (os : Os) (started : os.Started) (H : Type) (enc : TypeId × Value → H) (F : Stop.Interp) :
    ReturnsInHanded {} Tryz.checked os 7 .any ((Rows.OpenSpec.upto Rows.partMoreSpec).preRow enc Tryz.prog Tryz.f7 Rows.partMoreUptoRow.domain false Rows.partMoreUptoRow.laid) (((Rows.OpenSpec.upto Rows.partMoreSpec).at F).post enc Tryz.prog Tryz.f7 false true false false) := by
  obtain ⟨places, hx⟩ := readsPartMore os enc
  refine returnsInHanded_of_row (C := Tryz.checked) (s := (Rows.OpenSpec.upto Rows.partMoreSpec)) ownPartMore started (by kernel_rfl) Tryz.func7
    (witness_row_at (enc := enc) (C := Tryz.checked) false (World.laidAll Tryz.prog os Rows.partMoreUptoRow.laid) #[.slice none 0 0, .slice none 0 0, .string ByteArray.empty, .slice none 0 0] (World.laidAll_os _ _ _) (by kernel_rfl) (by kernel_rfl) (by kernel_rfl)
      (OpenSpec.preRow_of_cond 8 hx (by kernel_rfl) (fun k hk => by cases hk; kernel_rfl) (by kernel_rfl) (laidMet_laidAll _ (by kernel_rfl) (by kernel_rfl)))) ?_
  intro W base args ds gs before hval0 hW _ hcond _ hL hsh _
  have hbulk := Go.Av.bulk_le (hcond _ rfl)
  have hval : ∀ (j : Nat) t v, Tryz.f7.params[j]? = some t → args[j]? = some v → Value.okWide Tryz.prog W .any base t v := hval0
  have hW' := hW
  obtain ⟨p, q, hA0, hV, rfl, hfz, hnd⟩ := hW
  have hA : DataW.TrodAll enc Tryz.prog W 0 (fun _ => true) true Tryz.f7.params.toList args.toList ds p := hA0
  rw [Tryz.params7] at hA hval
  obtain ⟨v0, vs0, d0, ds0, p0, q0, hargs, rfl, rfl, h0, r0⟩ := trodAll_cons hA
  obtain ⟨v1, vs1, d1, ds1, p1, q1, rfl, rfl, rfl, h1, r1⟩ := trodAll_cons r0
  obtain ⟨v2, vs2, d2, ds2, p2, q2, rfl, rfl, rfl, h2, r2⟩ := trodAll_cons r1
  obtain ⟨v3, vs3, d3, ds3, p3, q3, rfl, rfl, rfl, h3, r3⟩ := trodAll_cons r2
  obtain ⟨rfl, rfl, rfl⟩ := trodAll_nil r3
  obtain rfl : args = #[v0, v1, v2, v3] := by cases args; simp_all
  obtain ⟨rfl, rfl⟩ := trodVars_none hV
  have k0 := h0
  have lt0 : ∀ x ∈ p0, x.block < W.heap.size := by obtain ⟨m, hm⟩ := k0; exact DataW.trod_lt m _ _ _ hm
  have k1 := h1
  have lt1 : ∀ x ∈ p1, x.block < W.heap.size := by obtain ⟨m, hm⟩ := k1; exact DataW.trod_lt m _ _ _ hm
  have k2 := h2
  have lt2 : ∀ x ∈ p2, x.block < W.heap.size := by obtain ⟨m, hm⟩ := k2; exact DataW.trod_lt m _ _ _ hm
  have k3 := h3
  have lt3 : ∀ x ∈ p3, x.block < W.heap.size := by obtain ⟨m, hm⟩ := k3; exact DataW.trod_lt m _ _ _ hm
  obtain ⟨a0, len0, cap0, rfl⟩ := okWide_slice Tryz.underlying22 (hval 0 22 v0 rfl rfl)
  have bk0 : Rows.uptoBulk d0 ≤ 1048576 := Nat.le_trans (Go.Av.bulk_part (l := _) (by simp)) hbulk
  obtain ⟨l0, hp0, w0⟩ := Go.Av.oneN_of (M := 1048576) (P := Tryz.prog) (w := W) rfl h0 bk0 (Go.Av.opensN_strs Tryz.underlying22 Tryz.underlying9 (by kernel_rfl))
  obtain ⟨a1, len1, cap1, rfl⟩ := okWide_slice Tryz.underlying23 (hval 1 23 v1 rfl rfl)
  have bk1 : Rows.uptoBulk d1 ≤ 1048576 := Nat.le_trans (Go.Av.bulk_part (l := _) (by simp)) hbulk
  obtain ⟨l1, hp1, w1⟩ := Go.Av.oneN_of (M := 1048576) (P := Tryz.prog) (w := W) rfl h1 bk1 (Go.Av.opensN_slice (Go.Av.Enc.sl (Go.Av.Enc.byte)) (fun (x : List (UInt8)) => x) Tryz.underlying23 (by kernel_rfl) (Go.Av.opensN_bytes Tryz.underlying26 Tryz.underlying5 (by kernel_rfl)) (fun _ => rfl))
  have bk2 : Rows.uptoBulk d2 ≤ 1048576 := Nat.le_trans (Go.Av.bulk_part (by simp)) hbulk
  obtain ⟨a2, rfl, rfl, rfl, w2⟩ := open_string Tryz.underlying9 (hval 2 9 v2 rfl rfl) h2
  have hp2 : a2.data.toList.length ≤ 1048576 := by rw [Go.Av.bulk_str] at bk2; omega
  have bk3 : Rows.uptoBulk d3 ≤ 1048576 := Nat.le_trans (Go.Av.bulk_part (by simp)) hbulk
  obtain ⟨a3, len3, cap3, rfl⟩ := okWide_slice Tryz.underlying26 (hval 3 26 v3 rfl rfl)
  obtain ⟨l3, hp3, w3⟩ := Go.Av.oneN_of (M := 1048576) (P := Tryz.prog) (w := W) rfl h3 bk3 (Go.Av.opensN_bytes Tryz.underlying26 Tryz.underlying5 (by kernel_rfl))
  clear hA0 hval0
  refine (Go.Av.law_of (kl 40000000 (l0) none (l1) none (a2.data.toList) (l3) none true (Go.Pt.PartMore_t (l0) (l1) (a2.data.toList) (l3) hp0 hp1 hp2 hp3)) (Go.Av.RelL.cons w0 (Go.Av.RelL.cons w1 (Go.Av.RelL.cons (Go.Av.rel_string _ _ a2) (Go.Av.RelL.cons w3 Go.Av.RelL.nil)))) (globsPartMore hsh hL)).mono fun e W' ⟨he, bel⟩ => ?_
  subst he
  exact ⟨_, rfl, _, _, _, [], _, [], hW', trodAll_mk1 (shut_bool Tryz.underlying4 _), (trodAll_cons_mk (Below.trod laidOutPartMore (by kernel_rfl) (of_decide_eq_true (by kernel_rfl)) k0 bel lt0) (trodAll_cons_mk (Below.trod laidOutPartMore (by kernel_rfl) (of_decide_eq_true (by kernel_rfl)) k1 bel lt1) (trodAll_cons_mk (Below.trod laidOutPartMore (by kernel_rfl) (of_decide_eq_true (by kernel_rfl)) k2 bel lt2) (trodAll_cons_mk (Below.trod laidOutPartMore (by kernel_rfl) (of_decide_eq_true (by kernel_rfl)) k3 bel lt3) trodAll_mk0)))), rfl, bel.frame _, fun h => by cases h⟩
theorem overPartMore : Rows.partMoreUptoRow.holds Tryz.pinned (Rows.OpenSpec.upto Rows.partMoreSpec) :=
  OpenClaim.holds_of_cond 7 Tryz.f7 rfl rfl rfl rfl rfl rfl rfl ⟨rfl, rfl, rfl, rfl, rfl⟩ rfl rfl rfl rfl rfl (by kernel_rfl) Tryz.func7 (by kernel_rfl)
    (of_decide_eq_true (by kernel_rfl)) (by unfold Func.isWrapper; first | (rw [if_pos (by decide +kernel)]; kernel_rfl) | (rw [if_neg (by decide +kernel)]; exact ⟨rfl, rfl⟩))
    (fun os started H enc _ F => by rw [OpenClaim.pre_eq_preRow]; exact liftedPartMore os started H enc F)
/-- The given statement: the card. -/
theorem PartMore_holds : Rows.PartMoreUptoCardSaid :=
  Claim7.holds_tied_plain_at .later [] [.data, .data, .data, .data, .pinned] true (true, "a68746b0d2e5a2ac0801f809fd55ddef52b023357ea1c14f98d5ccfd1ff3ac4d") false overPartMore (fun _ h => by cases h) (by kernel_rfl) (fun _ h => by cases h) partMoreUpto_row_tie rfl ⟨rfl, rfl⟩ (by kernel_rfl) rfl
    (fun f fn hf hfn => by
      obtain rfl : f = 7 := Option.some.inj ((show Tryz.prog.funcNamed Rows.partMoreUptoRow.func = some 7 by kernel_rfl).symm.trans hf) |>.symm
      obtain rfl : fn = Tryz.f7 := (Option.some.inj (Tryz.func7.symm.trans hfn)).symm
      exact ⟨by kernel_rfl, fun j t ht => by
        rw [Tryz.params7] at ht
        have hm : t ∈ [22, 23, 9, 26] := by have := Array.mem_of_getElem? ht; simpa using this
        have hall : ([22, 23, 9, 26].all fun u => !Tryz.prog.wantsStandIn u) = true := by kernel_rfl
        exact (show Tryz.prog.wantsStandIn t = false by simpa using List.all_eq_true.1 hall t hm)⟩)
    (by kernel_rfl)
end Go.Proofs.YtdaafnaokdigbaaGreatDoor
